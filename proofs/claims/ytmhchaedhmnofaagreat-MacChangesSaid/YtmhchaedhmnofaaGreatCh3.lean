/- The seat: part Ch3. -/
import Derived.Test.YtmhchaedhmnofaaGreatCh2
/- The abstract machine, part 13: Go's operations as abstract ones. -/
set_option linter.unusedVariables false
set_option linter.unusedSimpArgs false
namespace Go.Av

def o1 (x : Operand) (g : SO → SOp) : SOp :=
  match co x with
  | some y => g y
  | none => .bad

def oo (x : Option Operand) (g : Option SO → SOp) : SOp :=
  match x with
  | none => g none
  | some x => match co x with
    | some y => g (some y)
    | none => .bad

def partsOf (place : Nat → Option (Nat × Nat)) : List (Nat × Operand) → Option (List (Nat × Nat × SO))
  | [] => some []
  | (i, x) :: r => match place i, co x, partsOf place r with
    | some (off, size), some x', some r' => some ((off, size, x') :: r')
    | _, _, _ => none

def rowParts : List (Nat × Operand) → Option (List (Nat × SO))
  | [] => some []
  | (i, x) :: r => match co x, rowParts r with
    | some x', some r' => some ((i, x') :: r')
    | _, _ => none

def eqOp (op : BinOp) (g : Bool → SOp) : SOp :=
  match op with
  | .eql => g false
  | .neq => g true
  | _ => .bad

/-- The type of a row's elements, with their zero. -/
def elemOf (P : Program) (t : TypeId) : Option (TypeId × TypeInfo × List AVal) :=
  match P.underlying t with
  | some (.slice e) => match P.info? e with
    | some inf => match inf.zero with
      | some z => match lits z.cells.toList with
        | some zs => if zs.length = inf.size ∧ 0 < inf.size ∧ 0 < inf.bytes then some (e, inf, zs) else none
        | none => none
      | none => none
    | none => none
  | _ => none

def compB (P : Program) (d : Nat) (b : Builtin) (args : List Operand) (ts : List TypeId) : SOp :=
  match b, args, ts with
  | .len, [x], [t] => match P.underlying t with
    | some (.slice _) => o1 x fun x => .len d false x
    | some .string => o1 x fun x => .len d true x
    | _ => .bad
  | .min, [x, y], _ => o1 x fun x => o1 y fun y => .mn d x y
  | .max, [x, y], _ => o1 x fun x => o1 y fun y => .mx d x y
  | .append, [x, y], [t, t'] => if t = t' then match elemOf P t with
      | some (e, inf, _) => o1 x fun x => o1 y fun y => .app d e inf.size inf.bytes x y
      | none => .bad
    else match P.underlying t', elemOf P t with
      | some (.int _), some (e, inf, zs) => o1 x fun x => o1 y fun y => .apz d e inf.size inf.bytes zs x y
      | _, _ => .bad
  | .cap, [x], [t] => match P.underlying t with
    | some (.slice _) => o1 x fun x => .cap d x
    | _ => .bad
  | _, _, _ => .bad

def compB0 (P : Program) (d : Option Nat) (b : Builtin) (args : List Operand) (ts : List TypeId) : SOp :=
  match b, args, ts with
  | .copy, [x, y], [t, _] => match elemOf P t with
    | some (_, inf, _) => o1 x fun x => o1 y fun y => .cpy d inf.size x y
    | none => .bad
  | .clear, [x], [t] => match elemOf P t with
    | some (_, _, zs) => o1 x fun x => .clr d zs x
    | none => .bad
  | _, _, _ => .bad

def compD (P : Program) (d : Nat) (o : Op) : SOp :=
  match o with
  | .move x => o1 x fun x => .mv d x
  | .assign x => o1 x fun x => .mv d x
  | .pick c x y => o1 c fun c => o1 x fun x => o1 y fun y => .pick d c x y
  | .alloc t => match P.info? t with
    | some inf => match inf.zero with
      | some z => match lits z.cells.toList with
        | some zs => .alc d t zs
        | none => .bad
      | none => .bad
    | none => .bad
  | .box t x => o1 x fun x => .box d t x
  | .build t ps => match P.info? t with
    | some inf => match inf.zero with
      | some z => match lits z.cells.toList with
        | some zs => match placesOf P t with
          | some place => match partsOf place ps.toList with
            | some qs => .bld d zs qs
            | none => .bad
          | none => .bad
        | none => .bad
      | none => .bad
    | none => .bad
  | .buildSlice t len ps => match elemOf P t with
    | some (e, inf, zs) => if len * inf.size ≤ 16777216 then match rowParts ps.toList with
        | some qs => .bsl d e inf.size zs len qs
        | none => .bad
      else .bad
    | none => .bad
  | .load t a => match P.underlying t, P.info? t with
    | some _, some inf => o1 a fun a => .ld d a (isAg P t) inf.size
    | _, _ => .bad
  | .nilCheck x => o1 x fun x => .nck d x
  | .binOp op t x y _ => match P.underlying t with
    | some (.int _) => o1 x fun x => o1 y fun y => .bin d op x y
    | some .bool => eqOp op fun neq => o1 x fun x => o1 y fun y => .binB d neq x y
    | some .string => o1 x fun x => o1 y fun y => .binS d op x y
    | some (.struct _) => match kindsOf P t with
      | some ks => eqOp op fun neq => o1 x fun x => o1 y fun y => .binA d neq ks x y
      | none => .bad
    | _ => if nilKind P t y = true then eqOp op fun neq => o1 x fun x => .binN d (kindT P t) neq x else .bad
  | .unOp .not _ x => o1 x fun x => .not d x
  | .unOp .neg _ x => o1 x fun x => .neg d x
  | .convert s t x => match P.underlying t with
    | some (.int k) => match P.underlying s with
      | some _ => o1 x fun x => .conv d k x
      | none => .bad
    | some .string => match P.underlying s with
      | some (.slice e) => match P.underlying e with
        | some (.int .u8) => o1 x fun x => .strof d x
        | _ => .bad
      | _ => .bad
    | _ => .bad
  | .makeFunc (.func g) as bs => match cos as.toList, cos bs.toList with
    | some as', some bs' => .mkf d g as' bs'
    | _, _ => .bad
  | .slice t x lo hi none => match P.underlying t with
    | some .string => o1 x fun x => oo lo fun lo => oo hi fun hi => .slS d x lo hi
    | some (.slice e) => match P.info? e with
      | some inf => if 0 < inf.size then o1 x fun x => oo lo fun lo => oo hi fun hi => .slc d inf.size x lo hi none else .bad
      | none => .bad
    | _ => .bad
  | .fieldAddr s x fi => match P.underlying s with
    | some (.struct fs) => match fs[fi]? with
      | some fd => match P.info? fd.type with
        | some i => if i.size ≠ 0 then o1 x fun x => .fa d x fd.offset else .bad
        | none => .bad
      | none => .bad
    | _ => .bad
  | .indexAddr t x i => match P.underlying t with
    | some (.slice e) => match P.info? e with
      | some inf => o1 x fun x => o1 i fun i => .ia d x i inf.size
      | none => .bad
    | some (.array len e) => match P.info? e with
      | some inf => o1 x fun x => o1 i fun i => .iaA d x i inf.size len
      | none => .bad
    | _ => .bad
  | .index t x i => match P.underlying t with
    | some .string => o1 x fun x => o1 i fun i => .ixS d x i
    | _ => .bad
  | .extract x i => o1 x fun x => .ext d x i
  | .field t x fi => match P.underlying t with
    | some (.struct fs) => match fs[fi]? with
      | some fd => match P.underlying fd.type, P.info? fd.type with
        | some _, some inf => o1 x fun x => .fld d x fd.offset (isAg P fd.type) inf.size
        | _, _ => .bad
      | none => .bad
    | _ => .bad
  | .makeMap _ none => .mkm d
  | .lookup t m k ok => match P.underlying t with
    | some (.map kt et) => match P.underlying kt, zeroVal P et with
      | some (.int .i64), some z => o1 m fun m => o1 k fun k => .mgt d m k z ok
      | _, _ => .bad
    | _ => .bad
  | .makeSlice t x y => match elemOf P t with
    | some (e, inf, zs) => o1 x fun x => o1 y fun y => .mks d e inf.size inf.bytes zs x y
    | none => .bad
  | .slice t x lo (some hi) (some mx) => match P.underlying t with
    | some (.slice e) => match P.info? e with
      | some inf => o1 x fun x => oo lo fun lo => o1 hi fun hi => o1 mx fun mx => .slc d inf.size x lo (some hi) (some mx)
      | none => .bad
    | _ => .bad
  | .call c => match c.callee with
    | .builtin .copy => compB0 P (some d) .copy c.args.toList c.argTypes.toList
    | .builtin .clear => compB0 P (some d) .clear c.args.toList c.argTypes.toList
    | .builtin b => compB P d b c.args.toList c.argTypes.toList
    | .value g => o1 g fun g => match cos c.args.toList with
      | some xs => .call (some d) g xs
      | none => .bad
    | _ => .bad
  | _ => .bad

def compM (P : Program) (t : TypeId) (m k x : Operand) : SOp :=
  match P.underlying t with
  | some (.map kt _) => match P.underlying kt with
    | some (.int .i64) => o1 m fun m => o1 k fun k => o1 x fun x => .mst m k x
    | _ => .bad
  | _ => .bad

def compOp (P : Program) (n : Nat) (o : Oper) : SOp :=
  match o.dst with
  | some d => if d < n then compD P d o.op else .bad
  | none => match o.op with
    | .store t x y => match P.info? t with
      | some inf => o1 x fun x => o1 y fun y => .st x y inf.size
      | none => .bad
    | .mapUpdate t m k x => compM P t m k x
    | .insert t m k x => compM P t m k x
    | .call c => match c.callee with
      | .value g => o1 g fun g => match cos c.args.toList with
        | some xs => .call none g xs
        | none => .bad
      | .builtin b => compB0 P none b c.args.toList c.argTypes.toList
      | _ => .bad
    | _ => .bad

theorem o1_inv {x : Operand} {g : SO → SOp} {st : St} {f : Nat} {e : Eff} (h : astep (o1 x g) st f = some e) : ∃ y, co x = some y ∧ astep (g y) st f = some e := by
  unfold o1 at h
  split at h
  · rename_i y hy; exact ⟨y, hy, h⟩
  · cases h

theorem oo_inv {x : Option Operand} {g : Option SO → SOp} {st : St} {f : Nat} {e : Eff} (h : astep (oo x g) st f = some e) : ∃ y, OptCo x y ∧ astep (g y) st f = some e := by
  unfold oo at h
  split at h
  · exact ⟨none, trivial, h⟩
  · split at h
    · rename_i y hy; exact ⟨some y, hy, h⟩
    · cases h

theorem eqOp_inv {op : BinOp} {g : Bool → SOp} {st : St} {f : Nat} {e : Eff} (h : astep (eqOp op g) st f = some e) : ∃ neq : Bool, (op = if neq then .neq else .eql) ∧ astep (g neq) st f = some e := by
  unfold eqOp at h
  split at h
  · exact ⟨false, rfl, h⟩
  · exact ⟨true, rfl, h⟩
  · cases h

theorem val1_inv {d : Nat} {x : Option AVal} {e : Eff} (h : val1 d x = some e) : ∃ c, x = some c ∧ e = ⟨some d, c, [], [], []⟩ := by
  unfold val1 at h
  split at h
  · injection h with h; exact ⟨_, rfl, h.symm⟩
  · cases h

theorem partsOf_ok {place : Nat → Option (Nat × Nat)} {a : Go.Act} {st : St} : ∀ {ps : List (Nat × Operand)} {qs : List (Nat × Nat × SO)}, partsOf place ps = some qs → Parts place a st ps qs
  | [], qs, h => by simp [partsOf] at h; subst h; exact .nil
  | (i, x) :: r, qs, h => by
    unfold partsOf at h
    split at h
    · rename_i off size x' r' h1 h2 h3
      injection h with h; subst h
      exact .cons h1 h2 (partsOf_ok h3)
    · cases h

theorem rowParts_ok : ∀ {ps : List (Nat × Operand)} {qs : List (Nat × SO)}, rowParts ps = some qs → ps.length = qs.length ∧ ∀ (j : Nat) p q, ps[j]? = some p → qs[j]? = some q → p.1 = q.1 ∧ co p.2 = some q.2
  | [], qs, h => by simp [rowParts] at h; subst h; simp
  | (i, x) :: r, qs, h => by
    unfold rowParts at h
    split at h
    · rename_i x' r' h1 h2
      injection h with h; subst h
      obtain ⟨i1, i2⟩ := rowParts_ok h2
      refine ⟨by simp [i1], fun j p q hp hq => ?_⟩
      cases j with
      | zero => simp at hp hq; subst hp hq; exact ⟨rfl, h1⟩
      | succ j => exact i2 j p q (by simpa using hp) (by simpa using hq)
    · cases h

theorem elemOf_ok {P : Program} {t e : TypeId} {inf : TypeInfo} {zs : List AVal} (h : elemOf P t = some (e, inf, zs)) :
    P.underlying t = some (.slice e) ∧ P.info? e = some inf ∧ (∃ z, inf.zero = some z ∧ lits z.cells.toList = some zs) ∧ zs.length = inf.size ∧ 0 < inf.size ∧ 0 < inf.bytes := by
  unfold elemOf at h
  split at h
  · rename_i e0 h1
    split at h
    · rename_i inf0 h2
      split at h
      · rename_i z h3
        split at h
        · rename_i zs0 h4
          split at h
          · rename_i h5
            injection h with h; injection h with e1 h; injection h with e2 e3
            subst e1 e2 e3
            exact ⟨h1, h2, ⟨z, h3, h4⟩, h5⟩
          · cases h
        · cases h
      · cases h
    · cases h
  · cases h

theorem lenX_ok {str : Bool} {v : AVal} {m : Nat} (h : lenX str v = some m) : lenOf v = some m ∧ ((str = true) = ∃ s, v = .str s) := by
  unfold lenX at h
  split at h <;> (try (cases h; done)) <;> cases str <;> simp_all [lenOf]

section
variable {P : Program} {n : Nat} {o : Oper} {st : St} {f d : Nat} {e : Eff}

theorem obj_inv {h : Nat → AObj} {id q k : Nat} {t : TypeId} {fu : Bool} {es : List (List AVal)} (e : obj h id q = some (k, t, fu, es)) : h id = .cells q k t fu es := by
  unfold obj at e
  split at e
  · rename_i hh
    split at e
    · rename_i h1; subst h1; injection e with e; injection e with e1 e; injection e with e2 e; injection e with e3 e4; subst e1 e2 e3 e4; exact hh
    · cases e
  · cases e

theorem compB_ok {b : Builtin} {args : List Operand} {ts : List TypeId} (hfree : st.h f = .free) (hd : o.dst = some d) (hn : d < n)
    (ho : o.op = .call { callee := .builtin b, args := args.toArray, argTypes := ts.toArray }) (h : astep (compB P d b args ts) st f = some e) : OpOk P n o st f e := by
  unfold compB at h
  split at h
  · split at h
    · rename_i x t ee ht
      obtain ⟨x', hx, h⟩ := o1_inv h
      simp only [astep] at h
      split at h
      · rename_i m hm
        injection h with h; subst h
        obtain ⟨l1, l2⟩ := lenX_ok hm
        refine ok_len hd hn ho (.inl ⟨_, ht⟩) hx l1 ?_
        rw [← l2, ht]
        simp
      · cases h
    · rename_i x t ht
      obtain ⟨x', hx, h⟩ := o1_inv h
      simp only [astep] at h
      split at h
      · rename_i m hm
        injection h with h; subst h
        obtain ⟨l1, l2⟩ := lenX_ok hm
        refine ok_len hd hn ho (.inr ht) hx l1 ?_
        rw [← l2, ht]
        simp
      · cases h
    · cases h
  · obtain ⟨x', hx, h⟩ := o1_inv h
    obtain ⟨y', hy, h⟩ := o1_inv h
    obtain ⟨c, hc, rfl⟩ := val1_inv h
    exact ok_mn hd hn ho hx hy hc
  · obtain ⟨x', hx, h⟩ := o1_inv h
    obtain ⟨y', hy, h⟩ := o1_inv h
    obtain ⟨c, hc, rfl⟩ := val1_inv h
    exact ok_mx hd hn ho hx hy hc
  · split at h
    · rename_i ht
      subst ht
      split at h
      · rename_i e' inf zs hel
        obtain ⟨x', hx, h⟩ := o1_inv h
        obtain ⟨y', hy, h⟩ := o1_inv h
        obtain ⟨e1, e2, ⟨z, e3, e4⟩, e5, e6, e7⟩ := elemOf_ok hel
        simp only [astep] at h
        split at h
        · rename_i ys rd hc
          exact ok_app hd hn hfree ho e1 e2 e3 e4 e5 e6 e7 hx hy hc h
        · cases h
      · cases h
    · split at h
      · rename_i kn e' inf zs hu hel
        obtain ⟨x', hx, h⟩ := o1_inv h
        obtain ⟨y', hy, h⟩ := o1_inv h
        obtain ⟨e1, e2, ⟨z, e3, e4⟩, e5, e6, e7⟩ := elemOf_ok hel
        simp only [astep] at h
        split at h
        · rename_i k m hm
          split at h
          · rename_i hc
            have hbig := appOf_big h
            rw [List.length_replicate] at hbig
            refine ok_apz hd hn hfree ho e1 hu e2 e3 e4 e5 e6 e7 hx hy hm hc.1 ?_ h
            obtain ⟨m', rfl⟩ : ∃ m' : Nat, m = m' := ⟨m.toNat, by omega⟩
            rw [Int.toNat_natCast] at hbig
            rw [← Int.natCast_mul]
            omega
          · cases h
        · cases h
      · cases h
  · split at h
    · obtain ⟨x', hx, h⟩ := o1_inv h
      simp [astep] at h
    · cases h
  · cases h

theorem compB0_ok {b : Builtin} {args : List Operand} {ts : List TypeId} (hdn : ∀ d, o.dst = some d → d < n)
    (ho : o.op = .call { callee := .builtin b, args := args.toArray, argTypes := ts.toArray }) (h : astep (compB0 P o.dst b args ts) st f = some e) : OpOk P n o st f e := by
  unfold compB0 at h
  split at h
  · split at h
    · rename_i hel
      obtain ⟨x', hx, h⟩ := o1_inv h
      obtain ⟨y', hy, h⟩ := o1_inv h
      obtain ⟨e1, e2, _, e5, e6, e7⟩ := elemOf_ok hel
      exact ok_cpy hdn ho e1 e2 e6 hx hy h
    · cases h
  · split at h
    · rename_i hel
      obtain ⟨x', hx, h⟩ := o1_inv h
      obtain ⟨e1, e2, ⟨z, e3, e4⟩, e5, e6, e7⟩ := elemOf_ok hel
      exact ok_clr hdn ho e1 e2 e3 e4 hx h
    · cases h
  · cases h

theorem compD_ok (hfree : st.h f = .free) (hd : o.dst = some d) (hn : d < n) (h : astep (compD P d o.op) st f = some e) : OpOk P n o st f e := by
  unfold compD at h
  split at h
  case h_1 x ho =>
    obtain ⟨x', hx, h⟩ := o1_inv h
    simp only [astep] at h; injection h with h; subst h
    exact ok_mv hd hn (.inl ho) hx
  case h_2 x ho =>
    obtain ⟨x', hx, h⟩ := o1_inv h
    simp only [astep] at h; injection h with h; subst h
    exact ok_mv hd hn (.inr ho) hx
  case h_3 c x y ho =>
    obtain ⟨c', hc, h⟩ := o1_inv h
    obtain ⟨x', hx, h⟩ := o1_inv h
    obtain ⟨y', hy, h⟩ := o1_inv h
    simp only [astep] at h
    split at h
    · rename_i b hb
      injection h with h; subst h
      exact ok_pick hd hn ho hc hx hy hb
    · cases h
  case h_4 t ho =>
    split at h
    · rename_i inf hi
      split at h
      · rename_i z hz
        split at h
        · rename_i zs hzs
          simp only [astep] at h
          split at h
          · rename_i h0
            injection h with h; subst h
            exact ok_alc hd hn hfree ho hi hz hzs h0
          · cases h
        · cases h
      · cases h
    · cases h
  case h_5 t x ho =>
    obtain ⟨x', hx, h⟩ := o1_inv h
    simp only [astep] at h
    split at h
    · rename_i h0
      injection h with h; subst h
      exact ok_box hd hn hfree ho hx h0.1 h0.2
    · cases h
  case h_6 t ps ho =>
    split at h
    · rename_i inf hi
      split at h
      · rename_i z hz
        split at h
        · rename_i zs hzs
          split at h
          · rename_i place hpl
            split at h
            · rename_i qs hq
              simp only [astep] at h
              split at h
              · rename_i cs hf
                injection h with h; subst h
                exact ok_bld hd hn ho hi hz hzs hpl (fun a => partsOf_ok hq) hf
              · cases h
            · cases h
          · cases h
        · cases h
      · cases h
    · cases h
  case h_7 t len ps ho =>
    split at h
    · rename_i e' inf zs hel
      obtain ⟨e1, e2, ⟨z, e3, e4⟩, e5, e6, e7⟩ := elemOf_ok hel
      split at h
      · rename_i hsm
        split at h
        · rename_i qs hq
          simp only [astep] at h
          rw [if_pos e6] at h
          split at h
          · rename_i es hes
            injection h with h; subst h
            obtain ⟨r1, r2⟩ := rowParts_ok hq
            exact ok_bsl hd hn hfree ho e1 e2 e3 e4 e5 e6 (by omega) (by simpa using r1) (fun j p q hp hq => r2 j p q (by simpa using hp) hq) hes
          · cases h
        · cases h
      · cases h
    · cases h
  case h_8 t x ho =>
    split at h
    · rename_i ds inf hu hi
      obtain ⟨x', hx, h⟩ := o1_inv h
      simp only [astep] at h
      split at h
      · rename_i id q i p hp
        split at h
        · rename_i k t' fu es hob
          split at h
          · rename_i el hel
            split at h
            · rename_i v hv
              injection h with h; subst h
              exact ok_ld hd hn ho hu hi hx (.inl ⟨id, q, i, p, k, t', fu, es, el, hp, obj_inv hob, hel, hv⟩)
            · cases h
          · cases h
        · cases h
      · rename_i cs p hp
        obtain ⟨c, hc, rfl⟩ := val1_inv h
        exact ok_ld hd hn ho hu hi hx (.inr ⟨cs, p, hp, hc⟩)
      · cases h
    · cases h
  case h_9 x ho =>
    obtain ⟨x', hx, h⟩ := o1_inv h
    simp only [astep] at h
    split at h
    · rename_i hp
      injection h with h; subst h
      exact ok_nck hd hn ho hx hp (.inl ⟨_, _, _, _, rfl⟩)
    · rename_i hp
      injection h with h; subst h
      exact ok_nck hd hn ho hx hp (.inr (.inl ⟨_, _, rfl⟩))
    · rename_i hp
      injection h with h; subst h
      exact ok_nck hd hn ho hx hp (.inr (.inr ⟨_, _, _, rfl⟩))
    · cases h
  case h_10 op t x y t' ho =>
    split at h
    · obtain ⟨x', hx, h⟩ := o1_inv h
      obtain ⟨y', hy, h⟩ := o1_inv h
      obtain ⟨c, hc, rfl⟩ := val1_inv h
      exact ok_bin hd hn ho hx hy hc
    · rename_i hu
      obtain ⟨neq, hop, h⟩ := eqOp_inv h
      obtain ⟨x', hx, h⟩ := o1_inv h
      obtain ⟨y', hy, h⟩ := o1_inv h
      obtain ⟨c, hc, rfl⟩ := val1_inv h
      exact ok_binB hd hn ho hop hu hx hy hc
    · rename_i hu
      obtain ⟨x', hx, h⟩ := o1_inv h
      obtain ⟨y', hy, h⟩ := o1_inv h
      obtain ⟨c, hc, rfl⟩ := val1_inv h
      first | exact ok_binS hd hn ho hx hy hc | exact ok_binS hd hn ho hu hx hy hc
    · split at h
      · rename_i ks hks
        obtain ⟨neq, hop, h⟩ := eqOp_inv h
        obtain ⟨x', hx, h⟩ := o1_inv h
        obtain ⟨y', hy, h⟩ := o1_inv h
        obtain ⟨c, hc, rfl⟩ := val1_inv h
        exact ok_binA hd hn ho hop hks hx hy hc
      · cases h
    · split at h
      · rename_i hz
        obtain ⟨neq, hop, h⟩ := eqOp_inv h
        obtain ⟨x', hx, h⟩ := o1_inv h
        simp only [astep] at h
        split at h
        · rename_i hk
          split at h
          · rename_i b rd hb
            injection h with h; subst h
            have hb' : isNil (ev st.s x') = some b ∧ ∀ id q off len, ev st.s x' = .row id q off len → ∃ k t fu es, st.h id = .cells q k t fu es := by
              unfold nilOf at hb
              split at hb
              · rename_i id q off len hv
                split at hb
                · rename_i y hy
                  split at hb
                  · cases hb
                  · rename_i hl
                    injection hb with hb; injection hb with hb _
                    refine ⟨by rw [hv]; simp [isNil, hl, hb], fun id' q' off' len' e' => ?_⟩
                    rw [hv] at e'; cases e'
                    obtain ⟨k, t, fu, es⟩ := y
                    exact ⟨k, t, fu, es, obj_inv hy⟩
                · cases hb
              · rename_i hv
                split at hb
                · rename_i b' hb'
                  injection hb with hb; injection hb with hb _
                  subst hb
                  exact ⟨hb', fun id q off len e => absurd e (hv id q off len)⟩
                · cases hb
            intro a w G hr
            obtain ⟨v, w', G', r1, r2, r3⟩ := ok_binN (f := f) hd hn ho hop hz hx hk hb'.1 hb'.2 a w G hr
            refine ⟨v, w', G', r1, ?_, ?_⟩
            · simp only [Eff.app, Eff.slots, Eff.heap_nil] at r2 ⊢; exact r2
            · simp only [Eff.heap_nil] at r3 ⊢; exact r3
          · cases h
        · cases h
      · cases h
  case h_11 x ho =>
    obtain ⟨x', hx, h⟩ := o1_inv h
    simp only [astep] at h
    split at h
    · rename_i b hb
      injection h with h; subst h
      exact ok_not hd hn ho hx hb
    · cases h
  case h_12 x ho =>
    obtain ⟨x', hx, h⟩ := o1_inv h
    simp only [astep] at h
    split at h
    · rename_i hb
      injection h with h; subst h
      exact ok_neg hd hn ho hx hb
    · cases h
  case h_13 s t x ho =>
    split at h
    · rename_i k ht
      split at h
      · rename_i ds hs
        obtain ⟨x', hx, h⟩ := o1_inv h
        simp only [astep] at h
        split at h
        · rename_i hb
          injection h with h; subst h
          exact ok_conv hd hn ho hs ht hx hb
        · cases h
      · cases h
    · rename_i ht
      split at h
      · rename_i ee hs
        split at h
        · rename_i he
          obtain ⟨x', hx, h⟩ := o1_inv h
          simp only [astep] at h
          split at h
          · rename_i es rd hc
            split at h
            · rename_i bs hbs
              injection h with h; subst h
              exact ok_strof hd hn ho hs he ht hx hc hbs
            · cases h
          · cases h
        · cases h
      · cases h
    · cases h
  case h_14 g as bs ho =>
    split at h
    · rename_i as' bs' ha hb
      simp only [astep] at h; injection h with h; subst h
      exact ok_mkf hd hn ho ha hb
    · cases h
  case h_15 t x lo hi ho =>
    split at h
    · rename_i ht
      obtain ⟨x', hx, h⟩ := o1_inv h
      obtain ⟨lo', hlo, h⟩ := oo_inv h
      obtain ⟨hi', hhi, h⟩ := oo_inv h
      simp only [astep] at h
      split at h
      · rename_i s hs
        split at h
        · rename_i l u hl hu
          split at h
          · rename_i hc
            injection h with h; subst h
            exact ok_slS hd hn ho ht hx hlo hhi hs hl hu hc.1 hc.2.1 hc.2.2
          · cases h
        · cases h
      · cases h
    · rename_i ee ht
      split at h
      · rename_i inf hinf
        split at h
        · rename_i hk
          obtain ⟨x', hx, h⟩ := o1_inv h
          obtain ⟨lo', hlo, h⟩ := oo_inv h
          obtain ⟨hi', hhi, h⟩ := oo_inv h
          simp only [astep] at h
          split at h
          · rename_i m hm
            split at h
            · rename_i v rd hv
              injection h with h; subst h
              exact ok_slc hd hn ho ht hinf hk hx hlo hhi hm hv
            · cases h
          · cases h
        · cases h
      · cases h
    · cases h
  case h_16 s x fi ho =>
    split at h
    · rename_i fs hs
      split at h
      · rename_i fd hfd
        split at h
        · rename_i i hi
          split at h
          · rename_i hz
            obtain ⟨x', hx, h⟩ := o1_inv h
            simp only [astep] at h
            split at h
            · rename_i hp
              injection h with h; subst h
              exact ok_fa hd hn ho hs hfd ⟨i, hi, hz⟩ hx (.inl ⟨_, _, _, _, hp, rfl⟩)
            · rename_i hp
              injection h with h; subst h
              exact ok_fa hd hn ho hs hfd ⟨i, hi, hz⟩ hx (.inr ⟨_, _, hp, rfl⟩)
            · cases h
          · cases h
        · cases h
      · cases h
    · cases h
  case h_17 t x i ho =>
    split at h
    · rename_i ee ht
      split at h
      · rename_i inf hinf
        obtain ⟨x', hx, h⟩ := o1_inv h
        obtain ⟨i', hy, h⟩ := o1_inv h
        simp only [astep] at h
        split at h
        · rename_i k' xs ki m h1 h2
          split at h
          · rename_i hc
            obtain ⟨hk, h0⟩ := hc
            subst hk
            split at h
            · rename_i el hel
              injection h with h; subst h
              exact ok_ia hd hn ho ht hinf hx hy (.inl ⟨xs, ki, m, el, h1, h2, h0, hel, rfl⟩)
            · cases h
          · cases h
        · rename_i id q off len ki m h1 h2
          split at h
          · rename_i k' t' fu es hob
            split at h
            · rename_i hc
              obtain ⟨hk, h0, hl⟩ := hc
              subst hk
              injection h with h; subst h
              exact ok_ia hd hn ho ht hinf hx hy (.inr ⟨id, q, off, len, ki, m, t', fu, es, h1, h2, h0, hl, obj_inv hob, rfl⟩)
            · cases h
          · cases h
        · cases h
      · cases h
    · rename_i len ee ht
      split at h
      · rename_i inf hinf
        obtain ⟨x', hx, h⟩ := o1_inv h
        obtain ⟨i', hy, h⟩ := o1_inv h
        simp only [astep] at h
        split at h
        · rename_i id q i p ki m h1 h2
          split at h
          · rename_i hc
            injection h with h; subst h
            exact ok_iaA hd hn ho ht hinf hx hy h2 hc.1 hc.2 (.inl ⟨_, _, _, _, h1, rfl⟩)
          · cases h
        · rename_i cs p ki m h1 h2
          split at h
          · rename_i hc
            injection h with h; subst h
            exact ok_iaA hd hn ho ht hinf hx hy h2 hc.1 hc.2 (.inr ⟨_, _, h1, rfl⟩)
          · cases h
        · cases h
      · cases h
    · cases h
  case h_18 t x i ho =>
    split at h
    · rename_i ht
      obtain ⟨x', hx, h⟩ := o1_inv h
      obtain ⟨i', hy, h⟩ := o1_inv h
      simp only [astep] at h
      split at h
      · rename_i s ki m h1 h2
        split at h
        · rename_i h0
          split at h
          · rename_i b hb
            injection h with h; subst h
            exact ok_ixS hd hn ho ht hx hy h1 h2 h0 hb
          · cases h
        · cases h
      · cases h
    · cases h
  case h_19 x i ho =>
    obtain ⟨x', hx, h⟩ := o1_inv h
    simp only [astep] at h
    split at h
    · rename_i vs hvs
      split at h
      · rename_i v hv
        injection h with h; subst h
        exact ok_ext hd hn ho hx hvs hv
      · cases h
    · cases h
  case h_20 t x fi ho =>
    split at h
    · rename_i fs hs
      split at h
      · rename_i fd hfd
        split at h
        · rename_i ds inf hu hi
          obtain ⟨x', hx, h⟩ := o1_inv h
          simp only [astep] at h
          split at h
          · rename_i cs hcs
            obtain ⟨c, hc, rfl⟩ := val1_inv h
            exact ok_fld hd hn ho hs hfd hu hi hx hcs hc
          · cases h
        · cases h
      · cases h
    · cases h
  case h_21 t ho =>
    simp only [astep] at h; injection h with h; subst h
    exact ok_mkm hd hn hfree ho
  case h_22 t m k ok ho =>
    split at h
    · rename_i kt et ht
      split at h
      · rename_i z hk hz
        obtain ⟨m', hm, h⟩ := o1_inv h
        obtain ⟨k', hk', h⟩ := o1_inv h
        simp only [astep] at h
        split at h
        · rename_i id q em ek
          split at h
          · rename_i es hid
            have h9 := ok_mgt (f := f) hd hn ho ht hk hz hm hk' em ek hid
            split at h
            · rename_i c hc
              injection h with h; subst h
              rw [hc] at h9
              exact h9
            · rename_i hc
              injection h with h; subst h
              rw [hc] at h9
              exact h9
          · cases h
        · cases h
      · cases h
    · cases h
  case h_23 t x y ho =>
    split at h
    · rename_i e' inf zs hel
      obtain ⟨x', hx, h⟩ := o1_inv h
      obtain ⟨y', hy, h⟩ := o1_inv h
      obtain ⟨e1, e2, ⟨z, e3, e4⟩, e5, e6, e7⟩ := elemOf_ok hel
      simp only [astep] at h
      split at h
      · rename_i k m k' m' h1 h2
        split at h
        · rename_i hc
          obtain ⟨rfl, h0, hb, _, _, _⟩ := hc
          injection h with h; subst h
          exact ok_mks hd hn hfree ho e1 e2 e3 e4 e5 e6 e7 hx hy h1 h2 h0 hb
        · cases h
      · cases h
    · cases h
  case h_24 t x lo hi mx ho =>
    split at h
    · rename_i ee ht
      split at h
      · rename_i inf hinf
        obtain ⟨x', hx, h⟩ := o1_inv h
        obtain ⟨lo', hlo, h⟩ := oo_inv h
        obtain ⟨hi', hhi, h⟩ := o1_inv h
        obtain ⟨mx', hmx, h⟩ := o1_inv h
        exact ok_slc3 hd hn ho ht hinf hx hlo hhi hmx h
      · cases h
    · cases h
  case h_25 c ho =>
    have hdn : ∀ t, o.dst = some t → t < n := fun t ht => by rw [hd] at ht; injection ht with ht; subst ht; exact hn
    split at h
    · rename_i hb
      rw [← hd] at h
      exact compB0_ok (b := .copy) (args := c.args.toList) (ts := c.argTypes.toList) hdn (by rw [ho]; obtain ⟨cc, aa, tt⟩ := c; simp at hb; subst hb; rfl) h
    · rename_i hb
      rw [← hd] at h
      exact compB0_ok (b := .clear) (args := c.args.toList) (ts := c.argTypes.toList) hdn (by rw [ho]; obtain ⟨cc, aa, tt⟩ := c; simp at hb; subst hb; rfl) h
    · rename_i b _ _ hb
      exact compB_ok (b := b) (args := c.args.toList) (ts := c.argTypes.toList) hfree hd hn (by rw [ho]; obtain ⟨cc, aa, tt⟩ := c; simp at hb; subst hb; rfl) h
    · obtain ⟨x', hx, h⟩ := o1_inv h
      split at h
      · simp [astep] at h
      · cases h
    · cases h
  case h_26 => cases h

theorem compM_ok {t : TypeId} {m k x : Operand} (hd : o.dst = none) (ho : o.op = .mapUpdate t m k x ∨ o.op = .insert t m k x) (h : astep (compM P t m k x) st f = some e) : OpOk P n o st f e := by
  unfold compM at h
  split at h
  · rename_i kt et ht
    split at h
    · rename_i hk
      obtain ⟨m', hm, h⟩ := o1_inv h
      obtain ⟨k', hk', h⟩ := o1_inv h
      obtain ⟨x', hx, h⟩ := o1_inv h
      simp only [astep] at h
      split at h
      · rename_i id q em ek
        split at h
        · rename_i es hid
          split at h
          · injection h with h; subst h
            exact ok_mst hd ho ht hk hm hk' hx em ek hid
          · cases h
        · cases h
      · cases h
    · cases h
  · cases h

theorem comp_ok (hfree : st.h f = .free) (h : astep (compOp P n o) st f = some e) : OpOk P n o st f e := by
  unfold compOp at h
  split at h
  · rename_i d hd
    split at h
    · rename_i hn
      exact compD_ok hfree hd hn h
    · cases h
  · rename_i hd
    split at h
    · rename_i t x y ho
      split at h
      · rename_i inf hi
        obtain ⟨x', hx, h⟩ := o1_inv h
        obtain ⟨y', hy, h⟩ := o1_inv h
        simp only [astep] at h
        split at h
        · rename_i id q i p hp
          split at h
          · rename_i k t' fu es hob
            split at h
            · rename_i el hel
              split at h
              · rename_i hc
                injection h with h; subst h
                exact ok_st hd ho hi hx hy hp (obj_inv hob) hel hc.1 hc.2.1 hc.2.2 [id]
              · cases h
            · cases h
          · cases h
        · cases h
      · cases h
    · rename_i t m k x ho
      exact compM_ok hd (.inl ho) h
    · rename_i t m k x ho
      exact compM_ok hd (.inr ho) h
    · rename_i c ho
      split at h
      · obtain ⟨x', hx, h⟩ := o1_inv h
        split at h
        · simp [astep] at h
        · cases h
      · rename_i b hb
        rw [← hd] at h
        exact compB0_ok (b := b) (args := c.args.toList) (ts := c.argTypes.toList) (fun t ht => by rw [hd] at ht; cases ht) (by rw [ho]; obtain ⟨cc, aa, tt⟩ := c; simp at hb; subst hb; rfl) h
      · cases h
    · cases h
end

def SO.rd : SO → List Nat
  | .t n => [n]
  | .c _ => []

def rds : List SO → List Nat
  | [] => []
  | x :: xs => x.rd ++ rds xs

def ord : Option SO → List Nat
  | none => []
  | some x => x.rd

def prd : List (Nat × Nat × SO) → List Nat
  | [] => []
  | p :: ps => p.2.2.rd ++ prd ps

def qrd : List (Nat × SO) → List Nat
  | [] => []
  | p :: ps => p.2.rd ++ qrd ps

/-- The temporaries that an operation looks at. -/
def rdT : SOp → List Nat
  | .mv _ x | .not _ x | .neg _ x | .conv _ _ x | .strof _ x | .fa _ x _ | .ld _ x _ _ | .box _ _ x | .len _ _ x | .cap _ x | .ext _ x _ | .fld _ x _ _ _ | .nck _ x | .binN _ _ _ x | .clr _ _ x => x.rd
  | .bin _ _ x y | .binB _ _ x y | .binS _ _ x y | .binA _ _ _ x y | .binP _ _ x y | .ia _ x y _ | .iaA _ x y _ _ | .ixS _ x y | .st x y _ | .mn _ x y | .mx _ x y | .app _ _ _ _ x y | .apz _ _ _ _ _ x y | .cpy _ _ x y |
    .mks _ _ _ _ _ x y | .mgt _ x y _ _ => x.rd ++ y.rd
  | .pick _ c x y | .mst c x y => c.rd ++ (x.rd ++ y.rd)
  | .alc .. | .mkm _ | .bad => []
  | .bld _ _ ps => prd ps
  | .bsl _ _ _ _ _ ps => qrd ps
  | .slc _ _ x lo hi mx => x.rd ++ (ord lo ++ (ord hi ++ ord mx))
  | .slS _ x lo hi => x.rd ++ (ord lo ++ ord hi)
  | .mkf _ _ as bs => rds as ++ rds bs
  | .call _ f xs => f.rd ++ rds xs
  | .g t _ _ o => t :: rdT o

section
variable {s s' : Nat → AVal}

theorem ev_congr {x : SO} (h : ∀ t ∈ x.rd, s' t = s t) : ev s' x = ev s x := by
  cases x with
  | t n => exact h n (by simp [SO.rd])
  | c v => rfl

theorem evs_congr : ∀ {xs : List SO}, (∀ t ∈ rds xs, s' t = s t) → evs s' xs = evs s xs
  | [], _ => rfl
  | x :: xs, h => by
    simp only [evs]
    rw [ev_congr fun t ht => h t (by simp [rds, ht]), evs_congr fun t ht => h t (by simp [rds, ht])]

theorem bound_congr {x : Option SO} {m : Nat} (h : ∀ t ∈ ord x, s' t = s t) : bound s' x m = bound s x m := by
  cases x with
  | none => rfl
  | some x => simp only [bound]; rw [ev_congr h]

theorem fillA_congr : ∀ {ps : List (Nat × Nat × SO)} {cs : List AVal}, (∀ t ∈ prd ps, s' t = s t) → fillA s' cs ps = fillA s cs ps
  | [], _, _ => rfl
  | (o, n, x) :: ps, cs, h => by
    simp only [fillA]
    rw [ev_congr (x := x) fun t ht => h t (by simp [prd, ht])]
    split
    · exact fillA_congr fun t ht => h t (by simp [prd, ht])
    · rfl

theorem fillE_congr {k : Nat} : ∀ {ps : List (Nat × SO)} {es : List (List AVal)}, (∀ t ∈ qrd ps, s' t = s t) → fillE s' k es ps = fillE s k es ps
  | [], _, _ => rfl
  | (i, x) :: ps, es, h => by
    simp only [fillE]
    rw [ev_congr (x := x) fun t ht => h t (by simp [qrd, ht])]
    split
    · exact fillE_congr fun t ht => h t (by simp [qrd, ht])
    · rfl

theorem astep_slots {o : SOp} {h : Nat → AObj} {f : Nat} (hs : ∀ t ∈ rdT o, s' t = s t) : astep o ⟨s', h⟩ f = astep o ⟨s, h⟩ f := by
  cases o <;> simp only [rdT, List.mem_append] at hs <;> simp only [astep]
  case mv d x => rw [ev_congr hs]
  case pick d c x y => rw [ev_congr (x := c) fun t ht => hs t (.inl ht), ev_congr (x := x) fun t ht => hs t (.inr (.inl ht)), ev_congr (x := y) fun t ht => hs t (.inr (.inr ht))]
  case mst c x y => rw [ev_congr (x := c) fun t ht => hs t (.inl ht), ev_congr (x := x) fun t ht => hs t (.inr (.inl ht)), ev_congr (x := y) fun t ht => hs t (.inr (.inr ht))]
  case bld d zs ps => rw [fillA_congr hs]
  case fld d x o agg m => rw [ev_congr hs]
  case bsl d t k zs n ps => rw [fillE_congr hs]
  case mkf d g as bs => rw [evs_congr (xs := as) fun t ht => hs t (.inl ht), evs_congr (xs := bs) fun t ht => hs t (.inr ht)]
  case slS d x lo hi =>
    rw [ev_congr (x := x) fun t ht => hs t (.inl ht), bound_congr (x := lo) fun t ht => hs t (.inr (.inl ht))]
    have : ∀ m, bound s' hi m = bound s hi m := fun m => bound_congr fun t ht => hs t (.inr (.inr ht))
    simp only [this]
  case slc d k x lo hi mx =>
    have h1 : ∀ m, bound s' hi m = bound s hi m := fun m => bound_congr fun t ht => hs t (.inr (.inr (.inl ht)))
    have h2 : ∀ m, bound s' lo m = bound s lo m := fun m => bound_congr fun t ht => hs t (.inr (.inl ht))
    have h3 : ∀ m, bound s' mx m = bound s mx m := fun m => bound_congr fun t ht => hs t (.inr (.inr (.inr ht)))
    rw [ev_congr (x := x) fun t ht => hs t (.inl ht)]
    cases mx <;> simp only [h1, h2, h3]
  all_goals first
    | rfl
    | (rename_i x; rw [ev_congr (x := x) hs]; done)
    | (rename_i x _; rw [ev_congr (x := x) hs]; done)
    | (rename_i x _ _; rw [ev_congr (x := x) hs]; done)
    | (rename_i x y; rw [ev_congr (x := x) fun t ht => hs t (.inl ht), ev_congr (x := y) fun t ht => hs t (.inr ht)]; done)
    | (rename_i x y _; rw [ev_congr (x := x) fun t ht => hs t (.inl ht), ev_congr (x := y) fun t ht => hs t (.inr ht)]; done)
    | (rename_i x y _ _; rw [ev_congr (x := x) fun t ht => hs t (.inl ht), ev_congr (x := y) fun t ht => hs t (.inr ht)]; done)
end

section
variable {h h' : Nat → AObj} {k : Nat}

theorem obj_congr {id q : Nat} (e : h' id = h id) : obj h' id q = obj h id q := by simp [obj, e]

theorem conts_local {x : AVal} {ys : List (List AVal)} {rd : List Nat} (hc : conts h k x = some (ys, rd)) (e : ∀ id ∈ rd, h' id = h id) : conts h' k x = some (ys, rd) := by
  unfold conts at *
  split
  · exact hc
  · exact hc
  · exact hc
  · rename_i id st off len
    simp only at hc
    split at hc
    · rename_i k' t fu es hob
      split at hc
      · rename_i hk
        injection hc with hc; injection hc with h1 h2; subst h2
        rw [obj_congr (e id (by simp)), hob]
        simp [hk, h1]
      · cases hc
    · cases hc
  · simp_all

theorem nilOf_local {x : AVal} {b : Bool} {rd : List Nat} (hc : nilOf h x = some (b, rd)) (e : ∀ id ∈ rd, h' id = h id) : nilOf h' x = some (b, rd) := by
  unfold nilOf at *
  split
  · rename_i id q off len
    simp only at hc
    split at hc
    · rename_i hob
      split at hc
      · cases hc
      · rename_i hl
        injection hc with hc; injection hc with h1 h2; subst h2
        rw [obj_congr (e id (by simp)), hob]
        simp [hl, h1]
    · cases hc
  · rename_i hx
    split at hc
    · rename_i id q off len
      exact absurd rfl (hx id q off len)
    · exact hc

theorem slcOf_local {x : AVal} {l hi : Option Int} {full : Bool} {v : AVal} {rd : List Nat} (hc : slcOf h k x l hi full = some (v, rd)) (e : ∀ id ∈ rd, h' id = h id) : slcOf h' k x l hi full = some (v, rd) := by
  cases l with
  | none => simp [slcOf] at hc
  | some l =>
    cases hi with
    | none => simp [slcOf] at hc
    | some hi =>
      simp only [slcOf] at *
      split at hc
      · rename_i hb
        rw [if_pos hb]
        cases x <;> simp only at hc ⊢ <;> (try (exact hc)) <;> (try (cases hc; done))
        rename_i id st off len
        cases hob : obj h id st with
        | none => simp [hob] at hc
        | some y =>
          obtain ⟨k', t, fu, es⟩ := y
          rw [hob] at hc
          simp only at hc
          split at hc
          · rename_i hk
            injection hc with hc; injection hc with h1 h2; subst h2
            rw [obj_congr (e id (by simp)), hob]
            simp [hk, h1]
          · cases hc
      · cases hc

theorem appOf_local {d : Nat} {t : TypeId} {bytes f : Nat} {x : AVal} {ys : List (List AVal)} {rd : List Nat} {ef : Eff} (hc : appOf d t k bytes h f x ys rd = some ef) (e : ∀ id ∈ ef.rd, h' id = h id) :
    appOf d t k bytes h' f x ys rd = some ef := by
  unfold appOf at *
  cases x <;> simp only at hc ⊢ <;> (try (exact hc)) <;> (try (cases hc; done))
  rename_i id st off len
  cases hob : obj h id st with
  | none => simp [hob] at hc
  | some y =>
    obtain ⟨k', t', fu, es⟩ := y
    have key : ∀ _ : Unit, id ∈ ef.rd → obj h' id st = some (k', t', fu, es) := fun _ hm => by rw [obj_congr (e id hm), hob]
    rw [hob] at hc
    simp only at hc
    have hm : id ∈ ef.rd := by
      split at hc
      · split at hc
        · injection hc with hc; subst hc; simp
        · split at hc
          · injection hc with hc; subst hc; simp
          · split at hc <;> (injection hc with hc; subst hc; simp)
      · cases hc
    rw [key () hm]
    exact hc

/-- What objects an append looks at, and writes. -/
theorem appOf_rd {d : Nat} {t : TypeId} {bytes f : Nat} {x : AVal} {ys : List (List AVal)} {rd : List Nat} {ef : Eff} (hc : appOf d t k bytes h f x ys rd = some ef) : ∀ id ∈ rd, id ∈ ef.rd := by
  unfold appOf at hc
  intro id hid
  split at hc
  · split at hc
    · injection hc with hc; subst hc; exact hid
    · cases hc
  · split at hc
    · injection hc with hc; subst hc; exact hid
    · cases hc
  · split at hc
    · split at hc
      · split at hc
        · injection hc with hc; subst hc; simp [hid]
        · split at hc
          · injection hc with hc; subst hc; simp [hid]
          · split at hc <;> (injection hc with hc; subst hc; simp [hid])
      · cases hc
    · cases hc
  · cases hc

theorem astep_heap {o : SOp} {s : Nat → AVal} {f : Nat} {e : Eff} (he : astep o ⟨s, h⟩ f = some e) (hh : ∀ id ∈ e.rd, h' id = h id) : astep o ⟨s, h'⟩ f = some e := by
  cases o <;> (try (exact he)) <;> simp only [astep] at he ⊢
  case strof d x =>
    split at he
    · rename_i es rd hc
      split at he
      · rename_i bs hb
        injection he with he; subst he
        rw [conts_local hc hh]
        simp [hb]
      · cases he
    · cases he
  case binN d kd neq x =>
    split at he
    · rename_i hk
      rw [if_pos hk]
      split at he
      · rename_i b rd hb
        injection he with he; subst he
        rw [nilOf_local hb hh]
      · cases he
    · cases he
  case ia d x i k =>
    split at he
    · rename_i h1 h2; (try rw [h1, h2]); exact he
    · rename_i id q off len ki m h1 h2
      try rw [h1, h2]
      try simp only
      cases hob : obj h id q with
      | none => simp [hob] at he
      | some y =>
        obtain ⟨k', t', fu, es⟩ := y
        rw [hob] at he
        simp only at he
        split at he
        · rename_i hc
          injection he with he; subst he
          rw [obj_congr (hh id (by simp)), hob]
          simp [hc]
        · cases he
    · cases he
  case ld d x agg m =>
    split at he
    · rename_i id q i p hp
      try rw [hp]
      try simp only
      cases hob : obj h id q with
      | none => simp [hob] at he
      | some y =>
        obtain ⟨k', t', fu, es⟩ := y
        rw [hob] at he
        simp only at he
        split at he
        · rename_i el hel
          split at he
          · rename_i v hv
            injection he with he; subst he
            rw [obj_congr (hh id (by simp)), hob]
            simp [hel, hv]
          · cases he
        · cases he
    · rename_i hp; (try rw [hp]); exact he
    · cases he
  case st x v m =>
    split at he
    · rename_i id q i p hp
      try rw [hp]
      try simp only
      cases hob : obj h id q with
      | none => simp [hob] at he
      | some y =>
        obtain ⟨k', t', fu, es⟩ := y
        rw [hob] at he
        simp only at he
        split at he
        · rename_i el hel
          split at he
          · rename_i hc
            injection he with he; subst he
            rw [obj_congr (hh id (by simp)), hob]
            simp [hel, hc]
          · cases he
        · cases he
    · cases he
  case slc d k x lo hi mx =>
    cases hl : lenOf (ev s x) with
    | none => simp [hl] at he
    | some m =>
      rw [hl] at he
      simp only at he ⊢
      cases mx with
      | none =>
        simp only at he ⊢
        split at he
        · rename_i v rd hv
          injection he with he; subst he
          rw [slcOf_local hv hh]
        · cases he
      | some mx =>
        simp only at he ⊢
        split at he
        · split at he
          · split at he
            · rename_i hb1 hb2 hlt _ _ rd _ rd' h1 h2
              injection he with he; subst he
              rw [slcOf_local h1 fun id hid => hh id (by simp [hid]), slcOf_local h2 fun id hid => hh id (by simp [hid])]
              simp_all
            · cases he
          · cases he
        · cases he
  case app d t k bytes x y =>
    split at he
    · rename_i ys rd hc
      rw [conts_local hc fun id hid => hh id (appOf_rd he id hid)]
      exact appOf_local he hh
    · cases he
  case apz d t k bytes zs x m =>
    split at he
    · rename_i hm
      try rw [hm]
      split at he
      · rename_i hc
        try simp only
        rw [if_pos hc]
        exact appOf_local he hh
      · cases he
    · cases he
  case cpy d k x y =>
    cases hc : conts h k (ev s y) with
    | none => simp [hc] at he
    | some c =>
      obtain ⟨ys, rd⟩ := c
      rw [hc] at he
      simp only at he
      split at he
      · rename_i hx; injection he with he; subst he; rw [conts_local hc hh]
      · rename_i hx; injection he with he; subst he; rw [conts_local hc hh]
      · rename_i id q off len hx
        cases hob : obj h id q with
        | none => simp [hob] at he
        | some y =>
          obtain ⟨k', t', fu, es⟩ := y
          rw [hob] at he
          simp only at he
          split at he
          · rename_i hk
            injection he with he; subst he
            rw [conts_local hc fun id hid => hh id (by simp [hid])]
            try rw [hx]
            try simp only
            rw [obj_congr (hh id (by simp)), hob]
            simp [hk]
          · cases he
      · cases he
  case clr d zs x =>
    split at he
    · rename_i hx; (try rw [hx]); exact he
    · rename_i hx; (try rw [hx]); exact he
    · rename_i id q off len hx
      try rw [hx]
      try simp only
      cases hob : obj h id q with
      | none => simp [hob] at he
      | some y =>
        obtain ⟨k', t', fu, es⟩ := y
        rw [hob] at he
        simp only at he
        split at he
        · rename_i hk
          injection he with he; subst he
          rw [obj_congr (hh id (by simp)), hob]
          simp [hk]
        · cases he
    · cases he
  case mst m k x =>
    split at he
    · rename_i id j h1 h2
      try rw [h1, h2]
      try simp only
      split at he
      · rename_i es hes
        split at he
        · rename_i hf
          injection he with he; subst he
          rw [hh id (by simp), hes]
          simp [hf]
        · cases he
      · cases he
    · cases he
  case mgt d m k z ok =>
    split at he
    · rename_i id j h1 h2
      try rw [h1, h2]
      try simp only
      split at he
      · rename_i es hes
        split at he
        · rename_i c hc
          injection he with he; subst he
          rw [hh id (by simp), hes]
          simp [hc]
        · rename_i hc
          injection he with he; subst he
          rw [hh id (by simp), hes]
          simp [hc]
      · cases he
    · cases he

/-- An operation does the same wherever what it looks at is the same. -/
theorem astep_local {o : SOp} {s s' : Nat → AVal} {f : Nat} {e : Eff} (he : astep o ⟨s, h⟩ f = some e) (hs : ∀ t ∈ rdT o, s' t = s t) (hh : ∀ id ∈ e.rd, h' id = h id) : astep o ⟨s', h'⟩ f = some e := by
  rw [astep_slots hs]
  exact astep_heap he hh

theorem obj_ne {id q : Nat} {y : Nat × TypeId × Bool × List (List AVal)} (e : obj h id q = some y) : h id ≠ .free := by
  obtain ⟨k, t, fu, es⟩ := y
  rw [obj_inv e]
  simp

theorem appOf_wr {d : Nat} {t : TypeId} {bytes f : Nat} {x : AVal} {ys : List (List AVal)} {rd : List Nat} {ef : Eff} (hc : appOf d t k bytes h f x ys rd = some ef) : ∀ p ∈ ef.wr, p.1 ∈ ef.rd ∧ h p.1 ≠ .free := by
  unfold appOf at hc
  split at hc
  · split at hc
    · injection hc with hc; subst hc; simp
    · cases hc
  · split at hc
    · injection hc with hc; subst hc; simp
    · cases hc
  · split at hc
    · rename_i hob
      have hne := obj_ne hob
      split at hc
      · split at hc
        · injection hc with hc; subst hc; simp [hne]
        · split at hc
          · injection hc with hc; subst hc; simp [hne]
          · split at hc <;> (injection hc with hc; subst hc; simp [hne])
      · cases hc
    · cases hc
  · cases hc

/-- What is written was there, and has been looked at. -/
theorem astep_wr {o : SOp} {s : Nat → AVal} {f : Nat} {e : Eff} (he : astep o ⟨s, h⟩ f = some e) : ∀ p ∈ e.wr, p.1 ∈ e.rd ∧ h p.1 ≠ .free := by
  cases o <;> simp only [astep] at he
  case app =>
    split at he
    · exact appOf_wr he
    · cases he
  case apz =>
    split at he
    · split at he
      · exact appOf_wr he
      · cases he
    · cases he
  case mst =>
    split at he
    · split at he
      · rename_i es hes
        split at he
        · injection he with he; subst he; simp [hes]
        · cases he
      · cases he
    · cases he
  all_goals (repeat' (split at he)) <;> first
    | (cases he; done)
    | (unfold val1 at he; split at he <;> first | (cases he; done) | (injection he with he; subst he; simp; done))
    | (injection he with he; subst he; first | (simp; done) | (simp; first | (apply obj_ne; assumption) | (rename_i hh; simp [hh])))
    | skip
end

/-- The temporary that an operation sets. -/
def dstS : SOp → Option Nat
  | .mv d _ | .pick d _ _ _ | .bin d _ _ _ | .binB d _ _ _ | .binS d _ _ _ | .binA d _ _ _ _ | .binN d _ _ _ | .binP d _ _ _ | .not d _ | .neg d _ | .conv d _ _ | .strof d _ | .fa d _ _ | .ia d _ _ _ | .iaA d _ _ _ _ |
    .ixS d _ _ | .ld d _ _ _ | .box d _ _ | .alc d _ _ | .bld d _ _ | .bsl d _ _ _ _ _ | .slc d _ _ _ _ _ | .slS d _ _ _ | .len d _ _ | .mn d _ _ | .mx d _ _ | .app d _ _ _ _ _ | .apz d _ _ _ _ _ _ | .cap d _ |
    .mks d _ _ _ _ _ _ | .ext d _ _ | .fld d _ _ _ _ | .nck d _ | .mkf d _ _ _ | .mkm d | .mgt d _ _ _ _ => some d
  | .st .. | .mst .. | .bad => none
  | .cpy d _ _ _ | .clr d _ _ | .call d _ _ | .g _ _ d _ => d

/-- Operations that look at no object and change none. -/
def pureS : SOp → Bool
  | .mv .. | .pick .. | .bin .. | .binB .. | .binS .. | .binA .. | .not .. | .neg .. | .conv .. | .fa .. | .iaA .. | .ixS .. | .bld .. | .slS .. | .len .. | .mn .. | .mx .. | .ext .. | .fld .. | .nck .. | .mkf .. => true
  | .g _ _ _ o => pureS o
  | _ => false

/-- Operations that change no object. -/
def readS : SOp → Bool
  | .binN .. | .strof .. | .ia .. | .ld .. | .slc .. | .mgt .. => true
  | .g _ _ _ o => readS o
  | o => pureS o

/-- An effect of its own frame: what is written has been looked at. -/
def Eff.fit (e : Eff) (o : SOp) : Prop :=
  e.d = dstS o ∧ (∀ p ∈ e.wr, p.1 ∈ e.rd) ∧ (pureS o = true → e.rd = [] ∧ e.wr = [] ∧ e.nw = []) ∧ (readS o = true → e.wr = [] ∧ e.nw = [])

theorem val1_eff {d : Nat} {x : Option AVal} {e : Eff} (h : val1 d x = some e) : e.d = some d ∧ e.rd = [] ∧ e.wr = [] ∧ e.nw = [] := by
  obtain ⟨c, _, rfl⟩ := val1_inv h
  exact ⟨rfl, rfl, rfl, rfl⟩

theorem appOf_d {d : Nat} {t : TypeId} {k bytes f : Nat} {h : Nat → AObj} {x : AVal} {ys : List (List AVal)} {rd : List Nat} {e : Eff} (hc : appOf d t k bytes h f x ys rd = some e) : e.d = some d := by
  unfold appOf at hc
  repeat' (split at hc)
  all_goals first | (cases hc; done) | (injection hc with hc; subst hc; rfl)

theorem astep_fit {o : SOp} {st : St} {f : Nat} {e : Eff} (he : astep o st f = some e) : e.fit o := by
  refine ⟨?_, fun p hp => (astep_wr (h := st.h) (s := st.s) he p hp).1, ?_, ?_⟩
  · cases o <;> simp only [astep] at he
    case app => split at he; exact appOf_d he; cases he
    case apz => split at he; (split at he; exact appOf_d he; cases he); cases he
    all_goals (repeat' (split at he)) <;> first
      | (cases he; done)
      | (exact (val1_eff he).1)
      | (injection he with he; subst he; rfl)
  · cases o <;> simp only [astep] at he <;> intro hp <;> (try (simp [pureS] at hp; done))
    all_goals (repeat' (split at he)) <;> first
      | (cases he; done)
      | (exact (val1_eff he).2)
      | (injection he with he; subst he; exact ⟨rfl, rfl, rfl⟩)
  · cases o <;> simp only [astep] at he <;> intro hp <;> (try (simp [readS, pureS] at hp; done))
    all_goals (repeat' (split at he)) <;> first
      | (cases he; done)
      | (exact (val1_eff he).2.2)
      | (injection he with he; subst he; exact ⟨rfl, rfl⟩)

/-- Where nothing is made, the next place of the heap does not matter. -/
theorem astep_f {o : SOp} {st : St} {f f' : Nat} {e : Eff} (he : astep o st f = some e) (hn : e.nw = []) : astep o st f' = some e := by
  have happ : ∀ {d : Nat} {t : TypeId} {k bytes : Nat} {x : AVal} {ys : List (List AVal)} {rd : List Nat}, appOf d t k bytes st.h f x ys rd = some e → appOf d t k bytes st.h f' x ys rd = some e := by
    intro d t k bytes x ys rd hc
    unfold appOf at hc ⊢
    split at hc
    · split at hc
      · injection hc with hc; subst hc; cases hn
      · cases hc
    · split at hc
      · injection hc with hc; subst hc; cases hn
      · cases hc
    · rename_i id q off m
      cases hob : obj st.h id q with
      | none => simp [hob] at hc
      | some y =>
        obtain ⟨k', t', fu, es⟩ := y
        rw [hob] at hc
        simp only at hc ⊢
        split at hc
        · rename_i h1
          rw [if_pos h1]
          split at hc
          · rename_i h2; rw [if_pos h2]; exact hc
          · rename_i h2
            rw [if_neg h2]
            split at hc
            · rename_i h3; rw [if_pos h3]; exact hc
            · rename_i h3
              rw [if_neg h3]
              split at hc
              · injection hc with hc; subst hc; cases hn
              · rename_i h4; rw [if_neg h4]; exact hc
        · cases hc
    · cases hc
  cases o <;> (try (exact he)) <;> simp only [astep] at he ⊢
  case app d t k bytes x y =>
    split at he
    · rename_i ys rd hc; exact happ he
    · cases he
  case apz d t k bytes zs x m =>
    split at he
    · split at he
      · rename_i hc; rw [if_pos hc]; exact happ he
      · cases he
    · cases he
  all_goals (repeat' (split at he)) <;> first
      | (cases he; done)
      | (injection he with he; subst he; cases hn; done)
      | skip

/-- An operation's effect, as the kit's walk has it. -/
def OpW (P : Program) (n : Nat) (o : Oper) (st : St) (f : Nat) (e : Eff) : Prop :=
  ∀ a w G, Rel n st a w G → o.wp P a w (fun a' w' => ∃ G', Rel n (e.app st f) a' w' G' ∧ Tr w G st.h w' G' (e.heap st.h f)) (fun _ _ _ => False)

theorem OpOk.w {P : Program} {n : Nat} {o : Oper} {st : St} {f : Nat} {e : Eff} (h : OpOk P n o st f e) : OpW P n o st f e := by
  intro a w G hr
  obtain ⟨v, w', G', h1, h2, h3⟩ := h a w G hr
  unfold Oper.wp
  rcases h1 with h1 | ⟨h1, rfl⟩
  · rw [h1]; exact ⟨G', h2, h3⟩
  · rw [h1]; exact ⟨G', h2, h3⟩

/-- It has this effect wherever what it looks at is the same. -/
def LocOp (P : Program) (n : Nat) (so : SOp) (st : St) (f : Nat) (e : Eff) : Prop :=
  (so ≠ .bad ∧ e.fit so) ∧ ∀ o, compOp P n o = so → ∀ s' h', (∀ t ∈ rdT so, s' t = st.s t) → (∀ id ∈ e.rd, h' id = st.h id) → (∀ i, i < e.nw.length → h' (f + i) = .free) → (∃ i, h' i = .free) → OpW P n o ⟨s', h'⟩ f e

theorem astep_loc {P : Program} {n : Nat} {so : SOp} {st : St} {f : Nat} {e : Eff} (he : astep so st f = some e) : LocOp P n so st f e := by
  refine ⟨⟨fun h => (by subst h; cases he), astep_fit he⟩, fun o ho s' h' hs hh hfree hex => ?_⟩
  have h1 : astep so ⟨s', h'⟩ f = some e := astep_local (s := st.s) (h := st.h) he hs hh
  subst ho
  by_cases hn : e.nw = []
  · obtain ⟨i, hi⟩ := hex
    have h2 := astep_f (f' := i) h1 hn
    have h3 := (comp_ok hi h2).w
    intro a w G hr
    have h4 := h3 a w G hr
    have e1 : e.heap h' i = e.heap h' f := by
      funext id
      simp only [Eff.heap, hn, List.length_nil, Nat.add_zero]
      rw [if_neg (by omega), if_neg (by omega)]
    have e2 : e.app ⟨s', h'⟩ i = e.app ⟨s', h'⟩ f := by simp only [Eff.app, e1]
    simp only [e2, e1] at h4
    exact h4
  · have : 0 < e.nw.length := List.length_pos_iff.2 hn
    exact (comp_ok (by simpa using hfree 0 this) h1).w

/-- With its guard. -/
def LocG (P : Program) (n : Nat) (so : SOp) (st : St) (f : Nat) (e : Eff) : Prop :=
  match so with
  | .g t want d o => (st.s t = .bool want ∧ LocOp P n o st f e ∧ e.d = d) ∨ ((st.s t = .bool (!want) ∨ st.s t = .tup []) ∧ e = ⟨d, .tup [], [], [], []⟩)
  | o => LocOp P n o st f e

def compG (P : Program) (n : Nat) (ops : Array Oper) (o : Oper) : SOp :=
  match o.guard with
  | none => match compOp P n o with
    | .g .. => .bad
    | so => so
  | some (g, want) => match (ops[g]?).bind (·.dst) with
    | some t => if t < n ∧ (∀ d, o.dst = some d → d < n) then .g t want o.dst (compOp P n o) else .bad
    | none => .bad

section
variable {P : Program} {n : Nat}

theorem wanted_of {ops : Array Oper} {o : Oper} {g t : Nat} {want : Bool} {a : Go.Act} {w : World} {G : Gh} {st : St} (hg : o.guard = some (g, want)) (ht : (ops[g]?).bind (·.dst) = some t) (hr : Rel n st a w G) (hn : t < n) :
    (st.s t = .bool want → Region.wanted o (yielded ops a.tmps) = true) ∧ ((st.s t = .bool (!want) ∨ st.s t = .tup []) → Region.wanted o (yielded ops a.tmps) = false) := by
  have hs := hr.slots t
  have hlt : t < a.tmps.size := by rw [hr.size]; exact hn
  have hv : a.tmps[t]? = some (a.tmps.getD t undef) := by simp [hlt]
  have hy : yielded ops a.tmps g = match a.tmps.getD t undef with | .bool b => some b | _ => none := by
    unfold yielded
    rw [ht]
    simp only [Option.bind_some]
    rw [hv]
    cases a.tmps.getD t undef <;> rfl
  refine ⟨fun h => ?_, fun h => ?_⟩
  · rw [h] at hs
    have := hs.bool_inv
    simp [Region.wanted, hg, hy, this]
  · rcases h with h | h
    · rw [h] at hs
      have := hs.bool_inv
      cases want <;> simp [Region.wanted, hg, hy, this]
    · rw [h] at hs
      obtain ⟨vs, e, _⟩ := hs.tup_inv
      simp [Region.wanted, hg, hy, e]

theorem Rel.putUndef {st : St} {a : Go.Act} {w : World} {G : Gh} (hr : Rel n st a w G) {d : Option Nat} (hd : ∀ t, d = some t → t < n) (f : Nat) :
    Rel n (Eff.app ⟨d, .tup [], [], [], []⟩ st f) (a.put d undef) w G := by
  simp only [Eff.app, Eff.heap_nil]
  cases d with
  | none => exact hr
  | some t => exact hr.put (hd t rfl) (.tup [] #[] rfl (fun j c v h => by simp at h))

theorem locG_ok {ops : Array Oper} {o : Oper} {i f : Nat} {so : SOp} {st : St} {e : Eff} (ho : ops[i]? = some o) (hc : compG P n ops o = so) (hl : LocG P n so st f e) {s' : Nat → AVal} {h' : Nat → AObj}
    (hs : ∀ t ∈ rdT so, s' t = st.s t) (hh : ∀ id ∈ e.rd, h' id = st.h id) (hf : ∀ i, i < e.nw.length → h' (f + i) = .free) (hx : ∃ i, h' i = .free) {a : Go.Act} {w : World} {G : Gh} (hr : Rel n ⟨s', h'⟩ a w G)
    {Q : Exit → Go.Act → World → Prop} {K : Go.Act → World → Prop} (hK : ∀ a' w' G', Rel n (e.app ⟨s', h'⟩ f) a' w' G' → Tr w G h' w' G' (e.heap h' f) → K a' w') : wpOp P ops Q i K a w := by
  unfold wpOp
  rw [ho]
  simp only
  have run : ∀ so', so' = compOp P n o → (∀ t ∈ rdT so', s' t = st.s t) → LocOp P n so' st f e → o.wp P a w K Q := by
    intro so' hso hs' hl'
    have h1 := hl'.2 o hso.symm s' h' hs' hh hf hx a w G hr
    have h2 : o.wp P a w (fun a' w' => ∃ G', Rel n (e.app ⟨s', h'⟩ f) a' w' G' ∧ Tr w G h' w' G' (e.heap h' f)) Q := by
      unfold Oper.wp at h1 ⊢
      revert h1
      generalize (execOp a.eval o).run P w = r
      intro h1
      cases r with
      | ok n w' =>
        cases n <;> simp only [Oper.upon] at h1 ⊢ <;> first
          | exact h1
          | (refine Calls.mono h1 fun e w'' he => ?_
             cases e with
             | returned v => exact he
             | panicked c => exact he.elim
             | outgrown => obtain ⟨_, _, he⟩ := he; exact he.elim)
      | halt x w' => cases x <;> simp only [Oper.upon] at h1 <;> exact h1.elim
    exact Oper.wp_mono (fun a' w' ⟨G', r1, r2⟩ => hK a' w' G' r1 r2) h2
  unfold compG at hc
  split at hc
  · rename_i hg
    have hw : Region.wanted o (yielded ops a.tmps) = true := by simp [Region.wanted, hg]
    rw [if_pos hw]
    split at hc
    · subst hc
      exact absurd rfl hl.1.1
    · rename_i so' hng
      subst hc
      have hl' : LocOp P n (compOp P n o) st f e := by
        unfold LocG at hl
        split at hl
        · rename_i t w d x heq; exact absurd heq (hng t w d x)
        · exact hl
      exact .inl (run _ rfl hs hl')
  · rename_i g want hg
    split at hc
    · rename_i t ht
      split at hc
      · rename_i hn
        subst hc
        obtain ⟨w1, w2⟩ := wanted_of hg ht hr hn.1
        have hst : s' t = st.s t := hs t (by simp [rdT])
        simp only at w1 w2
        rw [hst] at w1 w2
        rcases hl with ⟨h1, h2, _⟩ | ⟨h1, rfl⟩
        · rw [if_pos (w1 h1)]
          exact .inl (run _ rfl (fun t ht => hs t (by simp [rdT, ht])) h2)
        · rw [if_neg (by rw [w2 h1]; simp)]
          refine hK _ _ G (hr.putUndef hn.2 f) ?_
          rw [Eff.heap_nil]
          exact Tr.refl _ _ _
      · subst hc; exact absurd rfl hl.1.1
    · subst hc; exact absurd rfl hl.1.1
end

/-- What an operation touches. -/
structure Lg where
  d : Option Nat
  rt : List Nat
  rd : List Nat
  wr : List Nat
  f : Nat
  m : Nat

def inR (f m id : Nat) : Bool := decide (f ≤ id) && decide (id < f + m)

def offD (d : Option Nat) (ts : List Nat) : Bool :=
  match d with
  | none => true
  | some t => !ts.contains t

def ofD (d d' : Option Nat) : Bool :=
  match d, d' with
  | some t, some t' => !(t == t')
  | _, _ => true

def indS (d : Option Nat) (rt : List Nat) (d' : Option Nat) (rt' : List Nat) : Bool :=
  offD d rt' && offD d' rt && ofD d d'

def indH (a b : Lg) : Bool :=
  a.wr.all (fun x => !b.rd.contains x) && b.wr.all (fun x => !a.rd.contains x) && a.rd.all (fun x => !inR b.f b.m x) && b.rd.all (fun x => !inR a.f a.m x) &&
    (a.m == 0 || b.m == 0 || decide (a.f + a.m ≤ b.f) || decide (b.f + b.m ≤ a.f))

def lgOf (so : SOp) (e : Eff) (f : Nat) : Lg := ⟨e.d, rdT so, e.rd, e.wr.map (·.1), f, e.nw.length⟩

def affS (e : Eff) (t : Nat) : Prop := e.d = some t
def affH (e : Eff) (f id : Nat) : Prop := (f ≤ id ∧ id < f + e.nw.length) ∨ ∃ p ∈ e.wr, p.1 = id

theorem slots_aff {e : Eff} {s : Nat → AVal} {t : Nat} (h : ¬ affS e t) : e.slots s t = s t := by
  unfold affS at h
  cases hd : e.d with
  | none => simp [Eff.slots, hd]
  | some d => simp only [Eff.slots, hd]; exact upd_ne _ _ (fun h' => h (by rw [hd, h']))

theorem slots_same {e : Eff} {s s' : Nat → AVal} {t : Nat} (h : affS e t) : e.slots s t = e.slots s' t := by
  unfold affS at h
  simp only [Eff.slots, h, upd_same]

theorem heap_aff {e : Eff} {h : Nat → AObj} {f id : Nat} (ha : ¬ affH e f id) : e.heap h f id = h id := by
  unfold affH at ha
  unfold Eff.heap
  rw [if_neg (fun h' => ha (.inl h'))]
  split
  · rename_i p hp
    have h1 := List.find?_some hp
    have h2 := List.mem_of_find?_eq_some hp
    exact absurd (.inr ⟨p, h2, by simpa using h1⟩) ha
  · rfl

theorem heap_same {e : Eff} {h h' : Nat → AObj} {f id : Nat} (ha : affH e f id) : e.heap h f id = e.heap h' f id := by
  unfold Eff.heap
  split
  · rfl
  · rename_i hn
    rcases ha with ha | ⟨p, hp, he⟩
    · exact absurd ha hn
    · have : (e.wr.find? fun p => p.1 == id).isSome = true := by
        rw [List.find?_isSome]
        exact ⟨p, hp, by simp [he]⟩
      cases hf : e.wr.find? fun p => p.1 == id with
      | none => rw [hf] at this; cases this
      | some q => rfl

/-- The state behind the operations of a set, in the text's order. -/
def stL (e : Nat → Eff) (f : Nat → Nat) (st : St) (L : Nat → Bool) : Nat → St
  | 0 => st
  | m + 1 => if L m then (e m).app (stL e f st L m) (f m) else stL e f st L m

section
variable {e : Nat → Eff} {f : Nat → Nat} {st : St}

theorem stL_s {L L' : Nat → Bool} {t : Nat} : ∀ m, (∀ j, j < m → L j ≠ L' j → ¬ affS (e j) t) → (stL e f st L m).s t = (stL e f st L' m).s t
  | 0, _ => rfl
  | m + 1, h => by
    have ih := stL_s (L := L) (L' := L') (t := t) m fun j hj => h j (by omega)
    simp only [stL]
    by_cases hm : L m = L' m
    · rw [← hm]
      split
      · simp only [Eff.app]
        by_cases ha : affS (e m) t
        · exact slots_same ha
        · rw [slots_aff ha, slots_aff ha]; exact ih
      · exact ih
    · have ha := h m (by omega) hm
      have h1 : ∀ X : St, ((e m).app X (f m)).s t = X.s t := fun X => slots_aff ha
      split <;> split <;> (try simp only [h1]) <;> exact ih

theorem stL_h {L L' : Nat → Bool} {id : Nat} : ∀ m, (∀ j, j < m → L j ≠ L' j → ¬ affH (e j) (f j) id) → (stL e f st L m).h id = (stL e f st L' m).h id
  | 0, _ => rfl
  | m + 1, h => by
    have ih := stL_h (L := L) (L' := L') (id := id) m fun j hj => h j (by omega)
    simp only [stL]
    by_cases hm : L m = L' m
    · rw [← hm]
      split
      · simp only [Eff.app]
        by_cases ha : affH (e m) (f m) id
        · exact heap_same ha
        · rw [heap_aff ha, heap_aff ha]; exact ih
      · exact ih
    · have ha := h m (by omega) hm
      have h1 : ∀ X : St, ((e m).app X (f m)).h id = X.h id := fun X => heap_aff ha
      split <;> split <;> (try simp only [h1]) <;> exact ih

/-- One more operation, which those that come behind it in the text do not touch. -/
theorem stL_add {L L' : Nat → Bool} {i m : Nat} (hi : i < m) (h0 : L i = false) (h1 : L' i = true) (hL : ∀ j, j ≠ i → L' j = L j)
    (hs : ∀ j, i < j → j < m → L j = true → ∀ t, affS (e i) t → ¬ affS (e j) t) (hh : ∀ j, i < j → j < m → L j = true → ∀ id, affH (e i) (f i) id → ¬ affH (e j) (f j) id) :
    stL e f st L' m = (e i).app (stL e f st L m) (f i) := by
  have key : ∀ m, i < m → (∀ t, affS (e i) t → (∀ j, i < j → j < m → L j = true → ¬ affS (e j) t) → (stL e f st L' m).s t = (e i).slots st.s t) ∧
      (∀ id, affH (e i) (f i) id → (∀ j, i < j → j < m → L j = true → ¬ affH (e j) (f j) id) → (stL e f st L' m).h id = (e i).heap st.h (f i) id) := by
    intro m
    induction m with
    | zero => intro h; omega
    | succ m ih =>
      intro hm
      by_cases e1 : m = i
      · subst e1
        simp only [stL, h1, if_true]
        exact ⟨fun t ht _ => slots_same ht, fun id hid _ => heap_same hid⟩
      · obtain ⟨i1, i2⟩ := ih (by omega)
        simp only [stL, hL m e1]
        refine ⟨fun t ht hn => ?_, fun id hid hn => ?_⟩
        · have := i1 t ht fun j hj hj' => hn j hj (by omega)
          split
          · rename_i hLm
            simp only [Eff.app]
            rw [slots_aff (hn m (by omega) (by omega) hLm)]
            exact this
          · exact this
        · have := i2 id hid fun j hj hj' => hn j hj (by omega)
          split
          · rename_i hLm
            simp only [Eff.app]
            rw [heap_aff (hn m (by omega) (by omega) hLm)]
            exact this
          · exact this
  obtain ⟨k1, k2⟩ := key m hi
  have hd : ∀ j, L' j ≠ L j → j = i := fun j hj => by
    by_cases h : j = i
    · exact h
    · exact absurd (hL j h) hj
  have hs' : ∀ t, (stL e f st L' m).s t = ((e i).app (stL e f st L m) (f i)).s t := fun t => by
    by_cases ht : affS (e i) t
    · rw [k1 t ht fun j hj hj' hl => hs j hj hj' hl t ht]
      exact slots_same ht
    · simp only [Eff.app]
      rw [slots_aff ht]
      exact stL_s m fun j _ hne => by rw [hd j hne]; exact ht
  have hh' : ∀ id, (stL e f st L' m).h id = ((e i).app (stL e f st L m) (f i)).h id := fun id => by
    by_cases ht : affH (e i) (f i) id
    · rw [k2 id ht fun j hj hj' hl => hh j hj hj' hl id ht]
      exact heap_same ht
    · simp only [Eff.app]
      rw [heap_aff ht]
      exact stL_h m fun j _ hne => by rw [hd j hne]; exact ht
  have : ∀ X Y : St, (∀ t, X.s t = Y.s t) → (∀ id, X.h id = Y.h id) → X = Y := fun X Y a b => by
    cases X; cases Y; simp only [St.mk.injEq]; exact ⟨funext a, funext b⟩
  exact this _ _ hs' hh'
end

/-- Neither touches what the other looks at or touches. -/
theorem ind_spec {a b : SOp} {ea eb : Eff} {fa fb : Nat} (hs : indS ea.d (rdT a) eb.d (rdT b) = true) (hh : indH (lgOf a ea fa) (lgOf b eb fb) = true) (hwa : ∀ p ∈ ea.wr, p.1 ∈ ea.rd) (hwb : ∀ p ∈ eb.wr, p.1 ∈ eb.rd) :
    (∀ t ∈ rdT b, ¬ affS ea t) ∧ (∀ t ∈ rdT a, ¬ affS eb t) ∧ (∀ t, affS ea t → ¬ affS eb t) ∧ (∀ id ∈ eb.rd, ¬ affH ea fa id) ∧ (∀ id ∈ ea.rd, ¬ affH eb fb id) ∧ (∀ id, affH ea fa id → ¬ affH eb fb id) ∧
    (∀ i, i < eb.nw.length → ¬ affH ea fa (fb + i)) ∧ (∀ i, i < ea.nw.length → ¬ affH eb fb (fa + i)) := by
  simp only [indH, lgOf, Bool.and_eq_true, List.all_eq_true, Bool.not_eq_true', Bool.or_eq_true, decide_eq_true_eq, beq_iff_eq, List.mem_map, forall_exists_index, and_imp, forall_apply_eq_imp_iff₂] at hh
  obtain ⟨⟨⟨⟨h1, h2⟩, h3⟩, h4⟩, h5⟩ := hh
  have h5' : ea.nw.length = 0 ∨ eb.nw.length = 0 ∨ fa + ea.nw.length ≤ fb ∨ fb + eb.nw.length ≤ fa := by
    rcases h5 with ((h | h) | h) | h
    · exact .inl h
    · exact .inr (.inl h)
    · exact .inr (.inr (.inl (of_decide_eq_true h)))
    · exact .inr (.inr (.inr (of_decide_eq_true h)))
  have h1' : ∀ p ∈ ea.wr, p.1 ∉ eb.rd := fun p hp hm => by have := h1 p hp; simp at this; exact this hm
  have h2' : ∀ p ∈ eb.wr, p.1 ∉ ea.rd := fun p hp hm => by have := h2 p hp; simp at this; exact this hm
  have h3' : ∀ x ∈ ea.rd, ¬ (fb ≤ x ∧ x < fb + eb.nw.length) := fun x hx hc => by have := h3 x hx; simp [inR, hc.1, hc.2] at this
  have h4' : ∀ x ∈ eb.rd, ¬ (fa ≤ x ∧ x < fa + ea.nw.length) := fun x hx hc => by have := h4 x hx; simp [inR, hc.1, hc.2] at this
  simp only [indS, Bool.and_eq_true] at hs
  obtain ⟨⟨s1, s2⟩, s3⟩ := hs
  refine ⟨fun t ht ha => ?_, fun t ht ha => ?_, fun t ha hb => ?_, fun id hid ha => ?_, fun id hid ha => ?_, fun id ha hb => ?_, fun i hi ha => ?_, fun i hi ha => ?_⟩
  · unfold affS at ha; rw [ha] at s1; simp [offD] at s1; exact s1 ht
  · unfold affS at ha; rw [ha] at s2; simp [offD] at s2; exact s2 ht
  · unfold affS at ha hb; rw [ha, hb] at s3; simp [ofD] at s3
  · rcases ha with ha | ⟨p, hp, rfl⟩
    · exact h4' id hid ha
    · exact h1' p hp hid
  · rcases ha with ha | ⟨p, hp, rfl⟩
    · exact h3' id hid ha
    · exact h2' p hp hid
  · rcases ha with ha | ⟨p, hp, rfl⟩
    · rcases hb with hb | ⟨q, hq, rfl⟩
      · omega
      · exact h4' _ (hwb q hq) ha
    · rcases hb with hb | ⟨q, hq, e⟩
      · exact h3' _ (hwa p hp) hb
      · exact h2' q hq (by rw [e]; exact hwa p hp)
  · rcases ha with ha | ⟨p, hp, e⟩
    · omega
    · exact h3' _ (hwa p hp) ⟨by omega, by omega⟩
  · rcases ha with ha | ⟨p, hp, e⟩
    · omega
    · exact h4' _ (hwb p hp) ⟨by omega, by omega⟩

abbrev Slots := List (Nat × AVal)
abbrev Heap := List AObj

def get : Slots → Nat → AVal
  | [], _ => .undef
  | (t, v) :: s, i => if t = i then v else get s i

def getO (H : Heap) (id : Nat) : AObj := H.getD id .free

def S (s : Slots) (H : Heap) : St := ⟨get s, getO H⟩

def putS (d : Option Nat) (v : AVal) (s : Slots) : Slots :=
  match d with
  | some d => (d, v) :: s
  | none => s

def setAll (ws : List (Nat × AObj)) (H : Heap) : Heap :=
  match ws with
  | [] => H
  | p :: ws => (setAll ws H).set p.1 p.2

def Eff.ss (e : Eff) (s : Slots) : Slots := putS e.d e.v s
def Eff.hh (e : Eff) (H : Heap) : Heap := setAll e.wr H ++ e.nw

def Eff.inH (e : Eff) (H : Heap) : Prop := ∀ p ∈ e.wr, p.1 < H.length

theorem get_upd (d : Nat) (v : AVal) (s : Slots) : get ((d, v) :: s) = upd (get s) d v := by
  funext t
  simp only [get, upd]
  by_cases h : d = t
  · subst h; simp
  · rw [if_neg h, if_neg (fun e => h e.symm)]

theorem get_ss (e : Eff) (s : Slots) : get (e.ss s) = e.slots (get s) := by
  unfold Eff.ss putS Eff.slots
  cases e.d with
  | none => rfl
  | some d => exact get_upd d e.v s

theorem length_setAll : ∀ (ws : List (Nat × AObj)) (H : Heap), (setAll ws H).length = H.length
  | [], H => rfl
  | p :: ws, H => by simp [setAll, length_setAll ws H]

theorem getO_free {H : Heap} {id : Nat} (h : H.length ≤ id) : getO H id = .free := by
  simp [getO, List.getD, List.getElem?_eq_none h]

theorem lt_of_getO {H : Heap} {id : Nat} (h : getO H id ≠ .free) : id < H.length := by
  rcases Nat.lt_or_ge id H.length with h' | h'
  · exact h'
  · exact absurd (getO_free h') h

theorem getO_setAll {H : Heap} : ∀ (ws : List (Nat × AObj)) (id : Nat), (∀ p ∈ ws, p.1 < H.length) → getO (setAll ws H) id = match ws.find? (fun p => p.1 == id) with
    | some p => p.2
    | none => getO H id
  | [], id, _ => rfl
  | p :: ws, id, h => by
    have ih := getO_setAll (H := H) ws id fun q hq => h q (List.mem_cons_of_mem _ hq)
    have hp := h p (List.mem_cons_self ..)
    simp only [setAll, List.find?_cons]
    by_cases e : p.1 = id
    · subst e
      simp only [beq_self_eq_true]
      simp [getO, List.getD, length_setAll, hp]
    · have : (p.1 == id) = false := by simpa using e
      rw [this]
      rw [← ih]
      simp [getO, List.getD, List.getElem?_set_ne e]

theorem getO_hh {e : Eff} {H : Heap} (h : e.inH H) : getO (e.hh H) = e.heap (getO H) H.length := by
  funext id
  unfold Eff.hh Eff.heap
  by_cases h1 : id < H.length
  · rw [if_neg (by omega)]
    have h2 := getO_setAll e.wr id h
    have h3 : getO (setAll e.wr H ++ e.nw) id = getO (setAll e.wr H) id := by
      simp [getO, List.getD, List.getElem?_append_left (by rw [length_setAll]; exact h1 : id < (setAll e.wr H).length)]
    rw [h3, h2]
    cases e.wr.find? (fun p => p.1 == id) <;> rfl
  · have h2 : (setAll e.wr H).length ≤ id := by rw [length_setAll]; omega
    by_cases h3 : id < H.length + e.nw.length
    · rw [if_pos (by omega)]
      simp [getO, List.getD, List.getElem?_append_right h2, length_setAll]
    · rw [if_neg (by omega)]
      have : (e.wr.find? fun p => p.1 == id) = none := by
        rw [List.find?_eq_none]
        intro p hp hc
        have := h p hp
        simp at hc
        omega
      rw [this]
      simp only
      rw [getO_free (H := H) (by omega), getO_free (H := setAll e.wr H ++ e.nw) (by rw [List.length_append, length_setAll]; omega)]

theorem S_app {e : Eff} {s : Slots} {H : Heap} (h : e.inH H) : S (e.ss s) (e.hh H) = e.app (S s H) H.length := by
  simp only [S, Eff.app, get_ss, getO_hh h]

theorem length_hh (e : Eff) (H : Heap) : (e.hh H).length = H.length + e.nw.length := by simp [Eff.hh, length_setAll]

def DR (P : Program) (n : Nat) : List SOp → Slots → Heap → List Lg → (List Lg → Slots → Heap → Prop) → Prop
  | [], s, H, log, K => K log s H
  | o :: l, s, H, log, K => ∃ e, LocG P n o (S s H) H.length e ∧ e.inH H ∧ DR P n l (e.ss s) (e.hh H) (log ++ [lgOf o e H.length]) K

theorem DR_inv {P : Program} {n : Nat} {K : List Lg → Slots → Heap → Prop} : ∀ {l : List SOp} {s : Slots} {H : Heap} {log : List Lg}, DR P n l s H log K →
    ∃ (E : Nat → Eff) (sa : Nat → Slots) (ha : Nat → Heap), sa 0 = s ∧ ha 0 = H ∧
      (∀ i o, l[i]? = some o → LocG P n o (S (sa i) (ha i)) (ha i).length (E i) ∧ (E i).inH (ha i) ∧ sa (i + 1) = (E i).ss (sa i) ∧ ha (i + 1) = (E i).hh (ha i)) ∧
      ∃ log', K (log ++ log') (sa l.length) (ha l.length) ∧ log'.length = l.length ∧ ∀ i o, l[i]? = some o → log'[i]? = some (lgOf o (E i) (ha i).length)
  | [], s, H, log, h => ⟨fun _ => ⟨none, .undef, [], [], []⟩, fun _ => s, fun _ => H, rfl, rfl, by simp, [], by simpa [DR] using h, rfl, by simp⟩
  | o :: l, s, H, log, h => by
    obtain ⟨e, h1, h2, h3⟩ := h
    obtain ⟨E, sa, ha, i1, i2, i3, log', i4, i5, i6⟩ := DR_inv h3
    refine ⟨fun i => match i with | 0 => e | i + 1 => E i, fun i => match i with | 0 => s | i + 1 => sa i, fun i => match i with | 0 => H | i + 1 => ha i, rfl, rfl, ?_, lgOf o e H.length :: log', ?_, ?_, ?_⟩
    · intro i o' ho
      cases i with
      | zero =>
        simp at ho; subst ho
        exact ⟨h1, h2, i1, i2⟩
      | succ i => exact i3 i o' (by simpa using ho)
    · simpa using i4
    · simp [i5]
    · intro i o' ho
      cases i with
      | zero => simp at ho; subst ho; rfl
      | succ i => simpa using i6 i o' (by simpa using ho)

/-- The operations that an operation waits for. -/
def onsOf (ops : Array Oper) (i : Nat) : List Nat :=
  match ops[i]? with
  | some o => (o.after.toList.filter fun e => Region.binds .any e).map (·.on)
  | none => []

def maskOf (l : List Nat) (o : List Nat) : Nat := o.foldl (fun m j => m ||| (2 ^ j ||| l.getD j 0)) 0

def masks (ons : Nat → List Nat) : Nat → List Nat
  | 0 => []
  | i + 1 => masks ons i ++ [maskOf (masks ons i) (ons i)]

theorem testBit_maskOf (l : List Nat) (k : Nat) : ∀ (o : List Nat) (m : Nat), (o.foldl (fun m j => m ||| (2 ^ j ||| l.getD j 0)) m).testBit k = true → m.testBit k = true ∨ ∃ j ∈ o, k = j ∨ (l.getD j 0).testBit k = true
  | [], m, h => .inl h
  | j :: o, m, h => by
    rcases testBit_maskOf l k o _ h with h | ⟨j', hj, h⟩
    · rw [Nat.testBit_or, Nat.testBit_or] at h
      rcases Bool.or_eq_true _ _ ▸ h with h | h
      · exact .inl h
      · rcases Bool.or_eq_true _ _ ▸ h with h | h
        · rw [Nat.testBit_two_pow] at h
          exact .inr ⟨j, List.mem_cons_self .., .inl (by simpa using h : j = k).symm⟩
        · exact .inr ⟨j, List.mem_cons_self .., .inr h⟩
    · exact .inr ⟨j', List.mem_cons_of_mem _ hj, h⟩

theorem length_masks (ons : Nat → List Nat) : ∀ i, (masks ons i).length = i
  | 0 => rfl
  | i + 1 => by simp [masks, length_masks ons i]

theorem masks_get (ons : Nat → List Nat) {i : Nat} : ∀ {m : Nat}, i < m → (masks ons m).getD i 0 = maskOf (masks ons i) (ons i)
  | 0, h => by omega
  | m + 1, h => by
    simp only [masks]
    by_cases e : i = m
    · subst e
      simp [List.getD, List.getElem?_append_right (by rw [length_masks]; exact Nat.le_refl _ : (masks ons i).length ≤ i), length_masks]
    · have : i < m := by omega
      have hl : i < (masks ons m).length := by rw [length_masks]; exact this
      rw [← masks_get ons this]
      simp [List.getD, List.getElem?_append_left hl]

/-- What an operation waits for, has been done when it is ready. -/
theorem masks_sub {ons : Nat → List Nat} {L : Nat → Bool} (hL : ∀ i, L i = true → ∀ j ∈ ons i, L j = true) : ∀ (i : Nat), (∀ j ∈ ons i, L j = true) → ∀ k, (maskOf (masks ons i) (ons i)).testBit k = true → L k = true := by
  intro i
  induction i using Nat.strongRecOn with
  | _ i ih =>
    intro hi k hk
    rcases testBit_maskOf _ k (ons i) 0 hk with h | ⟨j, hj, h⟩
    · simp at h
    · rcases h with rfl | h
      · exact hi k hj
      · by_cases hji : j < i
        · rw [masks_get ons hji] at h
          exact ih j hji (hL j (hi j hj)) k h
        · have : (masks ons i).getD j 0 = 0 := by simp [List.getD, List.getElem?_eq_none (by rw [length_masks]; omega : (masks ons i).length ≤ j)]
          rw [this] at h
          simp at h

section
variable {P : Program} {n : Nat} {ops : Array Oper}

/-- All orders come to the same. -/
theorem any_ok {m : Nat} (hm : ops.size = m) {so : Nat → SOp} {E : Nat → Eff} {f : Nat → Nat} {st0 : St} (hso : ∀ i o, ops[i]? = some o → compG P n ops o = so i)
    (hloc : ∀ i, i < m → LocG P n (so i) (stL E f st0 (fun _ => true) i) (f i) (E i)) (hfr : ∀ i, i < m → ∀ r, r < (E i).nw.length → (stL E f st0 (fun _ => true) i).h (f i + r) = .free)
    (hwr : ∀ i, i < m → ∀ p ∈ (E i).wr, p.1 ∈ (E i).rd) (hon : ∀ i, i < m → ∀ j ∈ onsOf ops i, j < i)
    (hind : ∀ i, i < m → ∀ j, j < i → (maskOf (masks (onsOf ops) i) (onsOf ops i)).testBit j = false → indS (E j).d (rdT (so j)) (E i).d (rdT (so i)) = true ∧ indH (lgOf (so j) (E j) (f j)) (lgOf (so i) (E i) (f i)) = true)
    {N : Nat} (hN : st0.h N = .free) (hNa : ∀ i, i < m → ¬ affH (E i) (f i) N) {w0 : World} {G0 : Gh} {Q : Exit → Go.Act → World → Prop}
    (hQ : ∀ a w G, Rel n (stL E f st0 (fun _ => true) m) a w G → Tr w0 G0 st0.h w G (stL E f st0 (fun _ => true) m).h → Q .normal a w) :
    ∀ (fuel : Nat) (L : Array Bool) (a : Go.Act) (w : World) (G : Gh), L.size = m → (∀ i, L.getD i false = true → ∀ j ∈ onsOf ops i, L.getD j false = true) →
      ((List.range m).filter fun i => !L.getD i false).length = fuel →
      Rel n (stL E f st0 (fun i => L.getD i false) m) a w G → Tr w0 G0 st0.h w G (stL E f st0 (fun i => L.getD i false) m).h → wpAny P .any ops Q fuel L a w := by
  -- states of sets that differ
  have hready : ∀ (L : Array Bool) (i : Nat), L.size = m → i ∈ Region.ready .any ops L → i < m ∧ L.getD i false = false ∧ ∀ j ∈ onsOf ops i, L.getD j false = true := by
    intro L i hs hi
    obtain ⟨h0, o, ho, hall⟩ := mem_ready.1 hi
    have hlt : i < m := by rw [← hm]; exact (Array.getElem?_eq_some_iff.1 ho).1
    refine ⟨hlt, ?_, fun j hj => ?_⟩
    · have hl : i < L.size := by omega
      simp [hl] at h0 ⊢
      exact h0
    · unfold onsOf at hj
      rw [ho] at hj
      simp only [List.mem_map, List.mem_filter] at hj
      obtain ⟨e, ⟨he, hb⟩, rfl⟩ := hj
      exact hall e (by simpa using he) hb
  have hdone : ∀ (L : Array Bool), L.size = m → Region.ready .any ops L = [] → ∀ i, i < m → L.getD i false = true := by
    intro L hs hr i
    induction i using Nat.strongRecOn with
    | _ i ih =>
      intro hi
      cases hc : L.getD i false with
      | true => rfl
      | false =>
        have hio : i < ops.size := by omega
        have : i ∈ Region.ready .any ops L := by
          rw [mem_ready]
          have hl : i < L.size := by omega
          refine ⟨by simp [hl] at hc ⊢; exact hc, ops[i], Array.getElem?_eq_getElem hio, fun e he hb => ?_⟩
          have hj : e.on ∈ onsOf ops i := by
            unfold onsOf
            rw [Array.getElem?_eq_getElem hio]
            simp only [List.mem_map, List.mem_filter]
            exact ⟨e, ⟨by simpa using he, hb⟩, rfl⟩
          exact ih e.on (hon i hi _ hj) (by have := hon i hi _ hj; omega)
        rw [hr] at this
        cases this
  have hall : ∀ (L : Array Bool), L.size = m → (∀ i, i < m → L.getD i false = true) → stL E f st0 (fun i => L.getD i false) m = stL E f st0 (fun _ => true) m := by
    intro L hs h
    have : ∀ X Y : St, (∀ t, X.s t = Y.s t) → (∀ id, X.h id = Y.h id) → X = Y := fun X Y a b => by
      cases X; cases Y; simp only [St.mk.injEq]; exact ⟨funext a, funext b⟩
    exact this _ _ (fun t => stL_s m fun j hj hne => absurd (h j hj) hne) fun id => stL_h m fun j hj hne => absurd (h j hj) hne
  intro fuel
  induction fuel with
  | zero =>
    intro L a w G hs hdc hfuel hr ht
    have hl : ∀ i, i < m → L.getD i false = true := fun i hi => by
      have : ((List.range m).filter fun i => !L.getD i false) = [] := List.length_eq_zero_iff.1 hfuel
      rw [List.filter_eq_nil_iff] at this
      simpa using this i (by simpa using hi)
    have he : Region.ready .any ops L = [] := by
      cases h : Region.ready .any ops L with
      | nil => rfl
      | cons i r =>
        have := hready L i hs (by rw [h]; exact List.mem_cons_self ..)
        rw [hl i this.1] at this
        cases this.2.1
    rw [hall L hs hl] at hr ht
    exact ⟨he, hQ a w G hr ht⟩
  | succ fuel ih =>
    intro L a w G hs hdc hfuel hr ht
    refine ⟨fun he => ?_, fun i hi => ?_⟩
    · have hl := hdone L hs he
      rw [hall L hs hl] at hr ht
      exact hQ a w G hr ht
    · obtain ⟨him, hi0, hion⟩ := hready L i hs hi
      have hio : i < ops.size := by omega
      have ho : ops[i]? = some ops[i] := Array.getElem?_eq_getElem hio
      -- those that are done and those that come before in the text
      have hdiff : ∀ j, j < m → L.getD j false ≠ decide (j < i) → j ≠ i → (∀ t ∈ rdT (so i), ¬ affS (E j) t) ∧ (∀ id ∈ (E i).rd, ¬ affH (E j) (f j) id) ∧ (∀ r, r < (E i).nw.length → ¬ affH (E j) (f j) (f i + r)) ∧
          (∀ t, affS (E i) t → ¬ affS (E j) t) ∧ (∀ id, affH (E i) (f i) id → ¬ affH (E j) (f j) id) := by
        intro j hj hne hji
        by_cases hlt : j < i
        · have hL : L.getD j false = false := by simp only [hlt, decide_true] at hne; simpa using hne
          have hmask : (maskOf (masks (onsOf ops) i) (onsOf ops i)).testBit j = false := by
            cases hb : (maskOf (masks (onsOf ops) i) (onsOf ops i)).testBit j with
            | false => rfl
            | true =>
              have := masks_sub (L := fun i => L.getD i false) hdc i hion j hb
              simp only [hL] at this
              cases this
          obtain ⟨a1, a2⟩ := hind i him j hlt hmask
          obtain ⟨b1, b2, b3, b4, b5, b6, b7, b8⟩ := ind_spec a1 a2 (hwr j hj) (hwr i him)
          exact ⟨b1, b4, b7, fun t h1 h2 => b3 t h2 h1, fun id h1 h2 => b6 id h2 h1⟩
        · have hgt : i < j := by omega
          have hL : L.getD j false = true := by simp only [hlt, decide_false] at hne; simpa using hne
          have hmask : (maskOf (masks (onsOf ops) j) (onsOf ops j)).testBit i = false := by
            cases hb : (maskOf (masks (onsOf ops) j) (onsOf ops j)).testBit i with
            | false => rfl
            | true =>
              have := masks_sub (L := fun i => L.getD i false) hdc j (hdc j hL) i hb
              simp only [hi0] at this
              cases this
          obtain ⟨a1, a2⟩ := hind j hj i hgt hmask
          obtain ⟨b1, b2, b3, b4, b5, b6, b7, b8⟩ := ind_spec a1 a2 (hwr i him) (hwr j hj)
          exact ⟨b2, b5, b8, b3, b6⟩
      have htext : ∀ k, k ≤ i → stL E f st0 (fun j => decide (j < i)) k = stL E f st0 (fun _ => true) k := by
        intro k
        induction k with
        | zero => intro _; rfl
        | succ k ihk => intro hk; simp only [stL, decide_eq_true (show k < i by omega), if_true]; rw [ihk (by omega)]
      have htext2 : ∀ k, i ≤ k → stL E f st0 (fun j => decide (j < i)) k = stL E f st0 (fun j => decide (j < i)) i := by
        intro k
        induction k with
        | zero => intro h; have : i = 0 := by omega
                  rw [this]
        | succ k ihk =>
          intro hk
          by_cases e : i = k + 1
          · rw [e]
          · have : ¬ k < i := by omega
            simp only [stL, this, decide_false, Bool.false_eq_true, if_false]
            exact ihk (by omega)
      have hT : stL E f st0 (fun j => decide (j < i)) m = stL E f st0 (fun _ => true) i := by rw [htext2 m (by omega), htext i (Nat.le_refl _)]
      have hself : ∀ j, L.getD j false ≠ decide (j < i) → j ≠ i := fun j hne e => by subst e; rw [hi0] at hne; simp at hne
      have agS : ∀ t ∈ rdT (so i), (stL E f st0 (fun i => L.getD i false) m).s t = (stL E f st0 (fun _ => true) i).s t := fun t ht => by
        rw [← hT]; exact stL_s m fun j hj hne => (hdiff j hj hne (hself j hne)).1 t ht
      have agH : ∀ id ∈ (E i).rd, (stL E f st0 (fun i => L.getD i false) m).h id = (stL E f st0 (fun _ => true) i).h id := fun id hid => by
        rw [← hT]; exact stL_h m fun j hj hne => (hdiff j hj hne (hself j hne)).2.1 id hid
      have agF : ∀ r, r < (E i).nw.length → (stL E f st0 (fun i => L.getD i false) m).h (f i + r) = .free := fun r hrr => by
        rw [← hfr i him r hrr, ← hT]; exact stL_h m fun j hj hne => (hdiff j hj hne (hself j hne)).2.2.1 r hrr
      have agN : ∃ k, (stL E f st0 (fun i => L.getD i false) m).h k = .free := ⟨N, by
        rw [stL_h (L' := fun _ => false) m fun j hj _ => hNa j hj]
        have : ∀ k, (stL E f st0 (fun _ => false) k) = st0 := fun k => by induction k with | zero => rfl | succ k ih => simp only [stL, Bool.false_eq_true, if_false]; exact ih
        rw [this]; exact hN⟩
      refine locG_ok ho (hso i _ ho) (hloc i him) (s' := (stL E f st0 (fun i => L.getD i false) m).s) (h' := (stL E f st0 (fun i => L.getD i false) m).h) agS agH agF agN hr fun a' w' G' r1 r2 => ?_
      have hl : i < L.size := by omega
      have hset : ∀ j, (L.setIfInBounds i true).getD j false = if j = i then true else L.getD j false := fun j => by
        by_cases e : j = i
        · subst e; simp [hl]
        · rw [if_neg e]; exact getD_set_ne false (Ne.symm e)
      have hadd : stL E f st0 (fun j => (L.setIfInBounds i true).getD j false) m = (E i).app (stL E f st0 (fun i => L.getD i false) m) (f i) := by
        refine stL_add him hi0 (by simp only [hset]; simp) (fun j hj => by simp only [hset]; rw [if_neg hj]) (fun j hj hj' hLj t h1 => ?_) fun j hj hj' hLj id h1 => ?_
        · exact (hdiff j hj' (by rw [hLj]; simp; omega) (by omega)).2.2.2.1 t h1
        · exact (hdiff j hj' (by rw [hLj]; simp; omega) (by omega)).2.2.2.2 id h1
      refine ih (L.setIfInBounds i true) a' w' G' (by simp [hs]) (fun j hj k hk => ?_) ?_ (by rw [hadd]; exact r1) (by rw [hadd]; exact ht.trans r2)
      · rw [hset] at hj ⊢
        by_cases e : k = i
        · rw [if_pos e]
        · rw [if_neg e]
          by_cases e' : j = i
          · subst e'; exact hion k hk
          · rw [if_neg e'] at hj; exact hdc j hj k hk
      · have h1 : ((List.range m).filter fun j => !L.getD j false).length = ((List.range m).filter fun j => !(L.setIfInBounds i true).getD j false).length + 1 := by
          have key : ∀ (l : List Nat), l.Nodup → i ∈ l → (l.filter fun j => !L.getD j false).length = (l.filter fun j => !(L.setIfInBounds i true).getD j false).length + 1 := by
            intro l
            induction l with
            | nil => intro _ h; cases h
            | cons x l ihl =>
              intro hnd hmem
              obtain ⟨hx, hnd'⟩ := List.nodup_cons.1 hnd
              by_cases e : x = i
              · subst e
                have : (l.filter fun j => !(L.setIfInBounds x true).getD j false) = l.filter fun j => !L.getD j false := by
                  refine List.filter_congr fun j hj => ?_
                  rw [hset, if_neg (show ¬ j = x from fun e => hx (e ▸ hj))]
                simp only [List.filter_cons, hi0, hset x, if_true, Bool.not_false, Bool.not_true, Bool.false_eq_true, if_false, this, List.length_cons]
              · have hmem' : i ∈ l := by
                  rcases List.mem_cons.1 hmem with h | h
                  · exact absurd h.symm e
                  · exact h
                have := ihl hnd' hmem'
                simp only [List.filter_cons, hset x, if_neg e]
                split
                · simp only [List.length_cons]; omega
                · exact this
          exact key _ List.nodup_range (by simpa using him)
        omega
end

inductive SC where
  | skip
  | ret
  | seq (a b : SC)
  | reg (l : List SOp)
  | regD (l : List SOp) (ps : List (Nat × Nat))
  | cond (x : SO) (a b : SC)
  | block (id : Nat) (c : SC)
  | loop (c : SC)
  | exit (id : Nat)
  | bad

def soAt (P : Program) (n : Nat) (ops : Array Oper) (i : Nat) : SOp :=
  match ops[i]? with
  | some o => compG P n ops o
  | none => .bad

def soL (P : Program) (n : Nat) (ops : Array Oper) : List SOp := (List.range ops.size).map (soAt P n ops)

def needs (a b : SOp) : Bool := !(pureS a || pureS b) && !(readS a && readS b)

def onsOk (ops : Array Oper) : Bool := (List.range ops.size).all fun i => (onsOf ops i).all fun j => decide (j < i)

def statOk (l : List SOp) (ms : List Nat) : Bool :=
  (List.range l.length).all fun i => (List.range i).all fun j => (ms.getD i 0).testBit j || indS (dstS (l.getD j .bad)) (rdT (l.getD j .bad)) (dstS (l.getD i .bad)) (rdT (l.getD i .bad))

def dynP (l : List SOp) (ms : List Nat) : List (Nat × Nat) :=
  (List.range l.length).flatMap fun i => ((List.range i).filter fun j => !(ms.getD i 0).testBit j && needs (l.getD j .bad) (l.getD i .bad)).map fun j => (j, i)

def compC (P : Program) (n : Nat) : Code → SC
  | .skip => .skip
  | .seq a b => .seq (compC P n a) (compC P n b)
  | .cond x a b => match co x with
    | some x' => .cond x' (compC P n a) (compC P n b)
    | none => .bad
  | .block id c => .block id (compC P n c)
  | .loop c => .loop (compC P n c)
  | .exit id => .exit id
  | .ret => .ret
  | .region _ ops false => .reg (soL P n ops)
  | .region _ ops true =>
    if onsOk ops && (statOk (soL P n ops) (masks (onsOf ops) ops.size)) then .regD (soL P n ops) (dynP (soL P n ops) (masks (onsOf ops) ops.size)) else .bad
  | _ => .bad

inductive It where
  | code (c : SC)
  | blk (id : Nat)
  | again (c : SC)

def exitIt (id : Nat) : List It → Option (List It)
  | [] => none
  | .blk id' :: k => if id' = id then some k else exitIt id k
  | .code _ :: k => exitIt id k
  | .again _ :: k => exitIt id k

inductive Mt (P : Program) (n : Nat) : List It → List Item → Prop
  | nil : Mt P n [] []
  | code (c : Code) {k : List It} {ks : List Item} (h : Mt P n k ks) : Mt P n (.code (compC P n c) :: k) (.code c :: ks)
  | blk (id : Nat) {k : List It} {ks : List Item} (h : Mt P n k ks) : Mt P n (.blk id :: k) (.inBlock id :: ks)
  | again (c : Code) {k : List It} {ks : List Item} (h : Mt P n k ks) : Mt P n (.again (compC P n c) :: k) (.inLoop c :: ks)

theorem Mt.exit {P : Program} {n id : Nat} {k : List It} {ks : List Item} (h : Mt P n k ks) : ∀ {k' : List It}, exitIt id k = some k' → ∃ ks', exitTo id ks = some ks' ∧ Mt P n k' ks' := by
  induction h with
  | nil => intro k' h; cases h
  | code c h ih => intro k' h'; exact ih h'
  | again c h ih => intro k' h'; exact ih h'
  | @blk id' k ks h ih =>
    intro k' h'
    simp only [exitIt] at h'
    split at h'
    · rename_i e
      subst e
      injection h' with h'; subst h'
      exact ⟨ks, by simp [exitTo], h⟩
    · rename_i e
      obtain ⟨ks', h1, h2⟩ := ih h'
      refine ⟨ks', ?_, h2⟩
      have : (id' == id) = false := by simpa using e
      simp [exitTo, this, h1]

section
variable (P : Program) (n m0 : Nat)

/-- What is known may be told otherwise, and less of it. -/
def Gs (s : Slots) (H : Heap) (s' : Slots) (H' : Heap) : Prop := ∀ w0 G0 h0, (∀ id, m0 ≤ id → h0 id = .free) → ∀ a w G, Rel n (S s H) a w G → Tr w0 G0 h0 w G (getO H) → ∃ G', Rel n (S s' H') a w G' ∧ Tr w0 G0 h0 w G' (getO H')

/-- The capacity of a slice, and the heap that tells of all the room. -/
def CP (H : Heap) (v : AVal) (K : Int → Heap → Prop) : Prop :=
  match v with
  | .nil | .emp => K 0 H
  | .row id q off _ => match getO H id with
    | .cells q' k t fu es => q' = q ∧ ∀ m : Nat, (fu = true → m = 0) → K ((es.length : Int) + m - off) (H.set id (.cells q k t true (es ++ List.replicate m (List.replicate k .undef))))
    | _ => False
  | _ => False

/-- What may come of an operation. -/
def OpE (so : SOp) (E : Slots → Heap → Prop) (s : Slots) (H : Heap) : Prop :=
  match so with
  | .binN d kd neq x => kindOf (ev (get s) x) = kd ∧ match nilOf (getO H) (ev (get s) x) with
    | some (b, rd) => E ((d, .bool (if neq then !b else b)) :: s) H
    | none => ∀ b : Bool, E ((d, .bool b) :: s) H
  | .cap d x => CP H (ev (get s) x) fun c H' => E ((d, .int .i64 c) :: s) H'
  | .call d f xs => ∃ s' H', Gs n m0 s H s' H' ∧ ∃ e, LocOp P n (.call d f xs) (S s' H') H'.length e ∧ e.inH H' ∧ E (e.ss s') (e.hh H')
  | .g t want d o => (get s t = .bool want ∧ OpE o E s H) ∨ ((get s t = .bool (!want) ∨ get s t = .tup []) ∧ E (putS d (.tup []) s) H)
  | o => ∃ e, astep o (S s H) H.length = some e ∧ E (e.ss s) (e.hh H)

def OR : List SOp → (Slots → Heap → Prop) → Slots → Heap → Prop
  | [], K => K
  | o :: l, K => OpE P n m0 o (OR l K)

def BN (dr : Bool) (d : Nat) (neq : Bool) (r : Option (Bool × List Nat)) (rt : List Nat) (E : Lg → Slots → Heap → Prop) (s : Slots) (H : Heap) : Prop :=
  match r with
  | some (b, rd) => E ⟨some d, rt, rd, [], H.length, 0⟩ ((d, .bool (if neq then !b else b)) :: s) H
  | none => dr = false ∧ ∀ b : Bool, E ⟨some d, rt, [], [], H.length, 0⟩ ((d, .bool b) :: s) H

/-- A call, at its place. -/
def CX (dr : Bool) (d : Option Nat) (f : SO) (xs : List SO) (rt : List Nat) (E : Lg → Slots → Heap → Prop) (s : Slots) (H : Heap) : Prop :=
  ∃ s' H', (dr = true → s' = s ∧ H' = H) ∧ Gs n m0 s H s' H' ∧ ∃ e, LocOp P n (.call d f xs) (S s' H') H'.length e ∧ e.inH H' ∧ E ⟨e.d, rt, e.rd, e.wr.map (·.1), H'.length, e.nw.length⟩ (e.ss s') (e.hh H')

/-- The temporary that a guarded operation sets. -/
def dstG (o : SOp) : Option (Option Nat) :=
  match o with
  | .g .. => none
  | o => some (dstS o)

/-- One operation, and what it touches. -/
def OpX (dr : Bool) (so : SOp) (rt : List Nat) (E : Lg → Slots → Heap → Prop) (s : Slots) (H : Heap) : Prop :=
  match so with
  | .binN d kd neq x => kindOf (ev (get s) x) = kd ∧ BN dr d neq (nilOf (getO H) (ev (get s) x)) rt E s H
  | .cap d x => dr = false ∧ CP H (ev (get s) x) fun c H' => E ⟨some d, rt, [], [], H.length, 0⟩ ((d, .int .i64 c) :: s) H'
  | .call d f xs => CX P n m0 dr d f xs rt E s H
  | .g t want d o => dstG o = some d ∧ ((get s t = .bool want ∧ OpX dr o rt E s H) ∨ ((get s t = .bool (!want) ∨ get s t = .tup []) ∧ E ⟨d, rt, [], [], H.length, 0⟩ (putS d (.tup []) s) H))
  | o => ∃ e, astep o (S s H) H.length = some e ∧ E ⟨e.d, rt, e.rd, e.wr.map (·.1), H.length, e.nw.length⟩ (e.ss s) (e.hh H)

def ign (K : Slots → Heap → Prop) (_ : Lg) (s : Slots) (H : Heap) : Prop := K s H

def OX : List SOp → (Slots → Heap → Prop) → Slots → Heap → Prop
  | [], K, s, H => K s H
  | o :: l, K, s, H => OpX P n m0 false o [] (ign (OX l K)) s H

def DX : List SOp → List Lg → (List Lg → Slots → Heap → Prop) → Slots → Heap → Prop
  | [], log, K, s, H => K log s H
  | o :: l, log, K, s, H => OpX P n m0 true o (rdT o) (fun g s H => DX l (log ++ [g]) K s H) s H

def DXn (l : List SOp) (log : List Lg) (K : List Lg → Slots → Heap → Prop) (g : Lg) (s : Slots) (H : Heap) : Prop := DX P n m0 l (log ++ [g]) K s H

def Sem (Q : St → Prop) (its : List It) (s : Slots) (H : Heap) : Prop :=
  ∀ ks, Mt P n its ks → ∀ w0 G0 h0, (∀ id, m0 ≤ id → h0 id = .free) → ∀ a w G, Rel n (S s H) a w G → Tr w0 G0 h0 w G (getO H) → ∀ (b : Frame) cs, ∃ a' w' G' st' todo, Steps P (lone (b.at a ks) cs w) (lone { b.at a' todo with mode := .returning } cs w') ∧
    Rel n st' a' w' G' ∧ Tr w0 G0 h0 w' G' st'.h ∧ Q st'

/-- At a loop's head. -/
def Lp (Q : St → Prop) (c : SC) (k : List It) (s : Slots) (H : Heap) : Prop := Sem P n m0 Q (.code c :: .again c :: k) s H

/-- At a return. -/
def Rt (Q : St → Prop) (s : Slots) (H : Heap) : Prop :=
  ∀ w0 G0 h0, (∀ id, m0 ≤ id → h0 id = .free) → ∀ a w G, Rel n (S s H) a w G → Tr w0 G0 h0 w G (getO H) → ∃ G' st', Rel n st' a w G' ∧ Tr w0 G0 h0 w G' st'.h ∧ Q st'

def chk (log : List Lg) (ps : List (Nat × Nat)) : Bool := ps.all fun p => indH (log.getD p.1 ⟨none, [], [], [], 0, 0⟩) (log.getD p.2 ⟨none, [], [], [], 0, 0⟩)

theorem CP_mono {H : Heap} {v : AVal} {K K' : Int → Heap → Prop} (hk : ∀ c H', K c H' → K' c H') (h : CP H v K) : CP H v K' := by
  cases v <;> simp only [CP] at h ⊢ <;> first | exact hk _ _ h | exact h.elim | skip
  rename_i id q off len
  revert h
  cases getO H id <;> simp only <;> intro h <;> first | exact h.elim | exact ⟨h.1, fun m hm => hk _ _ (h.2 m hm)⟩

inductive V (Q : St → Prop) : List It → Slots → Heap → Prop
  | nil {s : Slots} {H : Heap} (h : Rt n m0 Q s H) : V Q [] s H
  | skip {k : List It} {s : Slots} {H : Heap} (h : V Q k s H) : V Q (.code .skip :: k) s H
  | ret {k : List It} {s : Slots} {H : Heap} (h : Rt n m0 Q s H) : V Q (.code .ret :: k) s H
  | seq {x y : SC} {k : List It} {s : Slots} {H : Heap} (h : V Q (.code x :: .code y :: k) s H) : V Q (.code (.seq x y) :: k) s H
  | cond {x : SO} {c d : SC} {k : List It} {s : Slots} {H : Heap} (b : Bool) (hb : ev (get s) x = .bool b) (ht : b = true → V Q (.code c :: k) s H) (hf : b = false → V Q (.code d :: k) s H) : V Q (.code (.cond x c d) :: k) s H
  | block {id : Nat} {c : SC} {k : List It} {s : Slots} {H : Heap} (h : V Q (.code c :: .blk id :: k) s H) : V Q (.code (.block id c) :: k) s H
  | blk {id : Nat} {k : List It} {s : Slots} {H : Heap} (h : V Q k s H) : V Q (.blk id :: k) s H
  | loop {c : SC} {k : List It} {s : Slots} {H : Heap} (h : Lp P n m0 Q c k s H) : V Q (.code (.loop c) :: k) s H
  | again {c : SC} {k : List It} {s : Slots} {H : Heap} (h : Lp P n m0 Q c k s H) : V Q (.again c :: k) s H
  | exit {id : Nat} {k k' : List It} {s : Slots} {H : Heap} (he : exitIt id k = some k') (h : V Q k' s H) : V Q (.code (.exit id) :: k) s H
  | reg {l : List SOp} {k : List It} {s : Slots} {H : Heap} (E : Slots → Heap → Prop) (hl : OX P n m0 l E s H) (h : ∀ s' H', E s' H' → V Q k s' H') : V Q (.code (.reg l) :: k) s H
  | regD {l : List SOp} {ps : List (Nat × Nat)} {k : List It} {s : Slots} {H : Heap} (E : List Lg → Slots → Heap → Prop) (hl : DX P n m0 l [] E s H)
      (hc : ∀ log s' H', E log s' H' → chk log ps = true) (h : ∀ log s' H', E log s' H' → V Q k s' H') : V Q (.code (.regD l ps) :: k) s H
end

section
variable {P : Program} {n : Nat}

theorem comp_binN {o : Oper} {d kd : Nat} {neq : Bool} {x' : SO} (h : compOp P n o = .binN d kd neq x') : o.dst = some d ∧ d < n ∧ ∃ op t x z t', o.op = .binOp op t x z t' ∧ (op = if neq then .neq else .eql) ∧ nilKind P t z = true ∧ co x = some x' ∧ kd = kindT P t := by
  unfold compOp at h
  split at h
  · rename_i d' hd
    split at h
    · rename_i hn
      unfold compD at h
      split at h
      case h_10 op t x y t' ho =>
        repeat' (split at h)
        case h_5.isTrue =>
          rename_i hz
          unfold eqOp at h
          split at h
          · unfold o1 at h
            split at h
            · rename_i y' hy; injection h with h1 h2 h3 h4; subst h1 h2 h3 h4
              exact ⟨hd, hn, _, _, _, _, _, ho, rfl, hz, hy, rfl⟩
            · cases h
          · unfold o1 at h
            split at h
            · rename_i y' hy; injection h with h1 h2 h3 h4; subst h1 h2 h3 h4
              exact ⟨hd, hn, _, _, _, _, _, ho, rfl, hz, hy, rfl⟩
            · cases h
          · cases h
        all_goals ((try simp only [o1, oo, eqOp] at h); (repeat' (split at h)) <;> (cases h; done))
      all_goals ((try simp only [o1, oo, eqOp, compB, compB0] at h); (repeat' (split at h)) <;> (cases h; done))
    · cases h
  · (try simp only [o1, compB0, compM] at h)
    (repeat' (split at h)) <;> (cases h; done)

theorem comp_cap {o : Oper} {d : Nat} {x' : SO} (h : compOp P n o = .cap d x') : o.dst = some d ∧ d < n ∧ ∃ x t e, o.op = .call { callee := .builtin .cap, args := #[x], argTypes := #[t] } ∧ P.underlying t = some (.slice e) ∧ co x = some x' := by
  unfold compOp at h
  split at h
  · rename_i d' hd
    split at h
    · rename_i hn
      unfold compD at h
      split at h
      case h_25 c ho =>
        split at h
        · (try simp only [o1, compB, compB0] at h)
          (repeat' (split at h)) <;> (cases h; done)
        · (try simp only [o1, compB, compB0] at h)
          (repeat' (split at h)) <;> (cases h; done)
        · rename_i b _ _ hb
          generalize hargs : c.args.toList = L1 at h
          generalize hts : c.argTypes.toList = L2 at h
          unfold compB at h
          split at h
          case h_5 x t _ _ =>
            split at h
            · rename_i e ht
              unfold o1 at h
              split at h
              · rename_i y hy
                injection h with h1 h2; subst h1 h2
                refine ⟨hd, hn, x, t, e, ?_, ht, hy⟩
                rw [ho]
                obtain ⟨cc, aa, tt⟩ := c
                obtain ⟨aa⟩ := aa
                obtain ⟨tt⟩ := tt
                simp only at hb hargs hts
                subst hb hargs hts
                rfl
              · cases h
            · cases h
          all_goals ((try simp only [o1, oo, eqOp] at h); (repeat' (split at h)) <;> (cases h; done))
        · unfold o1 at h
          (repeat' (split at h)) <;> (cases h; done)
        · cases h
      all_goals ((try simp only [o1, oo, eqOp, compB, compB0] at h); (repeat' (split at h)) <;> (cases h; done))
    · cases h
  · (try simp only [o1, compB0, compM] at h)
    (repeat' (split at h)) <;> (cases h; done)

theorem comp_call {o : Oper} {d : Option Nat} {f' : SO} {xs' : List SO} (h : compOp P n o = .call d f' xs') : o.dst = d ∧ (∀ t, d = some t → t < n) ∧ ∃ c g, o.op = .call c ∧ c.callee = .value g ∧ co g = some f' ∧ cos c.args.toList = some xs' := by
  unfold compOp at h
  split at h
  · rename_i d' hd
    split at h
    · rename_i hn
      unfold compD at h
      split at h
      case h_25 c ho =>
        split at h
        · (try simp only [o1, compB, compB0] at h)
          (repeat' (split at h)) <;> (cases h; done)
        · (try simp only [o1, compB, compB0] at h)
          (repeat' (split at h)) <;> (cases h; done)
        · (try simp only [o1, compB, compB0] at h)
          (repeat' (split at h)) <;> (cases h; done)
        · rename_i g hg
          unfold o1 at h
          split at h
          · rename_i y hy
            split at h
            · rename_i xs hxs
              injection h with h1 h2 h3; subst h1 h2 h3
              exact ⟨hd, fun t ht => (by injection ht with ht; subst ht; exact hn), c, g, ho, hg, hy, hxs⟩
            · cases h
          · cases h
        · cases h
      all_goals ((try simp only [o1, oo, eqOp, compB, compB0] at h); (repeat' (split at h)) <;> (cases h; done))
    · cases h
  · rename_i hd
    split at h
    · (try simp only [o1, compB0, compM] at h)
      (repeat' (split at h)) <;> (cases h; done)
    · (try simp only [o1, compB0, compM] at h)
      (repeat' (split at h)) <;> (cases h; done)
    · (try simp only [o1, compB0, compM] at h)
      (repeat' (split at h)) <;> (cases h; done)
    · rename_i c ho
      split at h
      · rename_i g hg
        unfold o1 at h
        split at h
        · rename_i y hy
          split at h
          · rename_i xs hxs
            injection h with h1 h2 h3; subst h1 h2 h3
            exact ⟨hd, fun t ht => (by cases ht), c, g, ho, hg, hy, hxs⟩
          · cases h
        · cases h
      · (try simp only [o1, compB, compB0] at h)
        (repeat' (split at h)) <;> (cases h; done)
      · cases h
    · cases h
end

section
variable {P : Program} {n m0 : Nat}

theorem opE0 {o : Oper} {so : SOp} (hso : compOp P n o = so) (hg : ∀ t w d x, so ≠ .g t w d x) {s : Slots} {H : Heap} {E : Slots → Heap → Prop} (hE : OpE P n m0 so E s H) {w0 : World} {G0 : Gh} {h0 : Nat → AObj} (hb0 : ∀ id, m0 ≤ id → h0 id = .free) {a : Go.Act} {w : World} {G : Gh} (hr : Rel n (S s H) a w G) (ht : Tr w0 G0 h0 w G (getO H)) :
    o.wp P a w (fun a' w' => ∃ s' H' G', E s' H' ∧ Rel n (S s' H') a' w' G' ∧ Tr w0 G0 h0 w' G' (getO H')) (fun _ _ _ => False) := by
  have fin : ∀ e, e.inH H → E (e.ss s) (e.hh H) → OpW P n o (S s H) H.length e → o.wp P a w (fun a' w' => ∃ s' H' G', E s' H' ∧ Rel n (S s' H') a' w' G' ∧ Tr w0 G0 h0 w' G' (getO H')) (fun _ _ _ => False) := by
    intro e hin hEe hw
    refine Oper.wp_mono (fun a' w' ⟨G', r1, r2⟩ => ⟨e.ss s, e.hh H, G', hEe, by rw [S_app hin]; exact r1, by rw [getO_hh hin]; exact ht.trans r2⟩) (hw a w G hr)
  have gen : (∃ e, astep so (S s H) H.length = some e ∧ E (e.ss s) (e.hh H)) → o.wp P a w (fun a' w' => ∃ s' H' G', E s' H' ∧ Rel n (S s' H') a' w' G' ∧ Tr w0 G0 h0 w' G' (getO H')) (fun _ _ _ => False) := by
    rintro ⟨e, he, hEe⟩
    subst hso
    have hin : e.inH H := fun p hp => lt_of_getO (astep_wr (h := getO H) (s := get s) he p hp).2
    exact fin e hin hEe (comp_ok (st := S s H) (getO_free (Nat.le_refl _)) he).w
  cases so
  case binN d kd neq x =>
    obtain ⟨hk, hE⟩ := hE
    split at hE
    · rename_i b rd hb
      refine gen ⟨⟨some d, .bool (if neq then !b else b), rd, [], []⟩, ?_, by simpa [Eff.ss, Eff.hh, putS, setAll] using hE⟩
      simp only [astep]
      rw [if_pos (show kindOf (ev (S s H).s x) = kd from hk), show nilOf (S s H).h (ev (S s H).s x) = some (b, rd) from hb]
    · obtain ⟨hd, hn, op, t, x0, z, t', ho, hop, hz, hx, hkd⟩ := comp_binN hso
      have hv := co_ok hr hx
      have hrun := run_binN (P := P) (w := w) ho hop hz hv (by rw [← hkd]; exact hk)
      unfold Oper.wp
      rw [hrun]
      refine ⟨_, _, G, hE (if neq then !(vNil (a.eval x0)) else vNil (a.eval x0)), ?_, ht⟩
      rw [hd]
      have := hr.put hn (VR.cl (h := (S s H).h) _ _ (.bool (if neq then !(vNil (a.eval x0)) else vNil (a.eval x0))))
      simpa only [S, get_upd] using this
  case cap d x =>
    obtain ⟨hd, hn, x0, t, e0, ho, hu, hx⟩ := comp_cap hso
    have hv := co_ok hr hx
    have hE : CP H (ev (get s) x) fun c H' => E ((d, .int .i64 c) :: s) H' := hE
    have put : ∀ (c : Int) H' G', Rel n (S s H') a w G' → Rel n (S ((d, .int .i64 c) :: s) H') (a.put (some d) (.int .i64 c)) w G' := fun c H' G' h => by
      have := h.put hn (VR.cl (h := (S s H').h) _ _ (.int .i64 c))
      simpa only [S, get_upd] using this
    unfold CP at hE
    split at hE
    · rename_i hxe
      have e1 : a.eval x0 = .slice none 0 0 := by
        have : ev (S s H).s x = .nil := hxe
        rw [this] at hv
        exact hv.nil_inv
      unfold Oper.wp
      rw [run_cap ho hu e1]
      refine ⟨_, _, G, hE, ?_, ht⟩
      rw [hd]
      exact put _ _ _ hr
    · rename_i hxe
      have e1 : ∃ ad, a.eval x0 = .slice ad 0 0 := by
        have : ev (S s H).s x = .emp := hxe
        rw [this] at hv
        exact hv.emp_inv
      obtain ⟨ad, e1⟩ := e1
      unfold Oper.wp
      rw [run_cap ho hu e1]
      refine ⟨_, _, G, hE, ?_, ht⟩
      rw [hd]
      exact put _ _ _ hr
    · rename_i id q off len hxe
      split at hE
      · rename_i q' k t' fu es hob
        obtain ⟨rfl, hE⟩ := hE
        have hv' : VR w G (getO H) (.row id q' off len) (a.eval x0) := by
          have : ev (S s H).s x = .row id q' off len := hxe
          rw [← this]; exact hv
        obtain ⟨ad, cap, ex, _, hro⟩ := hv'.row_inv
        obtain ⟨_, r2⟩ := hro _ _ _ _ _ hob
        obtain ⟨m, m1, m2, r3, r4, r5⟩ := hr.heap.tellCap hob (r2 rfl)
        have hlt : id < H.length := lt_of_getO (by rw [hob]; simp)
        have hset : getO (H.set id (.cells q' k t' true (es ++ List.replicate m (List.replicate k .undef)))) = upd (getO H) id (.cells q' k t' true (es ++ List.replicate m (List.replicate k .undef))) := by
          funext i
          simp only [getO, upd, List.getD, List.getElem?_set]
          by_cases e : id = i
          · subst e; simp [hlt]
          · have e' : ¬ i = id := fun h => e h.symm
            simp [e, e']
        unfold Oper.wp
        rw [run_cap ho hu ex]
        have hEm := hE m m1
        rw [← m2] at hEm
        refine ⟨_, _, G, hEm, ?_, ?_⟩
        · rw [hd]
          refine put _ _ _ ?_
          have := hr.ext (fun _ h => h) (fun _ _ => rfl) r4 r3
          simpa only [S, hset] using this
        · rw [hset]
          exact ht.trans r5
      · exact hE.elim
    · exact hE.elim
  case call d f xs =>
    obtain ⟨s', H', hgs, e, hl, hin, hEe⟩ := hE
    obtain ⟨G1, hr1, ht1⟩ := hgs w0 G0 h0 hb0 a w G hr ht
    have h1 := hl.2 o hso (get s') (getO H') (fun _ _ => rfl) (fun _ _ => rfl) (fun i _ => getO_free (by omega)) ⟨H'.length, getO_free (Nat.le_refl _)⟩
    exact Oper.wp_mono (fun a' w' ⟨G', r1, r2⟩ => ⟨e.ss s', e.hh H', G', hEe, by rw [S_app hin]; exact r1, by rw [getO_hh hin]; exact ht1.trans r2⟩) (h1 a w G1 hr1)
  case g t w d x => exact absurd rfl (hg t w d x)
  all_goals exact gen hE

theorem opE_ok {ops : Array Oper} {o : Oper} {i : Nat} (ho : ops[i]? = some o) {s : Slots} {H : Heap} {E : Slots → Heap → Prop} (hE : OpE P n m0 (compG P n ops o) E s H) {w0 : World} {G0 : Gh} {h0 : Nat → AObj} (hb0 : ∀ id, m0 ≤ id → h0 id = .free) {a : Go.Act} {w : World} {G : Gh} (hr : Rel n (S s H) a w G) (ht : Tr w0 G0 h0 w G (getO H))
    {Q : Exit → Go.Act → World → Prop} {K : Go.Act → World → Prop} (hK : ∀ s' H' a' w' G', E s' H' → Rel n (S s' H') a' w' G' → Tr w0 G0 h0 w' G' (getO H') → K a' w') : wpOp P ops Q i K a w := by
  have up : ∀ {Q' : Exit → Go.Act → World → Prop} {E' : Slots → Heap → Prop}, (∀ s' H', E' s' H' → E s' H') → o.wp P a w (fun a' w' => ∃ s' H' G', E' s' H' ∧ Rel n (S s' H') a' w' G' ∧ Tr w0 G0 h0 w' G' (getO H')) (fun _ _ _ => False) → o.wp P a w K Q' := by
    intro Q' E' hEE h1
    have h2 : o.wp P a w (fun a' w' => ∃ s' H' G', E' s' H' ∧ Rel n (S s' H') a' w' G' ∧ Tr w0 G0 h0 w' G' (getO H')) Q' := by
      unfold Oper.wp at h1 ⊢
      revert h1
      generalize (execOp a.eval o).run P w = r
      intro h1
      cases r with
      | ok n w' =>
        cases n <;> simp only [Oper.upon] at h1 ⊢ <;> first
          | exact h1
          | (refine Calls.mono h1 fun e w'' he => ?_
             cases e with
             | returned v => exact he
             | panicked c => exact he.elim
             | outgrown => obtain ⟨_, _, he⟩ := he; exact he.elim)
      | halt x w' => cases x <;> simp only [Oper.upon] at h1 <;> exact h1.elim
    exact Oper.wp_mono (fun a' w' ⟨s', H', G', h3, h4, h5⟩ => hK s' H' a' w' G' (hEE s' H' h3) h4 h5) h2
  unfold wpOp
  rw [ho]
  simp only
  unfold compG at hE
  split at hE
  · rename_i hg
    have hw : Region.wanted o (yielded ops a.tmps) = true := by simp [Region.wanted, hg]
    rw [if_pos hw]
    split at hE
    · obtain ⟨e, he, _⟩ := hE; cases he
    · rename_i so hng
      exact .inl (up (fun _ _ h => h) (opE0 rfl (fun t w d x h => hng t w d x h) hE hb0 hr ht))
  · rename_i g want hg
    split at hE
    · rename_i t htt
      split at hE
      · rename_i hn
        obtain ⟨w1, w2⟩ := wanted_of hg htt hr hn.1
        rcases hE with ⟨h1, h2⟩ | ⟨h1, h2⟩
        · rw [if_pos (w1 h1)]
          have hng : ∀ t w d x, compOp P n o ≠ .g t w d x := by
            intro t w d x h
            unfold compOp at h
            split at h
            · split at h
              · unfold compD at h
                split at h
                all_goals ((try simp only [o1, oo, eqOp, compB, compB0] at h); (repeat' (split at h)) <;> (cases h; done))
              · cases h
            · (try simp only [o1, compB0, compM] at h)
              (repeat' (split at h)) <;> (cases h; done)
          exact .inl (up (fun _ _ h => h) (opE0 rfl hng h2 hb0 hr ht))
        · rw [if_neg (by rw [w2 h1]; simp)]
          refine hK _ _ _ _ G h2 ?_ ht
          have h3 := hr.putUndef hn.2 H.length
          simp only [Eff.app, Eff.heap_nil] at h3
          have h4 : S (putS o.dst (.tup []) s) H = ⟨Eff.slots ⟨o.dst, .tup [], [], [], []⟩ (S s H).s, (S s H).h⟩ := by
            simp only [S]
            rw [← get_ss]
            rfl
          rw [h4]
          exact h3
      · obtain ⟨e, he, _⟩ := hE; cases he
    · obtain ⟨e, he, _⟩ := hE; cases he

theorem or_ok {ops : Array Oper} {E : Slots → Heap → Prop} {w0 : World} {G0 : Gh} {h0 : Nat → AObj} (hb0 : ∀ id, m0 ≤ id → h0 id = .free) : ∀ (idx : List Nat) {s : Slots} {H : Heap}, OR P n m0 (idx.map (soAt P n ops)) E s H → ∀ {a w G}, Rel n (S s H) a w G → Tr w0 G0 h0 w G (getO H) →
    wpOps P ops (fun ex a' w' => ex = .normal ∧ ∃ s' H' G', E s' H' ∧ Rel n (S s' H') a' w' G' ∧ Tr w0 G0 h0 w' G' (getO H')) idx a w
  | [], s, H, h, a, w, G, hr, ht => ⟨rfl, s, H, G, h, hr, ht⟩
  | i :: idx, s, H, h, a, w, G, hr, ht => by
    rw [wpOps_cons]
    simp only [List.map_cons, OR] at h
    unfold soAt at h
    cases ho : ops[i]? with
    | none =>
      rw [ho] at h
      simp only at h
      obtain ⟨e, he, _⟩ := h
      cases he
    | some o =>
      rw [ho] at h
      simp only at h
      exact opE_ok ho h hb0 hr ht fun s' H' a' w' G' hE r1 r2 => or_ok hb0 idx hE r1 r2

theorem opX_opE {so : SOp} {rt : List Nat} {K : Slots → Heap → Prop} {s : Slots} {H : Heap} (h : OpX P n m0 false so rt (ign K) s H) : OpE P n m0 so K s H := by
  induction so with
  | binN d kd neq x =>
    obtain ⟨h1, h2⟩ := h
    refine ⟨h1, ?_⟩
    unfold BN at h2
    split at h2
    · exact h2
    · exact h2.2
  | cap d x => exact h.2
  | call d f xs =>
    obtain ⟨s', H', _, h2, e, h3, h4, h5⟩ := h
    exact ⟨s', H', h2, e, h3, h4, h5⟩
  | g t want d o ih =>
    rcases h.2 with ⟨h1, h2⟩ | ⟨h1, h2⟩
    · exact .inl ⟨h1, ih h2⟩
    · exact .inr ⟨h1, h2⟩
  | _ => exact h

theorem ox_or : ∀ {l : List SOp} {K : Slots → Heap → Prop} {s : Slots} {H : Heap}, OX P n m0 l K s H → OR P n m0 l K s H
  | [], K, s, H, h => h
  | o :: l, K, s, H, h => by
    have mono : ∀ {so : SOp} {K K' : Slots → Heap → Prop} {s : Slots} {H : Heap}, (∀ s H, K s H → K' s H) → OpE P n m0 so K s H → OpE P n m0 so K' s H := by
      intro so
      induction so with
      | binN d kd neq x =>
        intro K K' s H hk h
        obtain ⟨h1, h2⟩ := h
        refine ⟨h1, ?_⟩
        split at h2
        · exact hk _ _ h2
        · exact fun b => hk _ _ (h2 b)
      | cap d x =>
        intro K K' s H hk h
        exact CP_mono (fun c H' h => hk _ _ h) h
      | call d f xs =>
        intro K K' s H hk h
        obtain ⟨s', H', h2, e, h3, h4, h5⟩ := h
        exact ⟨s', H', h2, e, h3, h4, hk _ _ h5⟩
      | g t want d o ih =>
        intro K K' s H hk h
        rcases h with ⟨h1, h2⟩ | ⟨h1, h2⟩
        · exact .inl ⟨h1, ih hk h2⟩
        · exact .inr ⟨h1, hk _ _ h2⟩
      | _ => intro K K' s H hk h; exact ⟨h.choose, h.choose_spec.1, hk _ _ h.choose_spec.2⟩
    exact mono (fun s H h => ox_or h) (opX_opE h)

/-- One operation of a drawn region. -/
theorem opX_loc {so : SOp} {rt : List Nat} {E : Lg → Slots → Heap → Prop} {s : Slots} {H : Heap} (h : OpX P n m0 true so rt E s H) :
    ∃ e, LocG P n so (S s H) H.length e ∧ e.inH H ∧ E ⟨e.d, rt, e.rd, e.wr.map (·.1), H.length, e.nw.length⟩ (e.ss s) (e.hh H) := by
  have base : ∀ {so : SOp} {s : Slots} {H : Heap}, (∀ t w d x, so ≠ .g t w d x) → OpX P n m0 true so rt E s H → ∃ e, LocOp P n so (S s H) H.length e ∧ e.inH H ∧ E ⟨e.d, rt, e.rd, e.wr.map (·.1), H.length, e.nw.length⟩ (e.ss s) (e.hh H) := by
    intro so s H hg h
    have gen : (∃ e, astep so (S s H) H.length = some e ∧ E ⟨e.d, rt, e.rd, e.wr.map (·.1), H.length, e.nw.length⟩ (e.ss s) (e.hh H)) → ∃ e, LocOp P n so (S s H) H.length e ∧ e.inH H ∧ E ⟨e.d, rt, e.rd, e.wr.map (·.1), H.length, e.nw.length⟩ (e.ss s) (e.hh H) :=
      fun ⟨e, he, hE⟩ => ⟨e, astep_loc he, fun p hp => lt_of_getO (astep_wr (h := getO H) (s := get s) he p hp).2, hE⟩
    cases so
    case g t w d x => exact absurd rfl (hg t w d x)
    case call d f xs =>
      obtain ⟨s', H', h1, _, e, h3, h4, h5⟩ := h
      obtain ⟨rfl, rfl⟩ := h1 rfl
      exact ⟨e, h3, h4, h5⟩
    case binN d kd neq x =>
      obtain ⟨h1, h2⟩ := h
      unfold BN at h2
      split at h2
      · rename_i b rd hb
        refine gen ⟨⟨some d, .bool (if neq then !b else b), rd, [], []⟩, ?_, by simpa [Eff.ss, Eff.hh, putS, setAll] using h2⟩
        simp only [astep]
        rw [if_pos (show kindOf (ev (S s H).s x) = kd from h1), show nilOf (S s H).h (ev (S s H).s x) = some (b, rd) from hb]
      · cases h2.1
    case cap d x => cases h.1
    all_goals exact gen h
  cases so
  case g t w d x =>
    obtain ⟨h0, h⟩ := h
    rcases h with ⟨h1, h2⟩ | ⟨h1, h2⟩
    · by_cases hx : ∃ t w d o, x = .g t w d o
      · obtain ⟨t', w', d', o', rfl⟩ := hx
        cases h0
      · obtain ⟨e, e1, e2, e3⟩ := base (fun t w d o he => hx ⟨t, w, d, o, he⟩) h2
        have h0' : dstS x = d := by
          unfold dstG at h0
          split at h0
          · cases h0
          · injection h0
        exact ⟨e, .inl ⟨h1, e1, e1.1.2.1.trans h0'⟩, e2, e3⟩
    · exact ⟨⟨d, .tup [], [], [], []⟩, .inr ⟨h1, rfl⟩, fun p hp => (by cases hp), by simpa [Eff.ss, Eff.hh, putS, setAll] using h2⟩
  all_goals exact base (fun t w d o he => by cases he) h

theorem dx_dr : ∀ {l : List SOp} {log : List Lg} {K : List Lg → Slots → Heap → Prop} {s : Slots} {H : Heap}, DX P n m0 l log K s H → DR P n l s H log K
  | [], log, K, s, H, h => h
  | o :: l, log, K, s, H, h => by
    obtain ⟨e, h1, h2, h3⟩ := opX_loc h
    exact ⟨e, h1, h2, dx_dr h3⟩

theorem fit_g {so : SOp} {st : St} {f : Nat} {e : Eff} (h : LocG P n so st f e) : e.d = dstS so ∧ (∀ p ∈ e.wr, p.1 ∈ e.rd) ∧ (pureS so = true → e.rd = [] ∧ e.wr = [] ∧ e.nw = []) ∧ (readS so = true → e.wr = [] ∧ e.nw = []) := by
  unfold LocG at h
  split at h
  · rcases h with ⟨_, ⟨⟨_, h1, h2, h3, h4⟩, _⟩, hd⟩ | ⟨_, rfl⟩
    · exact ⟨hd, h2, h3, h4⟩
    · exact ⟨rfl, by simp, fun _ => ⟨rfl, rfl, rfl⟩, fun _ => ⟨rfl, rfl⟩⟩
  · exact h.1.2

theorem indH_pure {a b : SOp} {ea eb : Eff} {fa fb : Nat} (h : needs a b = false) (pa : (pureS a = true → ea.rd = [] ∧ ea.wr = [] ∧ ea.nw = []) ∧ (readS a = true → ea.wr = [] ∧ ea.nw = []))
    (pb : (pureS b = true → eb.rd = [] ∧ eb.wr = [] ∧ eb.nw = []) ∧ (readS b = true → eb.wr = [] ∧ eb.nw = [])) : indH (lgOf a ea fa) (lgOf b eb fb) = true := by
  have h1 : (pureS a = true ∨ pureS b = true) ∨ (readS a = true ∧ readS b = true) := by
    unfold needs at h
    cases h1 : pureS a <;> cases h2 : pureS b <;> cases h3 : readS a <;> cases h4 : readS b <;> simp [h1, h2, h3, h4] at h ⊢
  rcases h1 with (h1 | h1) | ⟨h1, h2⟩
  · obtain ⟨e1, e2, e3⟩ := pa.1 h1
    have : ∀ x, inR fa 0 x = false := fun x => by unfold inR; by_cases h : fa ≤ x <;> simp [h]
    simp [indH, lgOf, e1, e2, e3, this]
  · obtain ⟨e1, e2, e3⟩ := pb.1 h1
    have : ∀ x, inR fb 0 x = false := fun x => by unfold inR; by_cases h : fb ≤ x <;> simp [h]
    simp [indH, lgOf, e1, e2, e3, this]
  · obtain ⟨e1, e2⟩ := pa.2 h1
    obtain ⟨e3, e4⟩ := pb.2 h2
    have : ∀ f x, inR f 0 x = false := fun f x => by unfold inR; by_cases h : f ≤ x <;> simp [h]
    simp [indH, lgOf, e1, e2, e3, e4, this]

theorem dr_ok (hmx : P.follows .mixedOrders = true) {ops : Array Oper} {id : Nat} (ho : onsOk ops = true) (hst : statOk (soL P n ops) (masks (onsOf ops) ops.size) = true) {s : Slots} {H : Heap} {E : List Lg → Slots → Heap → Prop}
    (hl : DR P n (soL P n ops) s H [] E) (hc : ∀ log s' H', E log s' H' → chk log (dynP (soL P n ops) (masks (onsOf ops) ops.size)) = true) {a : Go.Act} {w : World} {G : Gh} (hr : Rel n (S s H) a w G) :
    (Code.region id ops true).wp P (fun ex a' w' => ex = .normal ∧ ∃ log s' H' G', E log s' H' ∧ Rel n (S s' H') a' w' G' ∧ Tr w G (getO H) w' G' (getO H')) a w := by
  obtain ⟨Ef, sa, ha, i1, i2, i3, log', i4, i5, i6⟩ := DR_inv hl
  have hlen : (soL P n ops).length = ops.size := by simp [soL]
  rw [hlen] at i4 i5
  have hget : ∀ i, i < ops.size → (soL P n ops)[i]? = some (soAt P n ops i) := fun i hi => by simp [soL, hi]
  have hgetD : ∀ i, i < ops.size → (soL P n ops).getD i .bad = soAt P n ops i := fun i hi => by rw [List.getD, hget i hi]; rfl
  have hmask : ∀ i, i < ops.size → (masks (onsOf ops) ops.size).getD i 0 = maskOf (masks (onsOf ops) i) (onsOf ops i) := fun i hi => masks_get _ hi
  -- the states in the text's order
  have hstate : ∀ i, i ≤ ops.size → stL Ef (fun i => (ha i).length) (S s H) (fun _ => true) i = S (sa i) (ha i) := by
    intro i
    induction i with
    | zero => intro _; simp only [stL, i1, i2]
    | succ i ih =>
      intro hi
      obtain ⟨j1, j2, j3, j4⟩ := i3 i _ (hget i (by omega))
      simp only [stL, if_true]
      rw [ih (by omega), j3, j4, S_app j2]
  have hmono : ∀ i j, i ≤ j → j ≤ ops.size → (ha i).length ≤ (ha j).length := by
    intro i j hij
    induction j with
    | zero => intro _; have : i = 0 := by omega
              rw [this]; exact Nat.le_refl _
    | succ j ih =>
      intro hj
      by_cases e : i = j + 1
      · rw [e]; exact Nat.le_refl _
      · obtain ⟨j1, j2, j3, j4⟩ := i3 j _ (hget j (by omega))
        have := ih (by omega) (by omega)
        rw [j4, length_hh]
        omega
  have hdrew : Rel n (S s H) a { w with drawn := w.drawn + 1 } G := by
    refine ⟨fun t => ?_, hr.defers, hr.size, hr.heap.drew⟩
    exact (hr.slots t).mono (fun _ h => h) (fun _ _ => rfl) (Ext.refl _ _)
  refine wp_region_any hmx ?_
  refine any_ok (n := n) (m := ops.size) rfl (so := soAt P n ops) (E := Ef) (f := fun i => (ha i).length) (st0 := S s H) (N := (ha ops.size).length) (w0 := w) (G0 := G) (fun i o ho => by simp [soAt, ho]) (fun i hi => ?_) (fun i hi r hrr => ?_)
    (fun i hi p hp => ?_) (fun i hi j hj => ?_) (fun i hi j hj hm => ?_) ?_ (fun i hi => ?_) (fun a' w' G' r1 r2 => ?_) _ _ a _ G (by simp) (fun i hi j hj => ?_) ?_ ?_ ?_
  · rw [hstate i (by omega)]
    exact (i3 i _ (hget i hi)).1
  · rw [hstate i (by omega)]
    exact getO_free (by omega)
  · exact (fit_g (i3 i _ (hget i hi)).1).2.1 p hp
  · unfold onsOk at ho
    rw [List.all_eq_true] at ho
    have := ho i (by simpa using hi)
    rw [List.all_eq_true] at this
    simpa using this j hj
  · have ei := fit_g (i3 i _ (hget i hi)).1
    have ej := fit_g (i3 j _ (hget j (by omega))).1
    have hs : indS (dstS (soAt P n ops j)) (rdT (soAt P n ops j)) (dstS (soAt P n ops i)) (rdT (soAt P n ops i)) = true := by
      unfold statOk at hst
      rw [List.all_eq_true] at hst
      have h1 := hst i (by rw [hlen]; simpa using hi)
      rw [List.all_eq_true] at h1
      have h2 := h1 j (by simpa using hj)
      rw [hmask i hi, hm, hgetD i hi, hgetD j (by omega)] at h2
      simpa using h2
    refine ⟨by rw [ei.1, ej.1]; exact hs, ?_⟩
    cases hnd : needs (soAt P n ops j) (soAt P n ops i) with
    | false => exact indH_pure hnd ej.2.2 ei.2.2
    | true =>
      have h1 := hc _ _ _ i4
      unfold chk at h1
      rw [List.all_eq_true] at h1
      have h2 := h1 (j, i) (by
        unfold dynP
        rw [List.mem_flatMap]
        refine ⟨i, by rw [hlen]; simpa using hi, ?_⟩
        rw [List.mem_map]
        refine ⟨j, ?_, rfl⟩
        rw [List.mem_filter]
        refine ⟨by simpa using hj, ?_⟩
        rw [hmask i hi, hm, hgetD i hi, hgetD j (by omega), hnd]
        rfl)
      simp only [List.nil_append] at h2
      have gi := i6 i _ (hget i hi)
      have gj := i6 j _ (hget j (by omega))
      simp only [List.getD, gi, gj, Option.getD_some] at h2
      exact h2
  · exact getO_free (by have := hmono 0 ops.size (by omega) (Nat.le_refl _); rw [i2] at this; exact this)
  · rintro (h | ⟨p, hp, e⟩)
    · have h1 := hmono (i + 1) ops.size (by omega) (Nat.le_refl _)
      rw [(i3 i _ (hget i hi)).2.2.2, length_hh] at h1
      omega
    · have h1 := (i3 i _ (hget i hi)).2.1 p hp
      have h2 := hmono i ops.size (by omega) (Nat.le_refl _)
      omega
  · rw [hstate _ (Nat.le_refl _)] at r1 r2
    exact ⟨rfl, _, _, _, G', i4, r1, r2⟩
  · exfalso
    have : (Array.replicate ops.size false).getD i false = false := by
      by_cases h : i < ops.size <;> simp [h]
    rw [this] at hi
    cases hi
  · have h0 : ((List.range ops.size).filter fun i => !(Array.replicate ops.size false).getD i false) = List.range ops.size := by
      rw [List.filter_eq_self]
      intro i hi
      have : i < ops.size := by simpa using hi
      simp [this]
    rw [h0, List.length_range]
  · have : ∀ k, stL Ef (fun i => (ha i).length) (S s H) (fun i => (Array.replicate ops.size false).getD i false) k = S s H := fun k => by
      induction k with
      | zero => rfl
      | succ k ih =>
        simp only [stL]
        have : (Array.replicate ops.size false).getD k false = false := by
          by_cases h : k < ops.size <;> simp [h]
        rw [this]
        simpa using ih
    rw [this]
    exact hdrew
  · have : ∀ k, stL Ef (fun i => (ha i).length) (S s H) (fun i => (Array.replicate ops.size false).getD i false) k = S s H := fun k => by
      induction k with
      | zero => rfl
      | succ k ih =>
        simp only [stL]
        have : (Array.replicate ops.size false).getD k false = false := by
          by_cases h : k < ops.size <;> simp [h]
        rw [this]
        simpa using ih
    rw [this]
    exact Tr.drew
end
end Go.Av
