/- The seat: part A3. -/
import Derived.Test.YtmhchaedhmnofaaGreatA2
/- The abstract machine, part 13: Go's operations as abstract ones. -/
set_option linter.unusedVariables false
set_option linter.unusedSimpArgs false
namespace Go.Av

def o1 (x : Operand) (g : SO → SOp) : SOp :=
  match co x with
  | some y => g y
  | none => .bad

def oo (x : Option Operand) (g : Option SO → SOp) : SOp :=
  match x with
  | none => g none
  | some x => match co x with
    | some y => g (some y)
    | none => .bad

def partsOf (place : Nat → Option (Nat × Nat)) : List (Nat × Operand) → Option (List (Nat × Nat × SO))
  | [] => some []
  | (i, x) :: r => match place i, co x, partsOf place r with
    | some (off, size), some x', some r' => some ((off, size, x') :: r')
    | _, _, _ => none

def rowParts : List (Nat × Operand) → Option (List (Nat × SO))
  | [] => some []
  | (i, x) :: r => match co x, rowParts r with
    | some x', some r' => some ((i, x') :: r')
    | _, _ => none

def eqOp (op : BinOp) (g : Bool → SOp) : SOp :=
  match op with
  | .eql => g false
  | .neq => g true
  | _ => .bad

/-- The type of a row's elements, with their zero. -/
def elemOf (P : Program) (t : TypeId) : Option (TypeId × TypeInfo × List AVal) :=
  match P.underlying t with
  | some (.slice e) => match P.info? e with
    | some inf => match inf.zero with
      | some z => match lits z.cells.toList with
        | some zs => if zs.length = inf.size ∧ 0 < inf.size ∧ 0 < inf.bytes then some (e, inf, zs) else none
        | none => none
      | none => none
    | none => none
  | _ => none

def compB (P : Program) (d : Nat) (b : Builtin) (args : List Operand) (ts : List TypeId) : SOp :=
  match b, args, ts with
  | .len, [x], [t] => match P.underlying t with
    | some (.slice _) => o1 x fun x => .len d false x
    | some .string => o1 x fun x => .len d true x
    | _ => .bad
  | .min, [x, y], _ => o1 x fun x => o1 y fun y => .mn d x y
  | .max, [x, y], _ => o1 x fun x => o1 y fun y => .mx d x y
  | .append, [x, y], [t, t'] => if t = t' then match elemOf P t with
      | some (e, inf, _) => o1 x fun x => o1 y fun y => .app d e inf.size inf.bytes x y
      | none => .bad
    else match P.underlying t', elemOf P t with
      | some (.int _), some (e, inf, zs) => o1 x fun x => o1 y fun y => .apz d e inf.size inf.bytes zs x y
      | _, _ => .bad
  | .cap, [x], [t] => match P.underlying t with
    | some (.slice _) => o1 x fun x => .cap d x
    | _ => .bad
  | _, _, _ => .bad

def compB0 (P : Program) (d : Option Nat) (b : Builtin) (args : List Operand) (ts : List TypeId) : SOp :=
  match b, args, ts with
  | .copy, [x, y], [t, _] => match elemOf P t with
    | some (_, inf, _) => o1 x fun x => o1 y fun y => .cpy d inf.size x y
    | none => .bad
  | .clear, [x], [t] => match elemOf P t with
    | some (_, _, zs) => o1 x fun x => .clr d zs x
    | none => .bad
  | _, _, _ => .bad

def compD (P : Program) (d : Nat) (o : Op) : SOp :=
  match o with
  | .move x => o1 x fun x => .mv d x
  | .assign x => o1 x fun x => .mv d x
  | .pick c x y => o1 c fun c => o1 x fun x => o1 y fun y => .pick d c x y
  | .alloc t => match P.info? t with
    | some inf => match inf.zero with
      | some z => match lits z.cells.toList with
        | some zs => .alc d t zs
        | none => .bad
      | none => .bad
    | none => .bad
  | .box t x => o1 x fun x => .box d t x
  | .build t ps => match P.info? t with
    | some inf => match inf.zero with
      | some z => match lits z.cells.toList with
        | some zs => match placesOf P t with
          | some place => match partsOf place ps.toList with
            | some qs => .bld d zs qs
            | none => .bad
          | none => .bad
        | none => .bad
      | none => .bad
    | none => .bad
  | .buildSlice t len ps => match elemOf P t with
    | some (e, inf, zs) => if len * inf.size ≤ 16777216 then match rowParts ps.toList with
        | some qs => .bsl d e inf.size zs len qs
        | none => .bad
      else .bad
    | none => .bad
  | .load t a => match P.underlying t, P.info? t with
    | some _, some inf => o1 a fun a => .ld d a (isAg P t) inf.size
    | _, _ => .bad
  | .nilCheck x => o1 x fun x => .nck d x
  | .binOp op t x y _ => match P.underlying t with
    | some (.int _) => o1 x fun x => o1 y fun y => .bin d op x y
    | some .bool => eqOp op fun neq => o1 x fun x => o1 y fun y => .binB d neq x y
    | some .string => o1 x fun x => o1 y fun y => .binS d op x y
    | some (.struct _) => match kindsOf P t with
      | some ks => eqOp op fun neq => o1 x fun x => o1 y fun y => .binA d neq ks x y
      | none => .bad
    | _ => if nilKind P t y = true then eqOp op fun neq => o1 x fun x => .binN d (kindT P t) neq x else .bad
  | .unOp .not _ x => o1 x fun x => .not d x
  | .unOp .neg _ x => o1 x fun x => .neg d x
  | .convert s t x => match P.underlying t with
    | some (.int k) => match P.underlying s with
      | some _ => o1 x fun x => .conv d k x
      | none => .bad
    | some .string => match P.underlying s with
      | some (.slice e) => match P.underlying e with
        | some (.int .u8) => o1 x fun x => .strof d x
        | _ => .bad
      | _ => .bad
    | _ => .bad
  | .makeFunc (.func g) as bs => match cos as.toList, cos bs.toList with
    | some as', some bs' => .mkf d g as' bs'
    | _, _ => .bad
  | .slice t x lo hi none => match P.underlying t with
    | some .string => o1 x fun x => oo lo fun lo => oo hi fun hi => .slS d x lo hi
    | some (.slice e) => match P.info? e with
      | some inf => if 0 < inf.size then o1 x fun x => oo lo fun lo => oo hi fun hi => .slc d inf.size x lo hi none else .bad
      | none => .bad
    | _ => .bad
  | .fieldAddr s x fi => match P.underlying s with
    | some (.struct fs) => match fs[fi]? with
      | some fd => match P.info? fd.type with
        | some i => if i.size ≠ 0 then o1 x fun x => .fa d x fd.offset else .bad
        | none => .bad
      | none => .bad
    | _ => .bad
  | .indexAddr t x i => match P.underlying t with
    | some (.slice e) => match P.info? e with
      | some inf => o1 x fun x => o1 i fun i => .ia d x i inf.size
      | none => .bad
    | some (.array len e) => match P.info? e with
      | some inf => o1 x fun x => o1 i fun i => .iaA d x i inf.size len
      | none => .bad
    | _ => .bad
  | .index t x i => match P.underlying t with
    | some .string => o1 x fun x => o1 i fun i => .ixS d x i
    | _ => .bad
  | .extract x i => o1 x fun x => .ext d x i
  | .field t x fi => match P.underlying t with
    | some (.struct fs) => match fs[fi]? with
      | some fd => match P.underlying fd.type, P.info? fd.type with
        | some _, some inf => o1 x fun x => .fld d x fd.offset (isAg P fd.type) inf.size
        | _, _ => .bad
      | none => .bad
    | _ => .bad
  | .makeMap _ none => .mkm d
  | .lookup t m k ok => match P.underlying t with
    | some (.map kt et) => match P.underlying kt, zeroVal P et with
      | some (.int .i64), some z => o1 m fun m => o1 k fun k => .mgt d m k z ok
      | _, _ => .bad
    | _ => .bad
  | .makeSlice t x y => match elemOf P t with
    | some (e, inf, zs) => o1 x fun x => o1 y fun y => .mks d e inf.size inf.bytes zs x y
    | none => .bad
  | .slice t x lo (some hi) (some mx) => match P.underlying t with
    | some (.slice e) => match P.info? e with
      | some inf => o1 x fun x => oo lo fun lo => o1 hi fun hi => o1 mx fun mx => .slc d inf.size x lo (some hi) (some mx)
      | none => .bad
    | _ => .bad
  | .call c => match c.callee with
    | .builtin .copy => compB0 P (some d) .copy c.args.toList c.argTypes.toList
    | .builtin .clear => compB0 P (some d) .clear c.args.toList c.argTypes.toList
    | .builtin b => compB P d b c.args.toList c.argTypes.toList
    | .value g => o1 g fun g => match cos c.args.toList with
      | some xs => .call (some d) g xs
      | none => .bad
    | _ => .bad
  | _ => .bad

def compM (P : Program) (t : TypeId) (m k x : Operand) : SOp :=
  match P.underlying t with
  | some (.map kt _) => match P.underlying kt with
    | some (.int .i64) => o1 m fun m => o1 k fun k => o1 x fun x => .mst m k x
    | _ => .bad
  | _ => .bad

def compOp (P : Program) (n : Nat) (o : Oper) : SOp :=
  match o.dst with
  | some d => if d < n then compD P d o.op else .bad
  | none => match o.op with
    | .store t x y => match P.info? t with
      | some inf => o1 x fun x => o1 y fun y => .st x y inf.size
      | none => .bad
    | .mapUpdate t m k x => compM P t m k x
    | .insert t m k x => compM P t m k x
    | .call c => match c.callee with
      | .value g => o1 g fun g => match cos c.args.toList with
        | some xs => .call none g xs
        | none => .bad
      | .builtin b => compB0 P none b c.args.toList c.argTypes.toList
      | _ => .bad
    | _ => .bad

theorem o1_inv {x : Operand} {g : SO → SOp} {st : St} {f : Nat} {e : Eff} (h : astep (o1 x g) st f = some e) : ∃ y, co x = some y ∧ astep (g y) st f = some e := by
  unfold o1 at h
  split at h
  · rename_i y hy; exact ⟨y, hy, h⟩
  · cases h

theorem oo_inv {x : Option Operand} {g : Option SO → SOp} {st : St} {f : Nat} {e : Eff} (h : astep (oo x g) st f = some e) : ∃ y, OptCo x y ∧ astep (g y) st f = some e := by
  unfold oo at h
  split at h
  · exact ⟨none, trivial, h⟩
  · split at h
    · rename_i y hy; exact ⟨some y, hy, h⟩
    · cases h

theorem eqOp_inv {op : BinOp} {g : Bool → SOp} {st : St} {f : Nat} {e : Eff} (h : astep (eqOp op g) st f = some e) : ∃ neq : Bool, (op = if neq then .neq else .eql) ∧ astep (g neq) st f = some e := by
  unfold eqOp at h
  split at h
  · exact ⟨false, rfl, h⟩
  · exact ⟨true, rfl, h⟩
  · cases h

theorem val1_inv {d : Nat} {x : Option AVal} {e : Eff} (h : val1 d x = some e) : ∃ c, x = some c ∧ e = ⟨some d, c, [], [], []⟩ := by
  unfold val1 at h
  split at h
  · injection h with h; exact ⟨_, rfl, h.symm⟩
  · cases h

theorem partsOf_ok {place : Nat → Option (Nat × Nat)} {a : Go.Act} {st : St} : ∀ {ps : List (Nat × Operand)} {qs : List (Nat × Nat × SO)}, partsOf place ps = some qs → Parts place a st ps qs
  | [], qs, h => by simp [partsOf] at h; subst h; exact .nil
  | (i, x) :: r, qs, h => by
    unfold partsOf at h
    split at h
    · rename_i off size x' r' h1 h2 h3
      injection h with h; subst h
      exact .cons h1 h2 (partsOf_ok h3)
    · cases h

theorem rowParts_ok : ∀ {ps : List (Nat × Operand)} {qs : List (Nat × SO)}, rowParts ps = some qs → ps.length = qs.length ∧ ∀ (j : Nat) p q, ps[j]? = some p → qs[j]? = some q → p.1 = q.1 ∧ co p.2 = some q.2
  | [], qs, h => by simp [rowParts] at h; subst h; simp
  | (i, x) :: r, qs, h => by
    unfold rowParts at h
    split at h
    · rename_i x' r' h1 h2
      injection h with h; subst h
      obtain ⟨i1, i2⟩ := rowParts_ok h2
      refine ⟨by simp [i1], fun j p q hp hq => ?_⟩
      cases j with
      | zero => simp at hp hq; subst hp hq; exact ⟨rfl, h1⟩
      | succ j => exact i2 j p q (by simpa using hp) (by simpa using hq)
    · cases h

theorem elemOf_ok {P : Program} {t e : TypeId} {inf : TypeInfo} {zs : List AVal} (h : elemOf P t = some (e, inf, zs)) :
    P.underlying t = some (.slice e) ∧ P.info? e = some inf ∧ (∃ z, inf.zero = some z ∧ lits z.cells.toList = some zs) ∧ zs.length = inf.size ∧ 0 < inf.size ∧ 0 < inf.bytes := by
  unfold elemOf at h
  split at h
  · rename_i e0 h1
    split at h
    · rename_i inf0 h2
      split at h
      · rename_i z h3
        split at h
        · rename_i zs0 h4
          split at h
          · rename_i h5
            injection h with h; injection h with e1 h; injection h with e2 e3
            subst e1 e2 e3
            exact ⟨h1, h2, ⟨z, h3, h4⟩, h5⟩
          · cases h
        · cases h
      · cases h
    · cases h
  · cases h

theorem lenX_ok {str : Bool} {v : AVal} {m : Nat} (h : lenX str v = some m) : lenOf v = some m ∧ ((str = true) = ∃ s, v = .str s) := by
  unfold lenX at h
  split at h <;> (try (cases h; done)) <;> cases str <;> simp_all [lenOf]

section
variable {P : Program} {n : Nat} {o : Oper} {st : St} {f d : Nat} {e : Eff}

theorem obj_inv {h : Nat → AObj} {id q k : Nat} {t : TypeId} {fu : Bool} {es : List (List AVal)} (e : obj h id q = some (k, t, fu, es)) : h id = .cells q k t fu es := by
  unfold obj at e
  split at e
  · rename_i hh
    split at e
    · rename_i h1; subst h1; injection e with e; injection e with e1 e; injection e with e2 e; injection e with e3 e4; subst e1 e2 e3 e4; exact hh
    · cases e
  · cases e

theorem compB_ok {b : Builtin} {args : List Operand} {ts : List TypeId} (hfree : st.h f = .free) (hd : o.dst = some d) (hn : d < n)
    (ho : o.op = .call { callee := .builtin b, args := args.toArray, argTypes := ts.toArray }) (h : astep (compB P d b args ts) st f = some e) : OpOk P n o st f e := by
  unfold compB at h
  split at h
  · split at h
    · rename_i x t ee ht
      obtain ⟨x', hx, h⟩ := o1_inv h
      simp only [astep] at h
      split at h
      · rename_i m hm
        injection h with h; subst h
        obtain ⟨l1, l2⟩ := lenX_ok hm
        refine ok_len hd hn ho (.inl ⟨_, ht⟩) hx l1 ?_
        rw [← l2, ht]
        simp
      · cases h
    · rename_i x t ht
      obtain ⟨x', hx, h⟩ := o1_inv h
      simp only [astep] at h
      split at h
      · rename_i m hm
        injection h with h; subst h
        obtain ⟨l1, l2⟩ := lenX_ok hm
        refine ok_len hd hn ho (.inr ht) hx l1 ?_
        rw [← l2, ht]
        simp
      · cases h
    · cases h
  · obtain ⟨x', hx, h⟩ := o1_inv h
    obtain ⟨y', hy, h⟩ := o1_inv h
    obtain ⟨c, hc, rfl⟩ := val1_inv h
    exact ok_mn hd hn ho hx hy hc
  · obtain ⟨x', hx, h⟩ := o1_inv h
    obtain ⟨y', hy, h⟩ := o1_inv h
    obtain ⟨c, hc, rfl⟩ := val1_inv h
    exact ok_mx hd hn ho hx hy hc
  · split at h
    · rename_i ht
      subst ht
      split at h
      · rename_i e' inf zs hel
        obtain ⟨x', hx, h⟩ := o1_inv h
        obtain ⟨y', hy, h⟩ := o1_inv h
        obtain ⟨e1, e2, ⟨z, e3, e4⟩, e5, e6, e7⟩ := elemOf_ok hel
        simp only [astep] at h
        split at h
        · rename_i ys rd hc
          exact ok_app hd hn hfree ho e1 e2 e3 e4 e5 e6 e7 hx hy hc h
        · cases h
      · cases h
    · split at h
      · rename_i kn e' inf zs hu hel
        obtain ⟨x', hx, h⟩ := o1_inv h
        obtain ⟨y', hy, h⟩ := o1_inv h
        obtain ⟨e1, e2, ⟨z, e3, e4⟩, e5, e6, e7⟩ := elemOf_ok hel
        simp only [astep] at h
        split at h
        · rename_i k m hm
          split at h
          · rename_i hc
            have hbig := appOf_big h
            rw [List.length_replicate] at hbig
            refine ok_apz hd hn hfree ho e1 hu e2 e3 e4 e5 e6 e7 hx hy hm hc.1 ?_ h
            obtain ⟨m', rfl⟩ : ∃ m' : Nat, m = m' := ⟨m.toNat, by omega⟩
            rw [Int.toNat_natCast] at hbig
            rw [← Int.natCast_mul]
            omega
          · cases h
        · cases h
      · cases h
  · split at h
    · obtain ⟨x', hx, h⟩ := o1_inv h
      simp [astep] at h
    · cases h
  · cases h

theorem compB0_ok {b : Builtin} {args : List Operand} {ts : List TypeId} (hdn : ∀ d, o.dst = some d → d < n)
    (ho : o.op = .call { callee := .builtin b, args := args.toArray, argTypes := ts.toArray }) (h : astep (compB0 P o.dst b args ts) st f = some e) : OpOk P n o st f e := by
  unfold compB0 at h
  split at h
  · split at h
    · rename_i hel
      obtain ⟨x', hx, h⟩ := o1_inv h
      obtain ⟨y', hy, h⟩ := o1_inv h
      obtain ⟨e1, e2, _, e5, e6, e7⟩ := elemOf_ok hel
      exact ok_cpy hdn ho e1 e2 e6 hx hy h
    · cases h
  · split at h
    · rename_i hel
      obtain ⟨x', hx, h⟩ := o1_inv h
      obtain ⟨e1, e2, ⟨z, e3, e4⟩, e5, e6, e7⟩ := elemOf_ok hel
      exact ok_clr hdn ho e1 e2 e3 e4 hx h
    · cases h
  · cases h

theorem compD_ok (hfree : st.h f = .free) (hd : o.dst = some d) (hn : d < n) (h : astep (compD P d o.op) st f = some e) : OpOk P n o st f e := by
  unfold compD at h
  split at h
  case h_1 x ho =>
    obtain ⟨x', hx, h⟩ := o1_inv h
    simp only [astep] at h; injection h with h; subst h
    exact ok_mv hd hn (.inl ho) hx
  case h_2 x ho =>
    obtain ⟨x', hx, h⟩ := o1_inv h
    simp only [astep] at h; injection h with h; subst h
    exact ok_mv hd hn (.inr ho) hx
  case h_3 c x y ho =>
    obtain ⟨c', hc, h⟩ := o1_inv h
    obtain ⟨x', hx, h⟩ := o1_inv h
    obtain ⟨y', hy, h⟩ := o1_inv h
    simp only [astep] at h
    split at h
    · rename_i b hb
      injection h with h; subst h
      exact ok_pick hd hn ho hc hx hy hb
    · cases h
  case h_4 t ho =>
    split at h
    · rename_i inf hi
      split at h
      · rename_i z hz
        split at h
        · rename_i zs hzs
          simp only [astep] at h
          split at h
          · rename_i h0
            injection h with h; subst h
            exact ok_alc hd hn hfree ho hi hz hzs h0
          · cases h
        · cases h
      · cases h
    · cases h
  case h_5 t x ho =>
    obtain ⟨x', hx, h⟩ := o1_inv h
    simp only [astep] at h
    split at h
    · rename_i h0
      injection h with h; subst h
      exact ok_box hd hn hfree ho hx h0.1 h0.2
    · cases h
  case h_6 t ps ho =>
    split at h
    · rename_i inf hi
      split at h
      · rename_i z hz
        split at h
        · rename_i zs hzs
          split at h
          · rename_i place hpl
            split at h
            · rename_i qs hq
              simp only [astep] at h
              split at h
              · rename_i cs hf
                injection h with h; subst h
                exact ok_bld hd hn ho hi hz hzs hpl (fun a => partsOf_ok hq) hf
              · cases h
            · cases h
          · cases h
        · cases h
      · cases h
    · cases h
  case h_7 t len ps ho =>
    split at h
    · rename_i e' inf zs hel
      obtain ⟨e1, e2, ⟨z, e3, e4⟩, e5, e6, e7⟩ := elemOf_ok hel
      split at h
      · rename_i hsm
        split at h
        · rename_i qs hq
          simp only [astep] at h
          rw [if_pos e6] at h
          split at h
          · rename_i es hes
            injection h with h; subst h
            obtain ⟨r1, r2⟩ := rowParts_ok hq
            exact ok_bsl hd hn hfree ho e1 e2 e3 e4 e5 e6 (by omega) (by simpa using r1) (fun j p q hp hq => r2 j p q (by simpa using hp) hq) hes
          · cases h
        · cases h
      · cases h
    · cases h
  case h_8 t x ho =>
    split at h
    · rename_i ds inf hu hi
      obtain ⟨x', hx, h⟩ := o1_inv h
      simp only [astep] at h
      split at h
      · rename_i id q i p hp
        split at h
        · rename_i k t' fu es hob
          split at h
          · rename_i el hel
            split at h
            · rename_i v hv
              injection h with h; subst h
              exact ok_ld hd hn ho hu hi hx (.inl ⟨id, q, i, p, k, t', fu, es, el, hp, obj_inv hob, hel, hv⟩)
            · cases h
          · cases h
        · cases h
      · rename_i cs p hp
        obtain ⟨c, hc, rfl⟩ := val1_inv h
        exact ok_ld hd hn ho hu hi hx (.inr ⟨cs, p, hp, hc⟩)
      · cases h
    · cases h
  case h_9 x ho =>
    obtain ⟨x', hx, h⟩ := o1_inv h
    simp only [astep] at h
    split at h
    · rename_i hp
      injection h with h; subst h
      exact ok_nck hd hn ho hx hp (.inl ⟨_, _, _, _, rfl⟩)
    · rename_i hp
      injection h with h; subst h
      exact ok_nck hd hn ho hx hp (.inr (.inl ⟨_, _, rfl⟩))
    · rename_i hp
      injection h with h; subst h
      exact ok_nck hd hn ho hx hp (.inr (.inr ⟨_, _, _, rfl⟩))
    · cases h
  case h_10 op t x y t' ho =>
    split at h
    · obtain ⟨x', hx, h⟩ := o1_inv h
      obtain ⟨y', hy, h⟩ := o1_inv h
      obtain ⟨c, hc, rfl⟩ := val1_inv h
      exact ok_bin hd hn ho hx hy hc
    · rename_i hu
      obtain ⟨neq, hop, h⟩ := eqOp_inv h
      obtain ⟨x', hx, h⟩ := o1_inv h
      obtain ⟨y', hy, h⟩ := o1_inv h
      obtain ⟨c, hc, rfl⟩ := val1_inv h
      exact ok_binB hd hn ho hop hu hx hy hc
    · rename_i hu
      obtain ⟨x', hx, h⟩ := o1_inv h
      obtain ⟨y', hy, h⟩ := o1_inv h
      obtain ⟨c, hc, rfl⟩ := val1_inv h
      first | exact ok_binS hd hn ho hx hy hc | exact ok_binS hd hn ho hu hx hy hc
    · split at h
      · rename_i ks hks
        obtain ⟨neq, hop, h⟩ := eqOp_inv h
        obtain ⟨x', hx, h⟩ := o1_inv h
        obtain ⟨y', hy, h⟩ := o1_inv h
        obtain ⟨c, hc, rfl⟩ := val1_inv h
        exact ok_binA hd hn ho hop hks hx hy hc
      · cases h
    · split at h
      · rename_i hz
        obtain ⟨neq, hop, h⟩ := eqOp_inv h
        obtain ⟨x', hx, h⟩ := o1_inv h
        simp only [astep] at h
        split at h
        · rename_i hk
          split at h
          · rename_i b rd hb
            injection h with h; subst h
            have hb' : isNil (ev st.s x') = some b ∧ ∀ id q off len, ev st.s x' = .row id q off len → ∃ k t fu es, st.h id = .cells q k t fu es := by
              unfold nilOf at hb
              split at hb
              · rename_i id q off len hv
                split at hb
                · rename_i y hy
                  split at hb
                  · cases hb
                  · rename_i hl
                    injection hb with hb; injection hb with hb _
                    refine ⟨by rw [hv]; simp [isNil, hl, hb], fun id' q' off' len' e' => ?_⟩
                    rw [hv] at e'; cases e'
                    obtain ⟨k, t, fu, es⟩ := y
                    exact ⟨k, t, fu, es, obj_inv hy⟩
                · cases hb
              · rename_i hv
                split at hb
                · rename_i b' hb'
                  injection hb with hb; injection hb with hb _
                  subst hb
                  exact ⟨hb', fun id q off len e => absurd e (hv id q off len)⟩
                · cases hb
            intro a w G hr
            obtain ⟨v, w', G', r1, r2, r3⟩ := ok_binN (f := f) hd hn ho hop hz hx hk hb'.1 hb'.2 a w G hr
            refine ⟨v, w', G', r1, ?_, ?_⟩
            · simp only [Eff.app, Eff.slots, Eff.heap_nil] at r2 ⊢; exact r2
            · simp only [Eff.heap_nil] at r3 ⊢; exact r3
          · cases h
        · cases h
      · cases h
  case h_11 x ho =>
    obtain ⟨x', hx, h⟩ := o1_inv h
    simp only [astep] at h
    split at h
    · rename_i b hb
      injection h with h; subst h
      exact ok_not hd hn ho hx hb
    · cases h
  case h_12 x ho =>
    obtain ⟨x', hx, h⟩ := o1_inv h
    simp only [astep] at h
    split at h
    · rename_i hb
      injection h with h; subst h
      exact ok_neg hd hn ho hx hb
    · cases h
  case h_13 s t x ho =>
    split at h
    · rename_i k ht
      split at h
      · rename_i ds hs
        obtain ⟨x', hx, h⟩ := o1_inv h
        simp only [astep] at h
        split at h
        · rename_i hb
          injection h with h; subst h
          exact ok_conv hd hn ho hs ht hx hb
        · cases h
      · cases h
    · rename_i ht
      split at h
      · rename_i ee hs
        split at h
        · rename_i he
          obtain ⟨x', hx, h⟩ := o1_inv h
          simp only [astep] at h
          split at h
          · rename_i es rd hc
            split at h
            · rename_i bs hbs
              injection h with h; subst h
              exact ok_strof hd hn ho hs he ht hx hc hbs
            · cases h
          · cases h
        · cases h
      · cases h
    · cases h
  case h_14 g as bs ho =>
    split at h
    · rename_i as' bs' ha hb
      simp only [astep] at h; injection h with h; subst h
      exact ok_mkf hd hn ho ha hb
    · cases h
  case h_15 t x lo hi ho =>
    split at h
    · rename_i ht
      obtain ⟨x', hx, h⟩ := o1_inv h
      obtain ⟨lo', hlo, h⟩ := oo_inv h
      obtain ⟨hi', hhi, h⟩ := oo_inv h
      simp only [astep] at h
      split at h
      · rename_i s hs
        split at h
        · rename_i l u hl hu
          split at h
          · rename_i hc
            injection h with h; subst h
            exact ok_slS hd hn ho ht hx hlo hhi hs hl hu hc.1 hc.2.1 hc.2.2
          · cases h
        · cases h
      · cases h
    · rename_i ee ht
      split at h
      · rename_i inf hinf
        split at h
        · rename_i hk
          obtain ⟨x', hx, h⟩ := o1_inv h
          obtain ⟨lo', hlo, h⟩ := oo_inv h
          obtain ⟨hi', hhi, h⟩ := oo_inv h
          simp only [astep] at h
          split at h
          · rename_i m hm
            split at h
            · rename_i v rd hv
              injection h with h; subst h
              exact ok_slc hd hn ho ht hinf hk hx hlo hhi hm hv
            · cases h
          · cases h
        · cases h
      · cases h
    · cases h
  case h_16 s x fi ho =>
    split at h
    · rename_i fs hs
      split at h
      · rename_i fd hfd
        split at h
        · rename_i i hi
          split at h
          · rename_i hz
            obtain ⟨x', hx, h⟩ := o1_inv h
            simp only [astep] at h
            split at h
            · rename_i hp
              injection h with h; subst h
              exact ok_fa hd hn ho hs hfd ⟨i, hi, hz⟩ hx (.inl ⟨_, _, _, _, hp, rfl⟩)
            · rename_i hp
              injection h with h; subst h
              exact ok_fa hd hn ho hs hfd ⟨i, hi, hz⟩ hx (.inr ⟨_, _, hp, rfl⟩)
            · cases h
          · cases h
        · cases h
      · cases h
    · cases h
  case h_17 t x i ho =>
    split at h
    · rename_i ee ht
      split at h
      · rename_i inf hinf
        obtain ⟨x', hx, h⟩ := o1_inv h
        obtain ⟨i', hy, h⟩ := o1_inv h
        simp only [astep] at h
        split at h
        · rename_i k' xs ki m h1 h2
          split at h
          · rename_i hc
            obtain ⟨hk, h0⟩ := hc
            subst hk
            split at h
            · rename_i el hel
              injection h with h; subst h
              exact ok_ia hd hn ho ht hinf hx hy (.inl ⟨xs, ki, m, el, h1, h2, h0, hel, rfl⟩)
            · cases h
          · cases h
        · rename_i id q off len ki m h1 h2
          split at h
          · rename_i k' t' fu es hob
            split at h
            · rename_i hc
              obtain ⟨hk, h0, hl⟩ := hc
              subst hk
              injection h with h; subst h
              exact ok_ia hd hn ho ht hinf hx hy (.inr ⟨id, q, off, len, ki, m, t', fu, es, h1, h2, h0, hl, obj_inv hob, rfl⟩)
            · cases h
          · cases h
        · cases h
      · cases h
    · rename_i len ee ht
      split at h
      · rename_i inf hinf
        obtain ⟨x', hx, h⟩ := o1_inv h
        obtain ⟨i', hy, h⟩ := o1_inv h
        simp only [astep] at h
        split at h
        · rename_i id q i p ki m h1 h2
          split at h
          · rename_i hc
            injection h with h; subst h
            exact ok_iaA hd hn ho ht hinf hx hy h2 hc.1 hc.2 (.inl ⟨_, _, _, _, h1, rfl⟩)
          · cases h
        · rename_i cs p ki m h1 h2
          split at h
          · rename_i hc
            injection h with h; subst h
            exact ok_iaA hd hn ho ht hinf hx hy h2 hc.1 hc.2 (.inr ⟨_, _, h1, rfl⟩)
          · cases h
        · cases h
      · cases h
    · cases h
  case h_18 t x i ho =>
    split at h
    · rename_i ht
      obtain ⟨x', hx, h⟩ := o1_inv h
      obtain ⟨i', hy, h⟩ := o1_inv h
      simp only [astep] at h
      split at h
      · rename_i s ki m h1 h2
        split at h
        · rename_i h0
          split at h
          · rename_i b hb
            injection h with h; subst h
            exact ok_ixS hd hn ho ht hx hy h1 h2 h0 hb
          · cases h
        · cases h
      · cases h
    · cases h
  case h_19 x i ho =>
    obtain ⟨x', hx, h⟩ := o1_inv h
    simp only [astep] at h
    split at h
    · rename_i vs hvs
      split at h
      · rename_i v hv
        injection h with h; subst h
        exact ok_ext hd hn ho hx hvs hv
      · cases h
    · cases h
  case h_20 t x fi ho =>
    split at h
    · rename_i fs hs
      split at h
      · rename_i fd hfd
        split at h
        · rename_i ds inf hu hi
          obtain ⟨x', hx, h⟩ := o1_inv h
          simp only [astep] at h
          split at h
          · rename_i cs hcs
            obtain ⟨c, hc, rfl⟩ := val1_inv h
            exact ok_fld hd hn ho hs hfd hu hi hx hcs hc
          · cases h
        · cases h
      · cases h
    · cases h
  case h_21 t ho =>
    simp only [astep] at h; injection h with h; subst h
    exact ok_mkm hd hn hfree ho
  case h_22 t m k ok ho =>
    split at h
    · rename_i kt et ht
      split at h
      · rename_i z hk hz
        obtain ⟨m', hm, h⟩ := o1_inv h
        obtain ⟨k', hk', h⟩ := o1_inv h
        simp only [astep] at h
        split at h
        · rename_i id q em ek
          split at h
          · rename_i es hid
            have h9 := ok_mgt (f := f) hd hn ho ht hk hz hm hk' em ek hid
            split at h
            · rename_i c hc
              injection h with h; subst h
              rw [hc] at h9
              exact h9
            · rename_i hc
              injection h with h; subst h
              rw [hc] at h9
              exact h9
          · cases h
        · cases h
      · cases h
    · cases h
  case h_23 t x y ho =>
    split at h
    · rename_i e' inf zs hel
      obtain ⟨x', hx, h⟩ := o1_inv h
      obtain ⟨y', hy, h⟩ := o1_inv h
      obtain ⟨e1, e2, ⟨z, e3, e4⟩, e5, e6, e7⟩ := elemOf_ok hel
      simp only [astep] at h
      split at h
      · rename_i k m k' m' h1 h2
        split at h
        · rename_i hc
          obtain ⟨rfl, h0, hb, _, _, _⟩ := hc
          injection h with h; subst h
          exact ok_mks hd hn hfree ho e1 e2 e3 e4 e5 e6 e7 hx hy h1 h2 h0 hb
        · cases h
      · cases h
    · cases h
  case h_24 t x lo hi mx ho =>
    split at h
    · rename_i ee ht
      split at h
      · rename_i inf hinf
        obtain ⟨x', hx, h⟩ := o1_inv h
        obtain ⟨lo', hlo, h⟩ := oo_inv h
        obtain ⟨hi', hhi, h⟩ := o1_inv h
        obtain ⟨mx', hmx, h⟩ := o1_inv h
        exact ok_slc3 hd hn ho ht hinf hx hlo hhi hmx h
      · cases h
    · cases h
  case h_25 c ho =>
    have hdn : ∀ t, o.dst = some t → t < n := fun t ht => by rw [hd] at ht; injection ht with ht; subst ht; exact hn
    split at h
    · rename_i hb
      rw [← hd] at h
      exact compB0_ok (b := .copy) (args := c.args.toList) (ts := c.argTypes.toList) hdn (by rw [ho]; obtain ⟨cc, aa, tt⟩ := c; simp at hb; subst hb; rfl) h
    · rename_i hb
      rw [← hd] at h
      exact compB0_ok (b := .clear) (args := c.args.toList) (ts := c.argTypes.toList) hdn (by rw [ho]; obtain ⟨cc, aa, tt⟩ := c; simp at hb; subst hb; rfl) h
    · rename_i b _ _ hb
      exact compB_ok (b := b) (args := c.args.toList) (ts := c.argTypes.toList) hfree hd hn (by rw [ho]; obtain ⟨cc, aa, tt⟩ := c; simp at hb; subst hb; rfl) h
    · obtain ⟨x', hx, h⟩ := o1_inv h
      split at h
      · simp [astep] at h
      · cases h
    · cases h
  case h_26 => cases h

theorem compM_ok {t : TypeId} {m k x : Operand} (hd : o.dst = none) (ho : o.op = .mapUpdate t m k x ∨ o.op = .insert t m k x) (h : astep (compM P t m k x) st f = some e) : OpOk P n o st f e := by
  unfold compM at h
  split at h
  · rename_i kt et ht
    split at h
    · rename_i hk
      obtain ⟨m', hm, h⟩ := o1_inv h
      obtain ⟨k', hk', h⟩ := o1_inv h
      obtain ⟨x', hx, h⟩ := o1_inv h
      simp only [astep] at h
      split at h
      · rename_i id q em ek
        split at h
        · rename_i es hid
          split at h
          · injection h with h; subst h
            exact ok_mst hd ho ht hk hm hk' hx em ek hid
          · cases h
        · cases h
      · cases h
    · cases h
  · cases h

theorem comp_ok (hfree : st.h f = .free) (h : astep (compOp P n o) st f = some e) : OpOk P n o st f e := by
  unfold compOp at h
  split at h
  · rename_i d hd
    split at h
    · rename_i hn
      exact compD_ok hfree hd hn h
    · cases h
  · rename_i hd
    split at h
    · rename_i t x y ho
      split at h
      · rename_i inf hi
        obtain ⟨x', hx, h⟩ := o1_inv h
        obtain ⟨y', hy, h⟩ := o1_inv h
        simp only [astep] at h
        split at h
        · rename_i id q i p hp
          split at h
          · rename_i k t' fu es hob
            split at h
            · rename_i el hel
              split at h
              · rename_i hc
                injection h with h; subst h
                exact ok_st hd ho hi hx hy hp (obj_inv hob) hel hc.1 hc.2.1 hc.2.2 [id]
              · cases h
            · cases h
          · cases h
        · cases h
      · cases h
    · rename_i t m k x ho
      exact compM_ok hd (.inl ho) h
    · rename_i t m k x ho
      exact compM_ok hd (.inr ho) h
    · rename_i c ho
      split at h
      · obtain ⟨x', hx, h⟩ := o1_inv h
        split at h
        · simp [astep] at h
        · cases h
      · rename_i b hb
        rw [← hd] at h
        exact compB0_ok (b := b) (args := c.args.toList) (ts := c.argTypes.toList) (fun t ht => by rw [hd] at ht; cases ht) (by rw [ho]; obtain ⟨cc, aa, tt⟩ := c; simp at hb; subst hb; rfl) h
      · cases h
    · cases h
end
end Go.Av
/- The abstract machine, part 14: what an operation does depends on what it looks at alone. -/
set_option linter.unusedVariables false
set_option linter.unusedSimpArgs false
namespace Go.Av

def SO.rd : SO → List Nat
  | .t n => [n]
  | .c _ => []

def rds : List SO → List Nat
  | [] => []
  | x :: xs => x.rd ++ rds xs

def ord : Option SO → List Nat
  | none => []
  | some x => x.rd

def prd : List (Nat × Nat × SO) → List Nat
  | [] => []
  | p :: ps => p.2.2.rd ++ prd ps

def qrd : List (Nat × SO) → List Nat
  | [] => []
  | p :: ps => p.2.rd ++ qrd ps

/-- The temporaries that an operation looks at. -/
def rdT : SOp → List Nat
  | .mv _ x | .not _ x | .neg _ x | .conv _ _ x | .strof _ x | .fa _ x _ | .ld _ x _ _ | .box _ _ x | .len _ _ x | .cap _ x | .ext _ x _ | .fld _ x _ _ _ | .nck _ x | .binN _ _ _ x | .clr _ _ x => x.rd
  | .bin _ _ x y | .binB _ _ x y | .binS _ _ x y | .binA _ _ _ x y | .binP _ _ x y | .ia _ x y _ | .iaA _ x y _ _ | .ixS _ x y | .st x y _ | .mn _ x y | .mx _ x y | .app _ _ _ _ x y | .apz _ _ _ _ _ x y | .cpy _ _ x y |
    .mks _ _ _ _ _ x y | .mgt _ x y _ _ => x.rd ++ y.rd
  | .pick _ c x y | .mst c x y => c.rd ++ (x.rd ++ y.rd)
  | .alc .. | .mkm _ | .bad => []
  | .bld _ _ ps => prd ps
  | .bsl _ _ _ _ _ ps => qrd ps
  | .slc _ _ x lo hi mx => x.rd ++ (ord lo ++ (ord hi ++ ord mx))
  | .slS _ x lo hi => x.rd ++ (ord lo ++ ord hi)
  | .mkf _ _ as bs => rds as ++ rds bs
  | .call _ f xs => f.rd ++ rds xs
  | .g t _ _ o => t :: rdT o

section
variable {s s' : Nat → AVal}

theorem ev_congr {x : SO} (h : ∀ t ∈ x.rd, s' t = s t) : ev s' x = ev s x := by
  cases x with
  | t n => exact h n (by simp [SO.rd])
  | c v => rfl

theorem evs_congr : ∀ {xs : List SO}, (∀ t ∈ rds xs, s' t = s t) → evs s' xs = evs s xs
  | [], _ => rfl
  | x :: xs, h => by
    simp only [evs]
    rw [ev_congr fun t ht => h t (by simp [rds, ht]), evs_congr fun t ht => h t (by simp [rds, ht])]

theorem bound_congr {x : Option SO} {m : Nat} (h : ∀ t ∈ ord x, s' t = s t) : bound s' x m = bound s x m := by
  cases x with
  | none => rfl
  | some x => simp only [bound]; rw [ev_congr h]

theorem fillA_congr : ∀ {ps : List (Nat × Nat × SO)} {cs : List AVal}, (∀ t ∈ prd ps, s' t = s t) → fillA s' cs ps = fillA s cs ps
  | [], _, _ => rfl
  | (o, n, x) :: ps, cs, h => by
    simp only [fillA]
    rw [ev_congr (x := x) fun t ht => h t (by simp [prd, ht])]
    split
    · exact fillA_congr fun t ht => h t (by simp [prd, ht])
    · rfl

theorem fillE_congr {k : Nat} : ∀ {ps : List (Nat × SO)} {es : List (List AVal)}, (∀ t ∈ qrd ps, s' t = s t) → fillE s' k es ps = fillE s k es ps
  | [], _, _ => rfl
  | (i, x) :: ps, es, h => by
    simp only [fillE]
    rw [ev_congr (x := x) fun t ht => h t (by simp [qrd, ht])]
    split
    · exact fillE_congr fun t ht => h t (by simp [qrd, ht])
    · rfl

theorem astep_slots {o : SOp} {h : Nat → AObj} {f : Nat} (hs : ∀ t ∈ rdT o, s' t = s t) : astep o ⟨s', h⟩ f = astep o ⟨s, h⟩ f := by
  cases o <;> simp only [rdT, List.mem_append] at hs <;> simp only [astep]
  case mv d x => rw [ev_congr hs]
  case pick d c x y => rw [ev_congr (x := c) fun t ht => hs t (.inl ht), ev_congr (x := x) fun t ht => hs t (.inr (.inl ht)), ev_congr (x := y) fun t ht => hs t (.inr (.inr ht))]
  case mst c x y => rw [ev_congr (x := c) fun t ht => hs t (.inl ht), ev_congr (x := x) fun t ht => hs t (.inr (.inl ht)), ev_congr (x := y) fun t ht => hs t (.inr (.inr ht))]
  case bld d zs ps => rw [fillA_congr hs]
  case fld d x o agg m => rw [ev_congr hs]
  case bsl d t k zs n ps => rw [fillE_congr hs]
  case mkf d g as bs => rw [evs_congr (xs := as) fun t ht => hs t (.inl ht), evs_congr (xs := bs) fun t ht => hs t (.inr ht)]
  case slS d x lo hi =>
    rw [ev_congr (x := x) fun t ht => hs t (.inl ht), bound_congr (x := lo) fun t ht => hs t (.inr (.inl ht))]
    have : ∀ m, bound s' hi m = bound s hi m := fun m => bound_congr fun t ht => hs t (.inr (.inr ht))
    simp only [this]
  case slc d k x lo hi mx =>
    have h1 : ∀ m, bound s' hi m = bound s hi m := fun m => bound_congr fun t ht => hs t (.inr (.inr (.inl ht)))
    have h2 : ∀ m, bound s' lo m = bound s lo m := fun m => bound_congr fun t ht => hs t (.inr (.inl ht))
    have h3 : ∀ m, bound s' mx m = bound s mx m := fun m => bound_congr fun t ht => hs t (.inr (.inr (.inr ht)))
    rw [ev_congr (x := x) fun t ht => hs t (.inl ht)]
    cases mx <;> simp only [h1, h2, h3]
  all_goals first
    | rfl
    | (rename_i x; rw [ev_congr (x := x) hs]; done)
    | (rename_i x _; rw [ev_congr (x := x) hs]; done)
    | (rename_i x _ _; rw [ev_congr (x := x) hs]; done)
    | (rename_i x y; rw [ev_congr (x := x) fun t ht => hs t (.inl ht), ev_congr (x := y) fun t ht => hs t (.inr ht)]; done)
    | (rename_i x y _; rw [ev_congr (x := x) fun t ht => hs t (.inl ht), ev_congr (x := y) fun t ht => hs t (.inr ht)]; done)
    | (rename_i x y _ _; rw [ev_congr (x := x) fun t ht => hs t (.inl ht), ev_congr (x := y) fun t ht => hs t (.inr ht)]; done)
end

section
variable {h h' : Nat → AObj} {k : Nat}

theorem obj_congr {id q : Nat} (e : h' id = h id) : obj h' id q = obj h id q := by simp [obj, e]

theorem conts_local {x : AVal} {ys : List (List AVal)} {rd : List Nat} (hc : conts h k x = some (ys, rd)) (e : ∀ id ∈ rd, h' id = h id) : conts h' k x = some (ys, rd) := by
  unfold conts at *
  split
  · exact hc
  · exact hc
  · exact hc
  · rename_i id st off len
    simp only at hc
    split at hc
    · rename_i k' t fu es hob
      split at hc
      · rename_i hk
        injection hc with hc; injection hc with h1 h2; subst h2
        rw [obj_congr (e id (by simp)), hob]
        simp [hk, h1]
      · cases hc
    · cases hc
  · simp_all

theorem nilOf_local {x : AVal} {b : Bool} {rd : List Nat} (hc : nilOf h x = some (b, rd)) (e : ∀ id ∈ rd, h' id = h id) : nilOf h' x = some (b, rd) := by
  unfold nilOf at *
  split
  · rename_i id q off len
    simp only at hc
    split at hc
    · rename_i hob
      split at hc
      · cases hc
      · rename_i hl
        injection hc with hc; injection hc with h1 h2; subst h2
        rw [obj_congr (e id (by simp)), hob]
        simp [hl, h1]
    · cases hc
  · rename_i hx
    split at hc
    · rename_i id q off len
      exact absurd rfl (hx id q off len)
    · exact hc

theorem slcOf_local {x : AVal} {l hi : Option Int} {full : Bool} {v : AVal} {rd : List Nat} (hc : slcOf h k x l hi full = some (v, rd)) (e : ∀ id ∈ rd, h' id = h id) : slcOf h' k x l hi full = some (v, rd) := by
  cases l with
  | none => simp [slcOf] at hc
  | some l =>
    cases hi with
    | none => simp [slcOf] at hc
    | some hi =>
      simp only [slcOf] at *
      split at hc
      · rename_i hb
        rw [if_pos hb]
        cases x <;> simp only at hc ⊢ <;> (try (exact hc)) <;> (try (cases hc; done))
        rename_i id st off len
        cases hob : obj h id st with
        | none => simp [hob] at hc
        | some y =>
          obtain ⟨k', t, fu, es⟩ := y
          rw [hob] at hc
          simp only at hc
          split at hc
          · rename_i hk
            injection hc with hc; injection hc with h1 h2; subst h2
            rw [obj_congr (e id (by simp)), hob]
            simp [hk, h1]
          · cases hc
      · cases hc

theorem appOf_local {d : Nat} {t : TypeId} {bytes f : Nat} {x : AVal} {ys : List (List AVal)} {rd : List Nat} {ef : Eff} (hc : appOf d t k bytes h f x ys rd = some ef) (e : ∀ id ∈ ef.rd, h' id = h id) :
    appOf d t k bytes h' f x ys rd = some ef := by
  unfold appOf at *
  cases x <;> simp only at hc ⊢ <;> (try (exact hc)) <;> (try (cases hc; done))
  rename_i id st off len
  cases hob : obj h id st with
  | none => simp [hob] at hc
  | some y =>
    obtain ⟨k', t', fu, es⟩ := y
    have key : ∀ _ : Unit, id ∈ ef.rd → obj h' id st = some (k', t', fu, es) := fun _ hm => by rw [obj_congr (e id hm), hob]
    rw [hob] at hc
    simp only at hc
    have hm : id ∈ ef.rd := by
      split at hc
      · split at hc
        · injection hc with hc; subst hc; simp
        · split at hc
          · injection hc with hc; subst hc; simp
          · split at hc <;> (injection hc with hc; subst hc; simp)
      · cases hc
    rw [key () hm]
    exact hc

/-- What objects an append looks at, and writes. -/
theorem appOf_rd {d : Nat} {t : TypeId} {bytes f : Nat} {x : AVal} {ys : List (List AVal)} {rd : List Nat} {ef : Eff} (hc : appOf d t k bytes h f x ys rd = some ef) : ∀ id ∈ rd, id ∈ ef.rd := by
  unfold appOf at hc
  intro id hid
  split at hc
  · split at hc
    · injection hc with hc; subst hc; exact hid
    · cases hc
  · split at hc
    · injection hc with hc; subst hc; exact hid
    · cases hc
  · split at hc
    · split at hc
      · split at hc
        · injection hc with hc; subst hc; simp [hid]
        · split at hc
          · injection hc with hc; subst hc; simp [hid]
          · split at hc <;> (injection hc with hc; subst hc; simp [hid])
      · cases hc
    · cases hc
  · cases hc

theorem astep_heap {o : SOp} {s : Nat → AVal} {f : Nat} {e : Eff} (he : astep o ⟨s, h⟩ f = some e) (hh : ∀ id ∈ e.rd, h' id = h id) : astep o ⟨s, h'⟩ f = some e := by
  cases o <;> (try (exact he)) <;> simp only [astep] at he ⊢
  case strof d x =>
    split at he
    · rename_i es rd hc
      split at he
      · rename_i bs hb
        injection he with he; subst he
        rw [conts_local hc hh]
        simp [hb]
      · cases he
    · cases he
  case binN d kd neq x =>
    split at he
    · rename_i hk
      rw [if_pos hk]
      split at he
      · rename_i b rd hb
        injection he with he; subst he
        rw [nilOf_local hb hh]
      · cases he
    · cases he
  case ia d x i k =>
    split at he
    · rename_i h1 h2; (try rw [h1, h2]); exact he
    · rename_i id q off len ki m h1 h2
      try rw [h1, h2]
      try simp only
      cases hob : obj h id q with
      | none => simp [hob] at he
      | some y =>
        obtain ⟨k', t', fu, es⟩ := y
        rw [hob] at he
        simp only at he
        split at he
        · rename_i hc
          injection he with he; subst he
          rw [obj_congr (hh id (by simp)), hob]
          simp [hc]
        · cases he
    · cases he
  case ld d x agg m =>
    split at he
    · rename_i id q i p hp
      try rw [hp]
      try simp only
      cases hob : obj h id q with
      | none => simp [hob] at he
      | some y =>
        obtain ⟨k', t', fu, es⟩ := y
        rw [hob] at he
        simp only at he
        split at he
        · rename_i el hel
          split at he
          · rename_i v hv
            injection he with he; subst he
            rw [obj_congr (hh id (by simp)), hob]
            simp [hel, hv]
          · cases he
        · cases he
    · rename_i hp; (try rw [hp]); exact he
    · cases he
  case st x v m =>
    split at he
    · rename_i id q i p hp
      try rw [hp]
      try simp only
      cases hob : obj h id q with
      | none => simp [hob] at he
      | some y =>
        obtain ⟨k', t', fu, es⟩ := y
        rw [hob] at he
        simp only at he
        split at he
        · rename_i el hel
          split at he
          · rename_i hc
            injection he with he; subst he
            rw [obj_congr (hh id (by simp)), hob]
            simp [hel, hc]
          · cases he
        · cases he
    · cases he
  case slc d k x lo hi mx =>
    cases hl : lenOf (ev s x) with
    | none => simp [hl] at he
    | some m =>
      rw [hl] at he
      simp only at he ⊢
      cases mx with
      | none =>
        simp only at he ⊢
        split at he
        · rename_i v rd hv
          injection he with he; subst he
          rw [slcOf_local hv hh]
        · cases he
      | some mx =>
        simp only at he ⊢
        split at he
        · split at he
          · split at he
            · rename_i hb1 hb2 hlt _ _ rd _ rd' h1 h2
              injection he with he; subst he
              rw [slcOf_local h1 fun id hid => hh id (by simp [hid]), slcOf_local h2 fun id hid => hh id (by simp [hid])]
              simp_all
            · cases he
          · cases he
        · cases he
  case app d t k bytes x y =>
    split at he
    · rename_i ys rd hc
      rw [conts_local hc fun id hid => hh id (appOf_rd he id hid)]
      exact appOf_local he hh
    · cases he
  case apz d t k bytes zs x m =>
    split at he
    · rename_i hm
      try rw [hm]
      split at he
      · rename_i hc
        try simp only
        rw [if_pos hc]
        exact appOf_local he hh
      · cases he
    · cases he
  case cpy d k x y =>
    cases hc : conts h k (ev s y) with
    | none => simp [hc] at he
    | some c =>
      obtain ⟨ys, rd⟩ := c
      rw [hc] at he
      simp only at he
      split at he
      · rename_i hx; injection he with he; subst he; rw [conts_local hc hh]
      · rename_i hx; injection he with he; subst he; rw [conts_local hc hh]
      · rename_i id q off len hx
        cases hob : obj h id q with
        | none => simp [hob] at he
        | some y =>
          obtain ⟨k', t', fu, es⟩ := y
          rw [hob] at he
          simp only at he
          split at he
          · rename_i hk
            injection he with he; subst he
            rw [conts_local hc fun id hid => hh id (by simp [hid])]
            try rw [hx]
            try simp only
            rw [obj_congr (hh id (by simp)), hob]
            simp [hk]
          · cases he
      · cases he
  case clr d zs x =>
    split at he
    · rename_i hx; (try rw [hx]); exact he
    · rename_i hx; (try rw [hx]); exact he
    · rename_i id q off len hx
      try rw [hx]
      try simp only
      cases hob : obj h id q with
      | none => simp [hob] at he
      | some y =>
        obtain ⟨k', t', fu, es⟩ := y
        rw [hob] at he
        simp only at he
        split at he
        · rename_i hk
          injection he with he; subst he
          rw [obj_congr (hh id (by simp)), hob]
          simp [hk]
        · cases he
    · cases he
  case mst m k x =>
    split at he
    · rename_i id j h1 h2
      try rw [h1, h2]
      try simp only
      split at he
      · rename_i es hes
        split at he
        · rename_i hf
          injection he with he; subst he
          rw [hh id (by simp), hes]
          simp [hf]
        · cases he
      · cases he
    · cases he
  case mgt d m k z ok =>
    split at he
    · rename_i id j h1 h2
      try rw [h1, h2]
      try simp only
      split at he
      · rename_i es hes
        split at he
        · rename_i c hc
          injection he with he; subst he
          rw [hh id (by simp), hes]
          simp [hc]
        · rename_i hc
          injection he with he; subst he
          rw [hh id (by simp), hes]
          simp [hc]
      · cases he
    · cases he

/-- An operation does the same wherever what it looks at is the same. -/
theorem astep_local {o : SOp} {s s' : Nat → AVal} {f : Nat} {e : Eff} (he : astep o ⟨s, h⟩ f = some e) (hs : ∀ t ∈ rdT o, s' t = s t) (hh : ∀ id ∈ e.rd, h' id = h id) : astep o ⟨s', h'⟩ f = some e := by
  rw [astep_slots hs]
  exact astep_heap he hh

theorem obj_ne {id q : Nat} {y : Nat × TypeId × Bool × List (List AVal)} (e : obj h id q = some y) : h id ≠ .free := by
  obtain ⟨k, t, fu, es⟩ := y
  rw [obj_inv e]
  simp

theorem appOf_wr {d : Nat} {t : TypeId} {bytes f : Nat} {x : AVal} {ys : List (List AVal)} {rd : List Nat} {ef : Eff} (hc : appOf d t k bytes h f x ys rd = some ef) : ∀ p ∈ ef.wr, p.1 ∈ ef.rd ∧ h p.1 ≠ .free := by
  unfold appOf at hc
  split at hc
  · split at hc
    · injection hc with hc; subst hc; simp
    · cases hc
  · split at hc
    · injection hc with hc; subst hc; simp
    · cases hc
  · split at hc
    · rename_i hob
      have hne := obj_ne hob
      split at hc
      · split at hc
        · injection hc with hc; subst hc; simp [hne]
        · split at hc
          · injection hc with hc; subst hc; simp [hne]
          · split at hc <;> (injection hc with hc; subst hc; simp [hne])
      · cases hc
    · cases hc
  · cases hc

/-- What is written was there, and has been looked at. -/
theorem astep_wr {o : SOp} {s : Nat → AVal} {f : Nat} {e : Eff} (he : astep o ⟨s, h⟩ f = some e) : ∀ p ∈ e.wr, p.1 ∈ e.rd ∧ h p.1 ≠ .free := by
  cases o <;> simp only [astep] at he
  case app =>
    split at he
    · exact appOf_wr he
    · cases he
  case apz =>
    split at he
    · split at he
      · exact appOf_wr he
      · cases he
    · cases he
  case mst =>
    split at he
    · split at he
      · rename_i es hes
        split at he
        · injection he with he; subst he; simp [hes]
        · cases he
      · cases he
    · cases he
  all_goals (repeat' (split at he)) <;> first
    | (cases he; done)
    | (unfold val1 at he; split at he <;> first | (cases he; done) | (injection he with he; subst he; simp; done))
    | (injection he with he; subst he; first | (simp; done) | (simp; first | (apply obj_ne; assumption) | (rename_i hh; simp [hh])))
    | skip
end
end Go.Av
/- The abstract machine, part 15: regions whose order is drawn. -/
set_option linter.unusedVariables false
set_option linter.unusedSimpArgs false
namespace Go.Av

/-- The temporary that an operation sets. -/
def dstS : SOp → Option Nat
  | .mv d _ | .pick d _ _ _ | .bin d _ _ _ | .binB d _ _ _ | .binS d _ _ _ | .binA d _ _ _ _ | .binN d _ _ _ | .binP d _ _ _ | .not d _ | .neg d _ | .conv d _ _ | .strof d _ | .fa d _ _ | .ia d _ _ _ | .iaA d _ _ _ _ |
    .ixS d _ _ | .ld d _ _ _ | .box d _ _ | .alc d _ _ | .bld d _ _ | .bsl d _ _ _ _ _ | .slc d _ _ _ _ _ | .slS d _ _ _ | .len d _ _ | .mn d _ _ | .mx d _ _ | .app d _ _ _ _ _ | .apz d _ _ _ _ _ _ | .cap d _ |
    .mks d _ _ _ _ _ _ | .ext d _ _ | .fld d _ _ _ _ | .nck d _ | .mkf d _ _ _ | .mkm d | .mgt d _ _ _ _ => some d
  | .st .. | .mst .. | .bad => none
  | .cpy d _ _ _ | .clr d _ _ | .call d _ _ | .g _ _ d _ => d

/-- Operations that look at no object and change none. -/
def pureS : SOp → Bool
  | .mv .. | .pick .. | .bin .. | .binB .. | .binS .. | .binA .. | .not .. | .neg .. | .conv .. | .fa .. | .iaA .. | .ixS .. | .bld .. | .slS .. | .len .. | .mn .. | .mx .. | .ext .. | .fld .. | .nck .. | .mkf .. => true
  | .g _ _ _ o => pureS o
  | _ => false

/-- Operations that change no object. -/
def readS : SOp → Bool
  | .binN .. | .strof .. | .ia .. | .ld .. | .slc .. | .mgt .. => true
  | .g _ _ _ o => readS o
  | o => pureS o

/-- An effect of its own frame: what is written has been looked at. -/
def Eff.fit (e : Eff) (o : SOp) : Prop :=
  e.d = dstS o ∧ (∀ p ∈ e.wr, p.1 ∈ e.rd) ∧ (pureS o = true → e.rd = [] ∧ e.wr = [] ∧ e.nw = []) ∧ (readS o = true → e.wr = [] ∧ e.nw = [])

theorem val1_eff {d : Nat} {x : Option AVal} {e : Eff} (h : val1 d x = some e) : e.d = some d ∧ e.rd = [] ∧ e.wr = [] ∧ e.nw = [] := by
  obtain ⟨c, _, rfl⟩ := val1_inv h
  exact ⟨rfl, rfl, rfl, rfl⟩

theorem appOf_d {d : Nat} {t : TypeId} {k bytes f : Nat} {h : Nat → AObj} {x : AVal} {ys : List (List AVal)} {rd : List Nat} {e : Eff} (hc : appOf d t k bytes h f x ys rd = some e) : e.d = some d := by
  unfold appOf at hc
  repeat' (split at hc)
  all_goals first | (cases hc; done) | (injection hc with hc; subst hc; rfl)

theorem astep_fit {o : SOp} {st : St} {f : Nat} {e : Eff} (he : astep o st f = some e) : e.fit o := by
  refine ⟨?_, fun p hp => (astep_wr (h := st.h) (s := st.s) he p hp).1, ?_, ?_⟩
  · cases o <;> simp only [astep] at he
    case app => split at he; exact appOf_d he; cases he
    case apz => split at he; (split at he; exact appOf_d he; cases he); cases he
    all_goals (repeat' (split at he)) <;> first
      | (cases he; done)
      | (exact (val1_eff he).1)
      | (injection he with he; subst he; rfl)
  · cases o <;> simp only [astep] at he <;> intro hp <;> (try (simp [pureS] at hp; done))
    all_goals (repeat' (split at he)) <;> first
      | (cases he; done)
      | (exact (val1_eff he).2)
      | (injection he with he; subst he; exact ⟨rfl, rfl, rfl⟩)
  · cases o <;> simp only [astep] at he <;> intro hp <;> (try (simp [readS, pureS] at hp; done))
    all_goals (repeat' (split at he)) <;> first
      | (cases he; done)
      | (exact (val1_eff he).2.2)
      | (injection he with he; subst he; exact ⟨rfl, rfl⟩)

/-- Where nothing is made, the next place of the heap does not matter. -/
theorem astep_f {o : SOp} {st : St} {f f' : Nat} {e : Eff} (he : astep o st f = some e) (hn : e.nw = []) : astep o st f' = some e := by
  have happ : ∀ {d : Nat} {t : TypeId} {k bytes : Nat} {x : AVal} {ys : List (List AVal)} {rd : List Nat}, appOf d t k bytes st.h f x ys rd = some e → appOf d t k bytes st.h f' x ys rd = some e := by
    intro d t k bytes x ys rd hc
    unfold appOf at hc ⊢
    split at hc
    · split at hc
      · injection hc with hc; subst hc; cases hn
      · cases hc
    · split at hc
      · injection hc with hc; subst hc; cases hn
      · cases hc
    · rename_i id q off m
      cases hob : obj st.h id q with
      | none => simp [hob] at hc
      | some y =>
        obtain ⟨k', t', fu, es⟩ := y
        rw [hob] at hc
        simp only at hc ⊢
        split at hc
        · rename_i h1
          rw [if_pos h1]
          split at hc
          · rename_i h2; rw [if_pos h2]; exact hc
          · rename_i h2
            rw [if_neg h2]
            split at hc
            · rename_i h3; rw [if_pos h3]; exact hc
            · rename_i h3
              rw [if_neg h3]
              split at hc
              · injection hc with hc; subst hc; cases hn
              · rename_i h4; rw [if_neg h4]; exact hc
        · cases hc
    · cases hc
  cases o <;> (try (exact he)) <;> simp only [astep] at he ⊢
  case app d t k bytes x y =>
    split at he
    · rename_i ys rd hc; exact happ he
    · cases he
  case apz d t k bytes zs x m =>
    split at he
    · split at he
      · rename_i hc; rw [if_pos hc]; exact happ he
      · cases he
    · cases he
  all_goals (repeat' (split at he)) <;> first
      | (cases he; done)
      | (injection he with he; subst he; cases hn; done)
      | skip

/-- An operation's effect, as the kit's walk has it. -/
def OpW (P : Program) (n : Nat) (o : Oper) (st : St) (f : Nat) (e : Eff) : Prop :=
  ∀ a w G, Rel n st a w G → o.wp P a w (fun a' w' => ∃ G', Rel n (e.app st f) a' w' G' ∧ Tr w G st.h w' G' (e.heap st.h f)) (fun _ _ _ => False)

theorem OpOk.w {P : Program} {n : Nat} {o : Oper} {st : St} {f : Nat} {e : Eff} (h : OpOk P n o st f e) : OpW P n o st f e := by
  intro a w G hr
  obtain ⟨v, w', G', h1, h2, h3⟩ := h a w G hr
  unfold Oper.wp
  rcases h1 with h1 | ⟨h1, rfl⟩
  · rw [h1]; exact ⟨G', h2, h3⟩
  · rw [h1]; exact ⟨G', h2, h3⟩

/-- It has this effect wherever what it looks at is the same. -/
def LocOp (P : Program) (n : Nat) (so : SOp) (st : St) (f : Nat) (e : Eff) : Prop :=
  (so ≠ .bad ∧ e.fit so) ∧ ∀ o, compOp P n o = so → ∀ s' h', (∀ t ∈ rdT so, s' t = st.s t) → (∀ id ∈ e.rd, h' id = st.h id) → (∀ i, i < e.nw.length → h' (f + i) = .free) → (∃ i, h' i = .free) → OpW P n o ⟨s', h'⟩ f e

theorem astep_loc {P : Program} {n : Nat} {so : SOp} {st : St} {f : Nat} {e : Eff} (he : astep so st f = some e) : LocOp P n so st f e := by
  refine ⟨⟨fun h => (by subst h; cases he), astep_fit he⟩, fun o ho s' h' hs hh hfree hex => ?_⟩
  have h1 : astep so ⟨s', h'⟩ f = some e := astep_local (s := st.s) (h := st.h) he hs hh
  subst ho
  by_cases hn : e.nw = []
  · obtain ⟨i, hi⟩ := hex
    have h2 := astep_f (f' := i) h1 hn
    have h3 := (comp_ok hi h2).w
    intro a w G hr
    have h4 := h3 a w G hr
    have e1 : e.heap h' i = e.heap h' f := by
      funext id
      simp only [Eff.heap, hn, List.length_nil, Nat.add_zero]
      rw [if_neg (by omega), if_neg (by omega)]
    have e2 : e.app ⟨s', h'⟩ i = e.app ⟨s', h'⟩ f := by simp only [Eff.app, e1]
    simp only [e2, e1] at h4
    exact h4
  · have : 0 < e.nw.length := List.length_pos_iff.2 hn
    exact (comp_ok (by simpa using hfree 0 this) h1).w

/-- With its guard. -/
def LocG (P : Program) (n : Nat) (so : SOp) (st : St) (f : Nat) (e : Eff) : Prop :=
  match so with
  | .g t want d o => (st.s t = .bool want ∧ LocOp P n o st f e ∧ e.d = d) ∨ ((st.s t = .bool (!want) ∨ st.s t = .tup []) ∧ e = ⟨d, .tup [], [], [], []⟩)
  | o => LocOp P n o st f e

def compG (P : Program) (n : Nat) (ops : Array Oper) (o : Oper) : SOp :=
  match o.guard with
  | none => match compOp P n o with
    | .g .. => .bad
    | so => so
  | some (g, want) => match (ops[g]?).bind (·.dst) with
    | some t => if t < n ∧ (∀ d, o.dst = some d → d < n) then .g t want o.dst (compOp P n o) else .bad
    | none => .bad
end Go.Av
