/- The seat: part Ch5. -/
import Derived.Test.YtmhchaedhmnofaaGreatCh4
import Derived.ChangeArms
import Derived.DataReads
import Derived.Lib.Overlaps
/- The abstract machine, part 27: what is written no more becomes a list. -/
set_option linter.unusedVariables false
set_option linter.unusedSimpArgs false
namespace Go.Av

/-- Leads to nothing that is written. -/
def clo : AVal → Bool
  | .bool _ | .int .. | .str _ | .nil | .emp | .sl .. | .nptr | .iptr .. | .nfunc => true
  | _ => false

def cloE (es : List (List AVal)) : Prop := ∀ e ∈ es, ∀ c ∈ e, clo c = true

theorem VR.cr {w : World} {G : Gh} {h : Nat → AObj} {c : AVal} {v : Value} (x : VR w G h c v) (hc : clo c = true) : CR w G.I c v := by
  cases x with
  | cl _ _ h => exact h
  | _ => cases hc

/-- A value told anew, where the rows of an object have become lists. -/
inductive Fz (id q k : Nat) (es : List (List AVal)) : AVal → AVal → Prop
  | wk {c c' : AVal} (h : Wk c c') : Fz id q k es c c'
  | row (off len : Nat) {xs : List (List AVal)} (hx : (es.drop off).take len = xs) (hc : cloE xs) : Fz id q k es (.row id q off len) (.sl k xs)
  | row0 (id' q' off k' : Nat) : Fz id q k es (.row id' q' off 0) (.sl k' [])
  | agg {cs cs' : List AVal} (hl : cs'.length = cs.length) (h : ∀ (j : Nat) c c', cs[j]? = some c → cs'[j]? = some c' → Fz id q k es c c') : Fz id q k es (.agg cs) (.agg cs')
  | tup {cs cs' : List AVal} (hl : cs'.length = cs.length) (h : ∀ (j : Nat) c c', cs[j]? = some c → cs'[j]? = some c' → Fz id q k es c c') : Fz id q k es (.tup cs) (.tup cs')
  | func {f : FuncId} {as as' bs bs' : List AVal} (hl : as'.length = as.length) (hl' : bs'.length = bs.length) (h : ∀ (j : Nat) c c', as[j]? = some c → as'[j]? = some c' → Fz id q k es c c')
      (h' : ∀ (j : Nat) c c', bs[j]? = some c → bs'[j]? = some c' → Fz id q k es c c') : Fz id q k es (.func f as bs) (.func f as' bs')

/-- Lists of values told anew. -/
inductive FzL (id q k : Nat) (es : List (List AVal)) : List AVal → List AVal → Prop
  | nil : FzL id q k es [] []
  | cons {c c' : AVal} {cs cs' : List AVal} (h : Fz id q k es c c') (t : FzL id q k es cs cs') : FzL id q k es (c :: cs) (c' :: cs')

theorem FzL.refl {id q k : Nat} {es : List (List AVal)} : ∀ (cs : List AVal), FzL id q k es cs cs
  | [] => .nil
  | c :: cs => .cons (.wk (.refl c)) (FzL.refl cs)

theorem FzL.get {id q k : Nat} {es : List (List AVal)} {cs cs' : List AVal} (h : FzL id q k es cs cs') : cs'.length = cs.length ∧ ∀ (j : Nat) c c', cs[j]? = some c → cs'[j]? = some c' → Fz id q k es c c' := by
  induction h with
  | nil => exact ⟨rfl, fun j c c' h => by simp at h⟩
  | cons h t ih =>
    refine ⟨by simp [ih.1], fun j c c' h1 h2 => ?_⟩
    cases j with
    | zero => simp at h1 h2; subst h1 h2; exact h
    | succ j => exact ih.2 j c c' (by simpa using h1) (by simpa using h2)

theorem Fz.aggL {id q k : Nat} {es : List (List AVal)} {cs cs' : List AVal} (h : FzL id q k es cs cs') : Fz id q k es (.agg cs) (.agg cs') := .agg h.get.1 h.get.2
/-- An object told anew. -/
inductive FzO (id q k : Nat) (es : List (List AVal)) : AObj → AObj → Prop
  | refl (o : AObj) : FzO id q k es o o
  | dead {o : AObj} (h : o ≠ .free) : FzO id q k es o .dead
  | one {st k0 : Nat} {t : TypeId} {fu : Bool} {e e' : List AVal} (h : FzL id q k es e e') : FzO id q k es (.cells st k0 t fu [e]) (.cells st k0 t fu [e'])
  | cells {st k0 : Nat} {t : TypeId} {fu : Bool} {xs xs' : List (List AVal)} (hl : xs'.length = xs.length) (h : ∀ (i : Nat) e e', xs[i]? = some e → xs'[i]? = some e' → FzL id q k es e e') : FzO id q k es (.cells st k0 t fu xs) (.cells st k0 t fu xs')

theorem FzO.live {id q k : Nat} {es : List (List AVal)} {o o' : AObj} (h : FzO id q k es o o') (l : o'.live = true) : o.live = true := by
  cases h with
  | refl => exact l
  | dead _ => cases l
  | one _ => rfl
  | cells _ _ => rfl

inductive FzH (id q k : Nat) (es : List (List AVal)) : Nat → Heap → Heap → Prop
  | nil (i : Nat) : FzH id q k es i [] []
  | this {i : Nat} {o : AObj} {H H' : Heap} (h : i = id) (t : FzH id q k es (i + 1) H H') : FzH id q k es i (o :: H) (.dead :: H')
  | cons {i : Nat} {o o' : AObj} {H H' : Heap} (h : i ≠ id) (ho : FzO id q k es o o') (t : FzH id q k es (i + 1) H H') : FzH id q k es i (o :: H) (o' :: H')

theorem FzH.get {id q k : Nat} {es : List (List AVal)} : ∀ {i : Nat} {H H' : Heap}, FzH id q k es i H H' → H'.length = H.length ∧ ∀ j, (i + j = id → j < H.length → getO H' j = .dead) ∧ (i + j ≠ id → FzO id q k es (getO H j) (getO H' j))
  | i, _, _, .nil _ => ⟨rfl, fun j => ⟨fun _ h => by simp at h, fun _ => .refl _⟩⟩
  | i, _, _, .this (H := H) (H' := H') (o := o) h t => by
    obtain ⟨h1, h2⟩ := t.get
    refine ⟨by simp [h1], fun j => ?_⟩
    cases j with
    | zero => exact ⟨fun _ _ => rfl, fun e => absurd (by simpa using h) e⟩
    | succ j =>
      have e : i + (j + 1) = i + 1 + j := by omega
      have := h2 j
      rw [← e] at this
      exact ⟨fun a b => this.1 a (by simpa using b), this.2⟩
  | i, _, _, .cons (H := H) (H' := H') h ho t => by
    obtain ⟨h1, h2⟩ := t.get
    refine ⟨by simp [h1], fun j => ?_⟩
    cases j with
    | zero => exact ⟨fun e => absurd (by simpa using e) h, fun _ => ho⟩
    | succ j =>
      have e : i + (j + 1) = i + 1 + j := by omega
      have := h2 j
      rw [← e] at this
      exact ⟨fun a b => this.1 a (by simpa using b), this.2⟩

theorem Fz.vr {w : World} {G G' : Gh} {h h' : Nat → AObj} (hr : HR w G h) {id q k : Nat} {t : TypeId} {fu : Bool} {es : List (List AVal)} (hid : h id = .cells q k t fu es)
    (hI : ∀ b, G.I b → G'.I b) (hIb : ∀ b C, G.M id = some (b, C) → G'.I b) (he : Ext G.M h G'.M h') {c c' : AVal} (f : Fz id q k es c c') : ∀ {v : Value}, VR w G h c v → VR w G' h' c' v := by
  have up : ∀ {c v}, VR w G h c v → VR w G' h' c v := fun hv => hv.mono hI (fun _ _ => rfl) he
  induction f with
  | wk k => intro v hv; exact k.vr (up hv)
  | row0 id' q' off k' =>
    intro v hv
    obtain ⟨a, cap, rfl, _⟩ := hv.row_inv
    exact .cl _ _ (.slz _ _ _)
  | @row off len xs hx hc =>
    intro v hv
    subst hx
    obtain ⟨ad, cap, rfl, hfr, hro⟩ := hv.row_inv
    obtain ⟨hle, hm⟩ := (hro _ _ _ _ _ hid).2 rfl
    have hlen : ((es.drop off).take len).length = len := by simp; omega
    have hok := hr.obj id
    rw [hid] at hok
    obtain ⟨hk, hel, hok⟩ := hok
    by_cases hl0 : len = 0
    · subst hl0
      have : (es.drop off).take 0 = [] := rfl
      rw [this]
      exact .cl _ _ (.slz _ _ _)
    · rcases hm with ⟨_, h0, _⟩ | ⟨b, C, hM, hcap, hC⟩
      · exact absurd h0 hl0
      · rcases hok with ⟨h0, _⟩ | ⟨b', C', cs, hM', hnI, hg, hs, hle', hfu, hC', h1, hvv⟩
        · rw [hM] at h0; cases h0
        · rw [hM] at hM'; cases hM'
          have hcap' : ad = some ⟨b, off * k, none⟩ := by
            rcases hcap with hcap | hcap
            · omega
            · exact hcap
          subst hcap'
          have main : CR w G'.I (.sl k ((es.drop off).take len)) (.slice (some ⟨b, off * k, none⟩) ((es.drop off).take len).length cap) := by
            refine .sl k _ b (off * k) cap (fun i j => (cs[off * k + (i * k + j)]?).getD undef) (hIb b C hM) (by rw [hlen]; omega) (fun e he => hel e (List.mem_of_mem_drop (List.mem_of_mem_take he))) (fun i e j c a1 a2 => ?_) (fun i e j c a1 a2 => ?_)
            · rw [List.getElem?_take] at a1
              split at a1
              · rename_i hi
                rw [List.getElem?_drop] at a1
                have hj : j < k := by
                  have := (List.getElem?_eq_some_iff.1 a2).1
                  rw [hel e (List.mem_of_getElem? a1)] at this
                  exact this
                have hb : off * k + (i * k + j) < cs.size := by
                  have h3 : (off + i + 1) * k ≤ C * k := Nat.mul_le_mul_right _ (by omega)
                  rw [Nat.add_mul, Nat.add_mul] at h3
                  omega
                rw [cell_of_row w b _ cs t (0, 0) hg, Array.getElem?_eq_getElem hb]
                rfl
              · cases a1
            · have hcl := hc e (List.mem_of_getElem? a1) c (List.mem_of_getElem? a2)
              rw [List.getElem?_take] at a1
              split at a1
              · rename_i hi
                rw [List.getElem?_drop] at a1
                have hj : j < k := by
                  have := (List.getElem?_eq_some_iff.1 a2).1
                  rw [hel e (List.mem_of_getElem? a1)] at this
                  exact this
                have hb : off * k + (i * k + j) < cs.size := by
                  have h3 : (off + i + 1) * k ≤ C * k := Nat.mul_le_mul_right _ (by omega)
                  rw [Nat.add_mul, Nat.add_mul] at h3
                  omega
                have hb' : (off + i) * k + j = off * k + (i * k + j) := by rw [Nat.add_mul]; omega
                rw [Array.getElem?_eq_getElem hb]
                have := hvv (off + i) e j c cs[off * k + (i * k + j)] a1 a2 (by rw [hb']; exact Array.getElem?_eq_getElem hb)
                exact (this.cr hcl).mono hI (fun _ _ => rfl)
              · cases a1
          rw [hlen] at main
          exact .cl _ _ main
  | agg hl _ ih =>
    intro v hv
    obtain ⟨vs, rfl, h1, h2, h3⟩ := hv.agg_inv
    refine .agg _ _ (by rw [hl]; exact h1) h2 fun j c' v a1 a2 => ?_
    have hj := (List.getElem?_eq_some_iff.1 a1).1
    rename_i cs cs' _
    have hj' : j < cs.length := by omega
    exact ih j _ c' (List.getElem?_eq_getElem hj') a1 (h3 j _ v (List.getElem?_eq_getElem hj') a2)
  | tup hl _ ih =>
    intro v hv
    obtain ⟨vs, rfl, h1, h3⟩ := hv.tup_inv
    refine .tup _ _ (by rw [hl]; exact h1) fun j c' v a1 a2 => ?_
    have hj := (List.getElem?_eq_some_iff.1 a1).1
    rename_i cs cs' _
    have hj' : j < cs.length := by omega
    exact ih j _ c' (List.getElem?_eq_getElem hj') a1 (h3 j _ v (List.getElem?_eq_getElem hj') a2)
  | func hl hl' _ _ ih ih' =>
    intro v hv
    rename_i as as' bs bs' _ _
    obtain ⟨xs, ys, rfl, h1, h2, h3, h4⟩ := hv.func_inv
    refine .func _ _ _ _ _ (by rw [hl]; exact h1) (by rw [hl']; exact h2) (fun j c' v a1 a2 => ?_) (fun j c' v a1 a2 => ?_)
    · have hj := (List.getElem?_eq_some_iff.1 a1).1
      have hj' : j < as.length := by omega
      exact ih j _ c' (List.getElem?_eq_getElem hj') a1 (h3 j _ v (List.getElem?_eq_getElem hj') a2)
    · have hj := (List.getElem?_eq_some_iff.1 a1).1
      have hj' : j < bs.length := by omega
      exact ih' j _ c' (List.getElem?_eq_getElem hj') a1 (h4 j _ v (List.getElem?_eq_getElem hj') a2)

theorem Fz.vr0 {w : World} {G G' : Gh} {h h' : Nat → AObj} (hr : HR w G h) {id q k : Nat} {es : List (List AVal)} (hid : h id = .free)
    (hI : ∀ b, G.I b → G'.I b) (he : Ext G.M h G'.M h') {c c' : AVal} (f : Fz id q k es c c') : ∀ {v : Value}, VR w G h c v → VR w G' h' c' v := by
  have up : ∀ {c v}, VR w G h c v → VR w G' h' c v := fun hv => hv.mono hI (fun _ _ => rfl) he
  induction f with
  | wk k => intro v hv; exact k.vr (up hv)
  | row0 id' q' off k' =>
    intro v hv
    obtain ⟨a, cap, rfl, _⟩ := hv.row_inv
    exact .cl _ _ (.slz _ _ _)
  | row off len hx hc =>
    intro v hv
    obtain ⟨ad, cap, rfl, hfr, hro⟩ := hv.row_inv
    exact absurd hid hfr
  | agg hl _ ih =>
    intro v hv
    obtain ⟨vs, rfl, h1, h2, h3⟩ := hv.agg_inv
    refine .agg _ _ (by rw [hl]; exact h1) h2 fun j c' v a1 a2 => ?_
    have hj := (List.getElem?_eq_some_iff.1 a1).1
    rename_i cs cs' _
    have hj' : j < cs.length := by omega
    exact ih j _ c' (List.getElem?_eq_getElem hj') a1 (h3 j _ v (List.getElem?_eq_getElem hj') a2)
  | tup hl _ ih =>
    intro v hv
    obtain ⟨vs, rfl, h1, h3⟩ := hv.tup_inv
    refine .tup _ _ (by rw [hl]; exact h1) fun j c' v a1 a2 => ?_
    have hj := (List.getElem?_eq_some_iff.1 a1).1
    rename_i cs cs' _
    have hj' : j < cs.length := by omega
    exact ih j _ c' (List.getElem?_eq_getElem hj') a1 (h3 j _ v (List.getElem?_eq_getElem hj') a2)
  | func hl hl' _ _ ih ih' =>
    intro v hv
    rename_i as as' bs bs' _ _
    obtain ⟨xs, ys, rfl, h1, h2, h3, h4⟩ := hv.func_inv
    refine .func _ _ _ _ _ (by rw [hl]; exact h1) (by rw [hl']; exact h2) (fun j c' v a1 a2 => ?_) (fun j c' v a1 a2 => ?_)
    · have hj := (List.getElem?_eq_some_iff.1 a1).1
      have hj' : j < as.length := by omega
      exact ih j _ c' (List.getElem?_eq_getElem hj') a1 (h3 j _ v (List.getElem?_eq_getElem hj') a2)
    · have hj := (List.getElem?_eq_some_iff.1 a1).1
      have hj' : j < bs.length := by omega
      exact ih' j _ c' (List.getElem?_eq_getElem hj') a1 (h4 j _ v (List.getElem?_eq_getElem hj') a2)

section
variable {P : Program} {n m0 : Nat} {s s' : Slots} {H H' : Heap}

/-- An object is written no more. -/
theorem Gs_freeze (id : Nat) {q k : Nat} {t : TypeId} {fu : Bool} {es : List (List AVal)} (hid : getO H id = .cells q k t fu es) (hs : ∀ p ∈ s', Fz id q k es (get s p.1) p.2) (hH : FzH id q k es 0 H H') : Gs n m0 s H s' H' := by
  intro w0 G0 h0 hb0 a w G hr ht
  obtain ⟨hlen, hobj⟩ := hH.get
  have hidlt : id < H.length := lt_of_getO (by rw [hid]; simp)
  have hdead : getO H' id = .dead := (hobj id).1 (by omega) hidlt
  have ho : ∀ j, j ≠ id → FzO id q k es (getO H j) (getO H' j) := fun j hj => (hobj j).2 (by omega)
  let G' : Gh := ⟨fun b => G.I b ∨ ∃ C, G.M id = some (b, C), G.M⟩
  have hlive : ∀ j, (getO H' j).live = true → j ≠ id ∧ (getO H j).live = true := fun j hj => by
    by_cases e : j = id
    · subst e; rw [hdead] at hj; cases hj
    · exact ⟨e, (ho j e).live hj⟩
  have hE : Ext G.M (getO H) G'.M (getO H') := by
    refine ⟨fun j hj => ?_, fun j st k0 t0 fu0 es0 hj h'' => ?_, fun j es0 hj h'' => ?_⟩
    · by_cases e : j = id
      · subst e; rw [hdead]; simp
      · intro e2
        have := ho j e
        rw [e2] at this
        generalize ho2 : getO H j = o at this hj
        cases this
        exact hj rfl
    · by_cases e : j = id
      · subst e; rw [hdead] at h''; cases h''
      · have := ho j e
        rw [h''] at this
        generalize ho2 : getO H j = o at this hj
        cases this with
        | refl => exact ⟨_, _, _, _, _, rfl, Nat.le_refl _, fun _ => ⟨rfl, Nat.le_refl _, rfl⟩⟩
        | one h => exact ⟨_, _, _, _, _, rfl, Nat.le_refl _, fun _ => ⟨rfl, by simp, rfl⟩⟩
        | cells hl h => exact ⟨_, _, _, _, _, rfl, Nat.le_refl _, fun _ => ⟨rfl, by omega, rfl⟩⟩
    · by_cases e : j = id
      · subst e; rw [hdead] at h''; cases h''
      · have := ho j e
        rw [h''] at this
        generalize ho2 : getO H j = o at this hj
        cases this with
        | refl => exact ⟨_, rfl, rfl⟩
  have hI : ∀ b, G.I b → G'.I b := fun b h => .inl h
  have hIb : ∀ b C, G.M id = some (b, C) → G'.I b := fun b C h => .inr ⟨C, h⟩
  have vr : ∀ {c c' v}, Fz id q k es c c' → VR w G (getO H) c v → VR w G' (getO H') c' v := fun f hv => f.vr hr.heap hid hI hIb hE hv
  have hHR : HR w G' (getO H') := by
    refine ⟨fun j => ?_, fun j j' b C C' l l' m m' => ?_, fun b hb => ?_⟩
    · by_cases e : j = id
      · subst e; rw [hdead]; trivial
      · have hoj := hr.heap.obj j
        have hnI : ∀ b C, (getO H j).live = true → G.M j = some (b, C) → ¬ G.I b → ¬ G'.I b := by
          intro b C l m hn hI'
          rcases hI' with h | ⟨C', h⟩
          · exact hn h
          · exact e (hr.heap.inj _ _ _ _ _ l (by show (getO H id).live = true; rw [hid]; rfl) m h)
        have key : ∀ {st k0 t0 fu0 xs xs'}, getO H j = .cells st k0 t0 fu0 xs → xs'.length = xs.length → (∀ (i : Nat) e e', xs[i]? = some e → xs'[i]? = some e' → FzL id q k es e e') → ObjOk w G' (getO H') j (.cells st k0 t0 fu0 xs') := by
          intro st k0 t0 fu0 xs xs' hj hl hx
          rw [show (S s H).h = getO H from rfl, hj] at hoj
          obtain ⟨h1, h2, h3⟩ := hoj
          have h2' : ∀ e ∈ xs', e.length = k0 := fun e' he' => by
            obtain ⟨i, hi⟩ := List.mem_iff_getElem?.1 he'
            have hlt := (List.getElem?_eq_some_iff.1 hi).1
            have hlt' : i < xs.length := by omega
            have := (hx i _ e' (List.getElem?_eq_getElem hlt') hi).get.1
            rw [this]
            exact h2 _ (List.getElem_mem _)
          refine ⟨h1, h2', ?_⟩
          rcases h3 with ⟨a1, a2⟩ | ⟨b, C, cs, a1, a2, a3, a4, a5, a6, a7, a8, a9⟩
          · subst a2
            exact .inl ⟨a1, List.eq_nil_of_length_eq_zero (by simpa using hl)⟩
          · refine .inr ⟨b, C, cs, a1, hnI b C (by rw [hj]; rfl) a1 a2, a3, a4, by omega, fun e => by rw [hl]; exact a6 e, a7, a8, fun i e' m c' v b1 b2 b3 => ?_⟩
            have hlt := (List.getElem?_eq_some_iff.1 b1).1
            have hlt' : i < xs.length := by omega
            have hL := (hx i _ e' (List.getElem?_eq_getElem hlt') b1).get
            have hm := (List.getElem?_eq_some_iff.1 b2).1
            have hm' : m < (xs[i]).length := by omega
            exact vr (hL.2 m _ c' (List.getElem?_eq_getElem hm') b2) (a9 i _ m _ v (List.getElem?_eq_getElem hlt') (List.getElem?_eq_getElem hm') b3)
        have hf := ho j e
        generalize hoj2 : getO H j = o at hf
        generalize hoj3 : getO H' j = o' at hf
        cases hf with
        | refl =>
          cases o with
          | free => trivial
          | dead => trivial
          | cells st k0 t0 fu0 xs => exact key hoj2 rfl fun i e1 e2 h1 h2 => by rw [h1] at h2; injection h2 with h2; subst h2; exact FzL.refl _
          | map xs =>
            rw [show (S s H).h = getO H from rfl, hoj2] at hoj
            obtain ⟨b, C, ents, clock, a1, a2, a3, a4, a5⟩ := hoj
            exact ⟨b, C, ents, clock, a1, hnI b C (by rw [hoj2]; rfl) a1 a2, a3, a4, fun i n c e' b1 b2 => ⟨(a5 i n c e' b1 b2).1, vr (.wk (.refl _)) (a5 i n c e' b1 b2).2⟩⟩
        | dead _ => trivial
        | one h =>
          refine key hoj2 rfl fun i e1 e2 h1 h2 => ?_
          cases i with
          | zero => simp at h1 h2; subst h1 h2; exact h
          | succ i => simp at h1
        | cells hl h => exact key hoj2 hl h
    · obtain ⟨_, l⟩ := hlive j l
      obtain ⟨_, l'⟩ := hlive j' l'
      exact hr.heap.inj _ _ _ _ _ l l' m m'
    · rcases hb with h | ⟨C, h⟩
      · exact hr.heap.lt b h
      · exact hr.heap.ownLt b C id (by show (getO H id).live = true; rw [hid]; rfl) h
  have hTr : Tr w G (getO H) w G' (getO H') := by
    refine ⟨Nat.le_refl _, fun _ _ _ => rfl, rfl, rfl, rfl, hI, fun b hb => ?_, fun b hb => ?_, hE⟩
    · rcases hb with h | ⟨C, h⟩
      · exact .inl h
      · exact .inr (.inl ⟨id, C, by rw [hid]; rfl, h⟩)
    · obtain ⟨j, C, l, m⟩ := hb
      exact .inl ⟨j, C, (hlive j l).2, m⟩
  refine ⟨G', ⟨fun t => ?_, hr.defers, hr.size, hHR⟩, ht.trans hTr⟩
  have key : ∀ (l : Slots), (∀ p ∈ l, Fz id q k es (get s p.1) p.2) → Fz id q k es (get s t) (get l t) := by
    intro l
    induction l with
    | nil => intro _; exact .wk (.undef _)
    | cons p l ih =>
      intro hl
      obtain ⟨t', v⟩ := p
      simp only [get]
      by_cases e : t' = t
      · rw [if_pos e]; subst e; exact hl (t', v) (List.mem_cons_self ..)
      · rw [if_neg e]; exact ih fun q hq => hl q (List.mem_cons_of_mem _ hq)
  exact vr (key s' hs) (hr.slots t)


/-- Values and cells are told in another way. -/
theorem Gs_tell (hs : ∀ p ∈ s', Fz H.length 0 0 [] (get s p.1) p.2) (hH : FzH H.length 0 0 [] 0 H H') : Gs n m0 s H s' H' := by
  intro w0 G0 h0 hb0 a w G hr ht
  obtain ⟨hlen, hobj⟩ := hH.get
  have hfree : getO H H.length = .free := getO_free (Nat.le_refl _)
  have ho : ∀ j, FzO H.length 0 0 [] (getO H j) (getO H' j) := fun j => by
    by_cases hj : j = H.length
    · subst hj
      rw [hfree, getO_free (by rw [hlen]; exact Nat.le_refl _)]
      exact .refl _
    · exact (hobj j).2 (by omega)
  have hlive : ∀ j, (getO H' j).live = true → (getO H j).live = true := fun j hj => (ho j).live hj
  have hE : Ext G.M (getO H) G.M (getO H') := by
    refine ⟨fun j hj => ?_, fun j st k0 t0 fu0 es0 hj h'' => ?_, fun j es0 hj h'' => ?_⟩
    · intro e2
      have := ho j
      rw [e2] at this
      generalize ho2 : getO H j = o at this hj
      cases this
      exact hj rfl
    · have := ho j
      rw [h''] at this
      generalize ho2 : getO H j = o at this hj
      cases this with
      | refl => exact ⟨_, _, _, _, _, rfl, Nat.le_refl _, fun _ => ⟨rfl, Nat.le_refl _, rfl⟩⟩
      | one h => exact ⟨_, _, _, _, _, rfl, Nat.le_refl _, fun _ => ⟨rfl, by simp, rfl⟩⟩
      | cells hl h => exact ⟨_, _, _, _, _, rfl, Nat.le_refl _, fun _ => ⟨rfl, by omega, rfl⟩⟩
    · have := ho j
      rw [h''] at this
      generalize ho2 : getO H j = o at this hj
      cases this with
      | refl => exact ⟨_, rfl, rfl⟩
  have vr : ∀ {c c' v}, Fz H.length 0 0 [] c c' → VR w G (getO H) c v → VR w G (getO H') c' v := fun f hv => f.vr0 hr.heap hfree (fun _ h => h) hE hv
  have hHR : HR w G (getO H') := by
    refine ⟨fun j => ?_, fun j j' b C C' l l' m m' => hr.heap.inj _ _ _ _ _ (hlive j l) (hlive j' l') m m', hr.heap.lt⟩
    have hoj := hr.heap.obj j
    have key : ∀ {st k0 t0 fu0 xs xs'}, getO H j = .cells st k0 t0 fu0 xs → xs'.length = xs.length → (∀ (i : Nat) e e', xs[i]? = some e → xs'[i]? = some e' → FzL H.length 0 0 [] e e') → ObjOk w G (getO H') j (.cells st k0 t0 fu0 xs') := by
      intro st k0 t0 fu0 xs xs' hj hl hx
      rw [show (S s H).h = getO H from rfl, hj] at hoj
      obtain ⟨h1, h2, h3⟩ := hoj
      have h2' : ∀ e ∈ xs', e.length = k0 := fun e' he' => by
        obtain ⟨i, hi⟩ := List.mem_iff_getElem?.1 he'
        have hlt := (List.getElem?_eq_some_iff.1 hi).1
        have hlt' : i < xs.length := by omega
        have := (hx i _ e' (List.getElem?_eq_getElem hlt') hi).get.1
        rw [this]
        exact h2 _ (List.getElem_mem _)
      refine ⟨h1, h2', ?_⟩
      rcases h3 with ⟨a1, a2⟩ | ⟨b, C, cs, a1, a2, a3, a4, a5, a6, a7, a8, a9⟩
      · subst a2
        exact .inl ⟨a1, List.eq_nil_of_length_eq_zero (by simpa using hl)⟩
      · refine .inr ⟨b, C, cs, a1, a2, a3, a4, by omega, fun e => by rw [hl]; exact a6 e, a7, a8, fun i e' m c' v b1 b2 b3 => ?_⟩
        have hlt := (List.getElem?_eq_some_iff.1 b1).1
        have hlt' : i < xs.length := by omega
        have hL := (hx i _ e' (List.getElem?_eq_getElem hlt') b1).get
        have hm := (List.getElem?_eq_some_iff.1 b2).1
        have hm' : m < (xs[i]).length := by omega
        exact vr (hL.2 m _ c' (List.getElem?_eq_getElem hm') b2) (a9 i _ m _ v (List.getElem?_eq_getElem hlt') (List.getElem?_eq_getElem hm') b3)
    have hf := ho j
    generalize hoj2 : getO H j = o at hf
    generalize hoj3 : getO H' j = o' at hf
    cases hf with
    | refl =>
      cases o with
      | free => trivial
      | dead => trivial
      | cells st k0 t0 fu0 xs => exact key hoj2 rfl fun i e1 e2 h1 h2 => by rw [h1] at h2; injection h2 with h2; subst h2; exact FzL.refl _
      | map xs =>
        rw [show (S s H).h = getO H from rfl, hoj2] at hoj
        obtain ⟨b, C, ents, clock, a1, a2, a3, a4, a5⟩ := hoj
        exact ⟨b, C, ents, clock, a1, a2, a3, a4, fun i n c e' b1 b2 => ⟨(a5 i n c e' b1 b2).1, vr (.wk (.refl _)) (a5 i n c e' b1 b2).2⟩⟩
    | dead _ => trivial
    | one h =>
      refine key hoj2 rfl fun i e1 e2 h1 h2 => ?_
      cases i with
      | zero => simp at h1 h2; subst h1 h2; exact h
      | succ i => simp at h1
    | cells hl h => exact key hoj2 hl h
  have hTr : Tr w G (getO H) w G (getO H') :=
    ⟨Nat.le_refl _, fun _ _ _ => rfl, rfl, rfl, rfl, fun _ h => h, fun b hb => .inl hb, fun b ⟨j, C, l, m⟩ => .inl ⟨j, C, hlive j l, m⟩, hE⟩
  refine ⟨G, ⟨fun t => ?_, hr.defers, hr.size, hHR⟩, ht.trans hTr⟩
  have key : ∀ (l : Slots), (∀ p ∈ l, Fz H.length 0 0 [] (get s p.1) p.2) → Fz H.length 0 0 [] (get s t) (get l t) := by
    intro l
    induction l with
    | nil => intro _; exact .wk (.undef _)
    | cons p l ih =>
      intro hl
      obtain ⟨t', v⟩ := p
      simp only [get]
      by_cases e : t' = t
      · rw [if_pos e]; subst e; exact hl (t', v) (List.mem_cons_self ..)
      · rw [if_neg e]; exact ih fun q hq => hl q (List.mem_cons_of_mem _ hq)
  exact vr (key s' hs) (hr.slots t)
end

section
variable {P : Program} {n m0 : Nat} {dr : Bool} {d : Nat} {od : Option Nat} {rt : List Nat} {E : Lg → Slots → Heap → Prop} {s : Slots} {H : Heap}

def fldV (x : AVal) (o : Nat) (agg : Bool) (m : Nat) : Option AVal :=
  match x with
  | .agg cs => loadFrom agg m (cs.drop o)
  | _ => none
theorem fldV_agg {cs : List AVal} {o m : Nat} {agg : Bool} : fldV (.agg cs) o agg m = loadFrom agg m (cs.drop o) := rfl
theorem X_fld {x : SO} {o m : Nat} {agg : Bool} : OpX P n m0 dr (.fld d x o agg m) rt E s H ↔ ov d rt E s H (v1 (fldV (ev (get s) x) o agg m)) :=
  opx_val rfl (by
    simp only [astep, S, fldV]
    cases ev (get s) x <;> first | rfl | exact val1_v1)
theorem G_fld {K : Slots → Heap → Prop} {b want : Bool} {x : SO} {o m : Nat} {agg : Bool} : GX P n m0 dr (.bool b) want (some d) (.fld d x o agg m) rt (ign K) s H ↔ gk b want d (v1 (fldV (ev (get s) x) o agg m)) K s H := GX_mrg (fun _ _ => X_fld) rfl
theorem dstG_fld {x : SO} {o m : Nat} {agg : Bool} : dstG (.fld d x o agg m) = some (some d) := by simp only [dstG, dstS]

/-- A capacity, at its place. -/
def CPX (dr : Bool) (d : Nat) (rt : List Nat) (E : Lg → Slots → Heap → Prop) (s : Slots) (H : Heap) (v : AVal) : Prop := dr = false ∧ CP H v fun c H' => E ⟨some d, rt, [], [], H.length, 0⟩ ((d, .int .i64 c) :: s) H'
theorem X_cap {x : SO} : OpX P n m0 dr (.cap d x) rt E s H ↔ CPX dr d rt E s H (ev (get s) x) := Iff.rfl
theorem CPX_nil : CPX false d rt E s H .nil ↔ E ⟨some d, rt, [], [], H.length, 0⟩ ((d, .int .i64 0) :: s) H := ⟨fun h => h.2, fun h => ⟨rfl, h⟩⟩
theorem CPX_emp : CPX false d rt E s H .emp ↔ E ⟨some d, rt, [], [], H.length, 0⟩ ((d, .int .i64 0) :: s) H := ⟨fun h => h.2, fun h => ⟨rfl, h⟩⟩
theorem CPX_row {id q off len k : Nat} {t : TypeId} {fu : Bool} {es : List (List AVal)} (h : getO H id = .cells q k t fu es) :
    CPX false d rt E s H (.row id q off len) ↔ ∀ m : Nat, (fu = true → m = 0) → E ⟨some d, rt, [], [], H.length, 0⟩ ((d, .int .i64 ((es.length : Int) + m - off)) :: s) (H.set id (.cells q k t true (es ++ List.replicate m (List.replicate k .undef)))) := by
  unfold CPX CP
  simp only [h, true_and]

def mksV (d : Nat) (t : TypeId) (k bytes : Nat) (zs : List AVal) (f : Nat) (x y : AVal) : Option Eff :=
  match x, y with
  | .int _ m, .int _ m' => if m' = m ∧ 0 ≤ m ∧ m * bytes ≤ 140737488355328 ∧ zs.length = k ∧ 0 < k ∧ 0 < bytes then
      some ⟨some d, .row f 0 0 m.toNat, [], [], [.cells 0 k t true (List.replicate m.toNat zs)]⟩ else none
  | _, _ => none
theorem X_mks {t : TypeId} {k bytes : Nat} {zs : List AVal} {x y : SO} : OpX P n m0 dr (.mks d t k bytes zs x y) rt E s H ↔ oe rt E s H (mksV d t k bytes zs H.length (ev (get s) x) (ev (get s) y)) := by
  show (∃ e, astep (.mks d t k bytes zs x y) (S s H) H.length = some e ∧ _) ↔ _
  have : astep (.mks d t k bytes zs x y) (S s H) H.length = mksV d t k bytes zs H.length (ev (get s) x) (ev (get s) y) := by
    simp only [astep, S, mksV]
    cases ev (get s) x <;> cases ev (get s) y <;> rfl
  rw [this]
  exact Iff.rfl
theorem mksV_int {t : TypeId} {k bytes f : Nat} {zs : List AVal} {q q' : IntKind} {m m' : Int} : mksV d t k bytes zs f (.int q m) (.int q' m') = if m' = m ∧ 0 ≤ m ∧ m * bytes ≤ 140737488355328 ∧ zs.length = k ∧ 0 < k ∧ 0 < bytes then
      some ⟨some d, .row f 0 0 m.toNat, [], [], [.cells 0 k t true (List.replicate m.toNat zs)]⟩ else none := rfl

theorem X_mkm : OpX P n m0 dr (.mkm d) rt E s H ↔ E ⟨some d, rt, [], [], H.length, 1⟩ ((d, .map H.length) :: s) (H ++ [.map []]) := by
  show (∃ e, some _ = some e ∧ _) ↔ _
  constructor
  · rintro ⟨e, he, h⟩
    injection he with he; subst he
    simpa [Eff.ss, Eff.hh, putS, setAll] using h
  · intro h
    exact ⟨_, rfl, by simpa [Eff.ss, Eff.hh, putS, setAll] using h⟩

def mstV (h : Nat → AObj) (m k x : AVal) : Option Eff :=
  match m, k with
  | .map id, .int .i64 q => match h id with
    | .map es => if x.flat then some ⟨none, .undef, [id], [(id, .map (mapSet es q x))], []⟩ else none
    | _ => none
  | _, _ => none
theorem X_mst {m k x : SO} : OpX P n m0 dr (.mst m k x) rt E s H ↔ oe rt E s H (mstV (getO H) (ev (get s) m) (ev (get s) k) (ev (get s) x)) := by
  show (∃ e, astep (.mst m k x) (S s H) H.length = some e ∧ _) ↔ _
  have : astep (.mst m k x) (S s H) H.length = mstV (getO H) (ev (get s) m) (ev (get s) k) (ev (get s) x) := by
    simp only [astep, S, mstV]
    cases ev (get s) m <;> rfl
  rw [this]
  exact Iff.rfl
def mgtV (h : Nat → AObj) (m k z : AVal) (ok : Bool) : Option (AVal × List Nat) :=
  match m, k with
  | .map id, .int .i64 q => match h id with
    | .map es => match mapGet es q with
      | some c => some (if ok then .tup [c, .bool true] else c, [id])
      | none => some (if ok then .tup [z, .bool false] else z, [id])
    | _ => none
  | _, _ => none
theorem X_mgt {m k : SO} {z : AVal} {ok : Bool} : OpX P n m0 dr (.mgt d m k z ok) rt E s H ↔ ov d rt E s H (mgtV (getO H) (ev (get s) m) (ev (get s) k) z ok) :=
  opx_val rfl (by
    simp only [astep, S, mgtV]
    cases ev (get s) m <;> try rfl
    rename_i id
    cases ev (get s) k <;> try rfl
    rename_i q a
    cases q <;> try rfl
    simp only
    cases getO H id <;> try rfl
    rename_i es
    simp only
    cases mapGet es a <;> rfl)
/-- What a map holds at a key. -/
def mapAt (es : List (Int × AVal)) (q : Int) (z : AVal) : AVal := (mapGet es q).getD z
def slc3V (h : Nat → AObj) (k : Nat) (x : AVal) (lo : Option Int) (hi : Nat → Option Int) (mx : Nat → Option Int) : Option (AVal × List Nat) :=
  match lenOf x with
  | some m => match hi m, mx m with
    | some h', some m' => if h' ≤ m' then
        match slcOf h k x lo (some h') true, slcOf h k x (some 0) (some m') true with
        | some (_, rd), some (_, rd') => some (if m' = 0 then .emp else .undef, rd ++ rd')
        | _, _ => none
      else none
    | _, _ => none
  | none => none
theorem X_slc3 {k : Nat} {x mx : SO} {lo hi : Option SO} : OpX P n m0 dr (.slc d k x lo hi (some mx)) rt E s H ↔ ov d rt E s H (slc3V (getO H) k (ev (get s) x) (bound (get s) lo 0) (bound (get s) hi) (bound (get s) (some mx))) :=
  opx_val rfl (by
    simp only [astep, S, slc3V]
    cases lenOf (ev (get s) x) with
    | none => rfl
    | some m =>
      simp only
      cases bound (get s) hi m <;> try rfl
      cases bound (get s) (some mx) m <;> try rfl
      rename_i h' m'
      simp only
      cases slcOf (getO H) k (ev (get s) x) (bound (get s) lo 0) (some h') true <;> cases slcOf (getO H) k (ev (get s) x) (some 0) (some m') true <;> split <;> rfl)

/-- A guard is taken apart. -/
theorem GX_split {b want : Bool} {o : SOp} (hd : dstG o = some od) : GX P n m0 dr (.bool b) want od o rt E s H ↔ (b = want → OpX P n m0 dr o rt E s H) ∧ (b = (!want) → E ⟨od, rt, [], [], H.length, 0⟩ (putS od (.tup []) s) H) := by
  unfold GX
  simp only [hd, true_and, AVal.bool.injEq, reduceCtorEq, or_false]
  cases b <;> cases want <;> simp
end

theorem ltL_append {m : Nat} : ∀ (xs ys : List AVal), ltL m (xs ++ ys) = (ltL m xs && ltL m ys)
  | [], ys => by simp [ltL]
  | x :: xs, ys => by simp only [List.cons_append, ltL, ltL_append xs ys, Bool.and_assoc]

section
variable {P : Program} {n m0 : Nat} {dr : Bool} {rt : List Nat} {E : Lg → Slots → Heap → Prop} {s : Slots} {H : Heap}

/-- A call that looks at objects, and changes none; its result leads to none. -/
theorem CX_rd (ρ : List Nat) {d : Option Nat} {f : SO} {xs : List SO} {g : FuncId} {first caps cargs : List AVal} {Hc : Heap} {r : AVal} (hA : ACalls P g cargs Hc r Hc)
    (hf : ev (get s) f = .func g first caps) (hargs : renL (rho ρ Hc.length H.length) cargs = first ++ evs (get s) xs ++ caps) (hlt : ltL Hc.length cargs = true) (hltH : Hc.all (ltO Hc.length) = true)
    (hρ : ρ.length = Hc.length) (hnd : ρ.Nodup) (hb : (ρ.all fun x => decide (x < H.length)) = true) (hobj : ρ.map (getO H) = Hc.map (renO (rho ρ Hc.length H.length))) (hr : ltv 0 r = true)
    (hE : E ⟨d, rt, ρ, [], H.length, 0⟩ (putS d r s) H) : CX P n m0 dr d f xs rt E s H := by
  refine CX_gen (cargs := cargs) (Hc := Hc) (Hc' := Hc) (rv := r) ρ [] hf hargs hlt hltH hρ hnd (fun x hx => of_decide_eq_true (List.all_eq_true.1 hb x hx)) (fun j hj => ?_) hA (Nat.le_refl _) (fun j hj _ => rfl) (by simp) ?_
  · have h1 : (ρ.map (getO H))[j]? = (Hc.map (renO (rho ρ Hc.length H.length)))[j]? := by rw [hobj]
    have hj' : j < ρ.length := by omega
    rw [List.getElem?_map, List.getElem?_map, List.getElem?_eq_getElem hj', List.getElem?_eq_getElem hj] at h1
    simp only [Option.map_some, Option.some.injEq] at h1
    simp only [List.getD, getO, List.getElem?_eq_getElem hj', List.getElem?_eq_getElem hj, Option.getD_some] at h1 ⊢
    exact h1
  · have e1 : (callEff d ρ Hc.length H.length [] r Hc).ss s = putS d r s := by
      simp only [callEff, Eff.ss]
      rw [ren_lt (m := 0) (fun id h => by omega) r hr]
    have e2 : (callEff d ρ Hc.length H.length [] r Hc).hh H = H := by simp [callEff, Eff.hh, setAll]
    rw [e1, e2]
    simpa using hE

/-- A call that is given all objects, and changes none. -/
theorem CX_self {d : Option Nat} {f : SO} {xs : List SO} {g : FuncId} {first caps args : List AVal} {r : AVal} (hA : ACalls P g args H r H) (hf : ev (get s) f = .func g first caps) (hargs : first ++ evs (get s) xs ++ caps = args)
    (hl : ltL H.length args = true) (hr : ltv H.length r = true) (hHc : H.all (ltO H.length) = true) (hE : E ⟨d, rt, List.range H.length, [], H.length, 0⟩ (putS d r s) H) : CX P n m0 dr d f xs rt E s H := by
  have h := CX_read (P := P) (n := n) (m0 := m0) (dr := dr) (rt := rt) (E := E) (s := s) (T := []) hA hf hargs hl hr hHc (by rw [List.append_nil]; exact hE)
  rwa [List.append_nil] at h
end

section
variable {P : Program} {n m0 : Nat} {s s' : Slots} {H T : Heap}

theorem wks_of {s : Slots} : ∀ {s' : Slots}, (s'.map fun p => get s p.1) = s'.map (·.2) → ∀ p ∈ s', Wk (get s p.1) p.2
  | [], _, p, hp => by cases hp
  | q :: s', h, p, hp => by
    simp only [List.map_cons, List.cons.injEq] at h
    rcases List.mem_cons.1 hp with e | e
    · subst e; rw [h.1]; exact .refl _
    · exact wks_of h.2 p e

/-- Back at a loop's head: slots that are told as they are; the last objects are let go. -/
theorem Lp.bk (T : Heap) {Q : St → Prop} {c : SC} {k : List It} (L : Lp P n m0 Q c k s' H) (h : (s'.map fun p => get s p.1) = s'.map (·.2)) (hs : (s'.all fun p => ltv H.length p.2) = true) (hH : H.all (ltO H.length) = true) (hm : m0 ≤ H.length) :
    Lp P n m0 Q c k s (H ++ T) :=
  Lp.gs (Gs_slots (wks_of h)) (Lp.gs (Gs_drop hm (fun p hp => (List.all_eq_true.1 hs) p hp) hH) L)
theorem Lp.bk0 {Q : St → Prop} {c : SC} {k : List It} (L : Lp P n m0 Q c k s' H) (h : (s'.map fun p => get s p.1) = s'.map (·.2)) : Lp P n m0 Q c k s H := Lp.gs (Gs_slots (wks_of h)) L
end

section
variable {P : Program} {n m0 : Nat} {s s' : Slots} {H T : Heap}
theorem Lp.bkE (T : Heap) {c : SC} {k : List It} {rs : List RS} {r r' : AVal} {H' : Heap} (L : Lp P n m0 (Ret rs m0 r' H') c k s' H) (h : (s'.map fun p => get s p.1) = s'.map (·.2)) (hs : (s'.all fun p => ltv H.length p.2) = true) (hH : H.all (ltO H.length) = true) (hm : m0 ≤ H.length) (e : r' = r) :
    Lp P n m0 (Ret rs m0 r H') c k s (H ++ T) := by subst e; exact Lp.bk T L h hs hH hm
theorem Lp.bkE0 {c : SC} {k : List It} {rs : List RS} {r r' : AVal} {H' : Heap} (L : Lp P n m0 (Ret rs m0 r' H') c k s' H) (h : (s'.map fun p => get s p.1) = s'.map (·.2)) (e : r' = r) : Lp P n m0 (Ret rs m0 r H') c k s H := by subst e; exact Lp.bk0 L h
end

/-- A step over a list, at its head. -/
theorem rg_hd {α : Type} {L done rest : List α} {c : α} (f : α → List AVal) (hd : L = done ++ c :: rest) (hL : L.length < 2 ^ 62) :
    decide ((done.length : Int) < (L.length : Int)) = true ∧ (L.map f)[done.length]? = some (f c) ∧ IntKind.i64.wrap ((done.length : Int) + 1) = ((done ++ [c]).length : Int) ∧ L = (done ++ [c]) ++ rest := by
  subst hd
  refine ⟨by simp; omega, by simp, ?_, by simp⟩
  simp only [List.length_append, List.length_cons] at hL
  rw [wrap_succ (by omega)]
  simp
theorem rg_end {α : Type} {L done : List α} (hd : L = done ++ []) : decide ((done.length : Int) < (L.length : Int)) = false := by
  subst hd; simp
/-- The element before. -/
theorem rg_prev {α : Type} {L ds rest : List α} {p : α} (f : α → List AVal) (hd : L = (ds ++ [p]) ++ rest) (hL : L.length < 2 ^ 62) :
    decide ((0 : Int) < ((ds ++ [p]).length : Int)) = true ∧ IntKind.i64.wrap (((ds ++ [p]).length : Int) - 1) = (ds.length : Int) ∧ (L.map f)[ds.length]? = some (f p) := by
  subst hd
  refine ⟨by simp, ?_, by simp⟩
  simp only [List.length_append, List.length_cons, List.length_nil] at hL ⊢
  exact wrap_pred (by omega)
theorem rg_prev' {α : Type} {L done ds rest : List α} {p : α} (f : α → List AVal) (hd : L = done ++ rest) (h0 : done = ds ++ [p]) (hL : L.length < 2 ^ 62) :
    decide ((0 : Int) < (done.length : Int)) = true ∧ IntKind.i64.wrap ((done.length : Int) - 1) = (ds.length : Int) ∧ (L.map f)[ds.length]? = some (f p) ∧ done.getLast? = some p := by
  subst h0
  obtain ⟨a, b, c⟩ := rg_prev f hd hL
  exact ⟨a, b, c, by simp⟩
theorem rg_first' {α : Type} {done : List α} (h0 : done = []) : decide ((0 : Int) < (done.length : Int)) = false ∧ done.getLast? = none := by subst h0; exact ⟨rfl, rfl⟩
theorem rg_first {α : Type} : decide ((0 : Int) < (([] : List α).length : Int)) = false := rfl

section
variable {P : Program} {n m0 : Nat} {dr : Bool} {d : Nat} {od : Option Nat} {rt : List Nat} {E : Lg → Slots → Heap → Prop} {s : Slots} {H : Heap}

theorem Eff_ss {v : AVal} {rd : List Nat} {wr : List (Nat × AObj)} {nw : List AObj} : Eff.ss ⟨od, v, rd, wr, nw⟩ s = putS od v s := rfl
theorem Eff_hh {v : AVal} {rd : List Nat} {wr : List (Nat × AObj)} {nw : List AObj} : Eff.hh ⟨od, v, rd, wr, nw⟩ H = setAll wr H ++ nw := rfl
theorem setAll_nil : setAll [] H = H := rfl
theorem setAll_cons {i : Nat} {o : AObj} {wr : List (Nat × AObj)} : setAll ((i, o) :: wr) H = (setAll wr H).set i o := rfl

/-- An object's contents, at a stamp. -/
def objO (o : AObj) (q : Nat) : Option (Nat × TypeId × Bool × List (List AVal)) :=
  match o with
  | .cells q' k t fu es => if q' = q then some (k, t, fu, es) else none
  | _ => none
theorem obj_getO {id q : Nat} : obj (getO H) id q = objO (getO H id) q := rfl
theorem objO_cells {q k : Nat} {t : TypeId} {fu : Bool} {es : List (List AVal)} : objO (.cells q k t fu es) q = some (k, t, fu, es) := by simp [objO]

def iaR (o : Option (Nat × TypeId × Bool × List (List AVal))) (k id q off len : Nat) (m : Int) : Option (AVal × List Nat) :=
  match o with
  | some (k', _, _, _) => if k' = k ∧ 0 ≤ m ∧ m < len then some (.ptr id q (off + m.toNat) 0, [id]) else none
  | none => none
theorem iaV_row {k id q off len : Nat} {kk : IntKind} {m : Int} : iaV (getO H) k (.row id q off len) (.int kk m) = iaR (objO (getO H id) q) k id q off len m := rfl
theorem iaR_some {k' k id q off len : Nat} {t : TypeId} {fu : Bool} {es : List (List AVal)} {m : Int} : iaR (some (k', t, fu, es)) k id q off len m = if k' = k ∧ 0 ≤ m ∧ m < len then some (.ptr id q (off + m.toNat) 0, [id]) else none := rfl

theorem conts_nil {h : Nat → AObj} {k : Nat} : conts h k .nil = some ([], []) := rfl
theorem conts_emp {h : Nat → AObj} {k : Nat} : conts h k .emp = some ([], []) := rfl
theorem conts_sl {h : Nat → AObj} {k : Nat} {xs : List (List AVal)} : conts h k (.sl k xs) = some (xs, []) := by simp [conts]
def contsR (o : Option (Nat × TypeId × Bool × List (List AVal))) (k id off len : Nat) : Option (List (List AVal) × List Nat) :=
  match o with
  | some (k', _, _, es) => if k' = k then some ((es.drop off).take len, [id]) else none
  | none => none
theorem conts_row {k id q off len : Nat} : conts (getO H) k (.row id q off len) = contsR (objO (getO H id) q) k id off len := by
  simp only [conts, obj_getO, contsR]
  cases objO (getO H id) q <;> rfl
theorem contsR_some {k id off len : Nat} {t : TypeId} {fu : Bool} {es : List (List AVal)} : contsR (some (k, t, fu, es)) k id off len = some ((es.drop off).take len, [id]) := by simp [contsR]

theorem appOf_nil {t : TypeId} {k bytes f : Nat} {h : Nat → AObj} {ys : List (List AVal)} {rd : List Nat} :
    appOf d t k bytes h f .nil ys rd = if ys.length * bytes ≤ 140737488355328 then some ⟨some d, .row f 0 0 ys.length, rd, [], [.cells 0 k t false ys]⟩ else none := rfl
theorem appOf_emp {t : TypeId} {k bytes f : Nat} {h : Nat → AObj} {ys : List (List AVal)} {rd : List Nat} :
    appOf d t k bytes h f .emp ys rd = if ys.length * bytes ≤ 140737488355328 then some ⟨some d, .row f 0 0 ys.length, rd, [], [.cells 0 k t false ys]⟩ else none := rfl
theorem slcOf_sl {h : Nat → AObj} {k : Nat} {xs : List (List AVal)} {l hi : Int} : slcOf h k (.sl k xs) (some l) (some hi) false = if 0 ≤ l ∧ l ≤ hi ∧ hi ≤ xs.length then some (.sl k ((xs.take hi.toNat).drop l.toNat), []) else none := by
  simp only [slcOf, true_and]
  by_cases h1 : 0 ≤ l ∧ l ≤ hi <;> by_cases h2 : hi ≤ xs.length <;> simp [h1, h2] <;> omega
theorem slcOf_nil {h : Nat → AObj} {k : Nat} {l hi : Int} : slcOf h k .nil (some l) (some hi) false = if 0 ≤ l ∧ l ≤ hi ∧ hi = 0 then some (.nil, []) else none := by
  simp only [slcOf]
  by_cases h1 : 0 ≤ l ∧ l ≤ hi <;> by_cases h2 : hi = 0 <;> simp [h1, h2] <;> omega
theorem slcOf_emp {h : Nat → AObj} {k : Nat} {l hi : Int} : slcOf h k .emp (some l) (some hi) false = if 0 ≤ l ∧ l ≤ hi ∧ hi = 0 then some (.emp, []) else none := by
  simp only [slcOf]
  by_cases h1 : 0 ≤ l ∧ l ≤ hi <;> by_cases h2 : hi = 0 <;> simp [h1, h2] <;> omega
def slcR (o : Option (Nat × TypeId × Bool × List (List AVal))) (k id q off : Nat) (l hi : Int) : Option (AVal × List Nat) :=
  match o with
  | some (k', _, _, es) => if 0 ≤ l ∧ l ≤ hi ∧ k' = k ∧ off + hi ≤ es.length then some (.row id q (off + l.toNat) (hi.toNat - l.toNat), [id]) else none
  | none => none
theorem slcOf_row {k id q off len : Nat} {l hi : Int} : slcOf (getO H) k (.row id q off len) (some l) (some hi) false = slcR (objO (getO H id) q) k id q off l hi := by
  simp only [slcOf, obj_getO, slcR]
  by_cases h1 : 0 ≤ l ∧ l ≤ hi
  · rw [if_pos h1]
    cases objO (getO H id) q with
    | none => rfl
    | some y =>
      obtain ⟨k', t, fu, es⟩ := y
      simp only [Bool.false_eq_true, if_false]
      by_cases h2 : k' = k ∧ off + hi ≤ es.length
      · rw [if_pos h2, if_pos ⟨h1.1, h1.2, h2⟩]
      · rw [if_neg h2, if_neg (fun h => h2 h.2.2)]
  · rw [if_neg h1]
    cases objO (getO H id) q with
    | none => rfl
    | some y =>
      obtain ⟨k', t, fu, es⟩ := y
      exact (if_neg (fun h => h1 ⟨h.1, h.2.1⟩)).symm
theorem slcR_some {k' k id q off : Nat} {t : TypeId} {fu : Bool} {es : List (List AVal)} {l hi : Int} : slcR (some (k', t, fu, es)) k id q off l hi = if 0 ≤ l ∧ l ≤ hi ∧ k' = k ∧ off + hi ≤ es.length then some (.row id q (off + l.toNat) (hi.toNat - l.toNat), [id]) else none := rfl
theorem slcV_row {k id q off len : Nat} {lo : Option Int} {hi : Nat → Option Int} {h : Nat → AObj} : slcV h k (.row id q off len) lo hi = slcOf h k (.row id q off len) lo (hi len) false := rfl
theorem slcV_sl {k k' : Nat} {xs : List (List AVal)} {lo : Option Int} {hi : Nat → Option Int} {h : Nat → AObj} : slcV h k (.sl k' xs) lo hi = slcOf h k (.sl k' xs) lo (hi xs.length) false := rfl
theorem slcV_nil {k : Nat} {lo : Option Int} {hi : Nat → Option Int} {h : Nat → AObj} : slcV h k .nil lo hi = slcOf h k .nil lo (hi 0) false := rfl
theorem slcV_emp {k : Nat} {lo : Option Int} {hi : Nat → Option Int} {h : Nat → AObj} : slcV h k .emp lo hi = slcOf h k .emp lo (hi 0) false := rfl
theorem bound_none {s : Nat → AVal} {m : Nat} : bound s none m = some (m : Int) := rfl
def boundV (v : AVal) : Option Int :=
  match v with
  | .int _ n => some n
  | _ => none
theorem bound_some {s : Nat → AVal} {x : SO} {m : Nat} : bound s (some x) m = boundV (ev s x) := rfl
theorem boundV_int {k : IntKind} {m : Int} : boundV (.int k m) = some m := rfl

theorem kindOf_nil : kindOf .nil = 1 := rfl
theorem kindOf_emp : kindOf .emp = 1 := rfl
theorem kindOf_sl {k : Nat} {xs : List (List AVal)} : kindOf (.sl k xs) = 1 := rfl
theorem kindOf_row {id q off len : Nat} : kindOf (.row id q off len) = 1 := rfl
theorem kindOf_func {f : FuncId} {as bs : List AVal} : kindOf (.func f as bs) = 2 := rfl
theorem kindOf_nfunc : kindOf .nfunc = 2 := rfl
theorem kindOf_ptr {id q i o : Nat} : kindOf (.ptr id q i o) = 3 := rfl
theorem kindOf_iptr {cs : List AVal} {o : Nat} : kindOf (.iptr cs o) = 3 := rfl
theorem kindOf_nptr : kindOf .nptr = 3 := rfl
theorem nilOf_nil {h : Nat → AObj} : nilOf h .nil = some (true, []) := rfl
theorem nilOf_nptr {h : Nat → AObj} : nilOf h .nptr = some (true, []) := rfl
theorem nilOf_nfunc {h : Nat → AObj} : nilOf h .nfunc = some (true, []) := rfl
theorem nilOf_ptr {h : Nat → AObj} {id q i o : Nat} : nilOf h (.ptr id q i o) = some (false, []) := rfl
theorem nilOf_iptr {h : Nat → AObj} {cs : List AVal} {o : Nat} : nilOf h (.iptr cs o) = some (false, []) := rfl
theorem nilOf_func {h : Nat → AObj} {f : FuncId} {as bs : List AVal} : nilOf h (.func f as bs) = some (false, []) := rfl
theorem nilOf_sl {h : Nat → AObj} {k : Nat} : nilOf h (.sl k []) = none := rfl
theorem nilOf_emp {h : Nat → AObj} : nilOf h .emp = none := rfl
theorem nilOf_slc {h : Nat → AObj} {k : Nat} {x : List AVal} {xs : List (List AVal)} : nilOf h (.sl k (x :: xs)) = some (false, []) := rfl
end
theorem wrap_ok {m : Int} (h1 : -9223372036854775808 ≤ m) (h2 : m ≤ 9223372036854775807) : IntKind.i64.wrap m = m := by rw [IntKind.wrap_i64]; omega
section
variable {n m0 : Nat} {s : Slots} {H : Heap}
/-- A return that leaves the heap as it is. -/
theorem Rt_all {rs : List RS} {r : AVal} (hret : retO (S s H) rs = some r) (hl : ltv H.length r = true) (hH : H.all (ltO H.length) = true) (hm : m0 ≤ H.length) : Rt n m0 (Ret rs m0 r H) s H := by
  have := Rt_pre (n := n) (m0 := m0) (s := s) (rs := rs) (r := r) (H' := H) (T := []) hm (by rw [List.append_nil]; exact hret) hl hH
  rwa [List.append_nil] at this
/-- A return: the last objects are let go. -/
theorem Rt_T (T : Heap) {rs : List RS} {r : AVal} (hret : retO (S s (H ++ T)) rs = some r) (hl : ltv H.length r = true) (hH : H.all (ltO H.length) = true) (hm : m0 ≤ H.length) : Rt n m0 (Ret rs m0 r H) s (H ++ T) :=
  Rt_pre hm hret hl hH
end

section
variable {H : Heap}
def mgtO (o : AObj) (id : Nat) (q : Int) (z : AVal) (ok : Bool) : Option (AVal × List Nat) :=
  match o with
  | .map es => some (if ok then .tup [mapAt es q z, .bool (mapGet es q).isSome] else mapAt es q z, [id])
  | _ => none
theorem mgtV_int {id : Nat} {q : Int} {z : AVal} {ok : Bool} : mgtV (getO H) (.map id) (.int .i64 q) z ok = mgtO (getO H id) id q z ok := by
  simp only [mgtV, mgtO, mapAt]
  cases getO H id <;> try rfl
  rename_i es
  simp only
  cases mapGet es q <;> rfl
theorem mgtO_f {id : Nat} {q : Int} {z : AVal} {es : List (Int × AVal)} : mgtO (.map es) id q z false = some (mapAt es q z, [id]) := rfl
theorem mgtO_t {id : Nat} {q : Int} {z : AVal} {es : List (Int × AVal)} : mgtO (.map es) id q z true = some (.tup [mapAt es q z, .bool (mapGet es q).isSome], [id]) := rfl
def mstO (o : AObj) (id : Nat) (q : Int) (x : AVal) : Option Eff :=
  match o with
  | .map es => if x.flat then some ⟨none, .undef, [id], [(id, .map (mapSet es q x))], []⟩ else none
  | _ => none
theorem mstV_int {id : Nat} {q : Int} {x : AVal} : mstV (getO H) (.map id) (.int .i64 q) x = mstO (getO H id) id q x := rfl
theorem mstO_map {id : Nat} {q : Int} {x : AVal} {es : List (Int × AVal)} : mstO (.map es) id q x = if x.flat then some ⟨none, .undef, [id], [(id, .map (mapSet es q x))], []⟩ else none := rfl
theorem mapSet_nil {q : Int} {x : AVal} : mapSet [] q x = [(q, x)] := rfl
theorem mapSet_cons {q m : Int} {x y : AVal} {es : List (Int × AVal)} : mapSet ((m, y) :: es) q x = if m = q then (q, x) :: es else (m, y) :: mapSet es q x := rfl
theorem mapAt_nil {q : Int} {z : AVal} : mapAt [] q z = z := rfl
theorem mapAt_cons {q m : Int} {y z : AVal} {es : List (Int × AVal)} : mapAt ((m, y) :: es) q z = if m = q then y else mapAt es q z := by
  simp only [mapAt, mapGet]
  split <;> rfl
theorem mapGet_nil {q : Int} : mapGet [] q = none := rfl
theorem mapGet_cons {q m : Int} {y : AVal} {es : List (Int × AVal)} : mapGet ((m, y) :: es) q = if m = q then some y else mapGet es q := rfl
end
/-- A set of numbers, as a map. -/
theorem set_at {α : Type} (f : α → Int) (q : Int) : ∀ (l : List α), mapAt (l.map fun x => (f x, .bool true)) q (.bool false) = .bool (l.any fun x => decide (f x = q))
  | [] => rfl
  | x :: l => by
    rw [List.map_cons, mapAt_cons, set_at f q l]
    by_cases h : f x = q <;> simp [h]
theorem set_set {α : Type} (f : α → Int) (q : Int) : ∀ (l : List α), (l.any fun x => decide (f x = q)) = false → mapSet (l.map fun x => (f x, .bool true)) q (.bool true) = (l.map fun x => (f x, .bool true)) ++ [(q, .bool true)]
  | [], _ => rfl
  | x :: l, h => by
    simp only [List.any_cons, Bool.or_eq_false_iff, decide_eq_false_iff_not] at h
    rw [List.map_cons, mapSet_cons, if_neg h.1, set_set f q l h.2]
    rfl

section
variable {P : Program} {n m0 : Nat} {dr : Bool} {rt : List Nat} {E : Lg → Slots → Heap → Prop} {s : Slots} {H : Heap}

theorem GX_call {b want : Bool} {d : Nat} {f : SO} {xs : List SO} {g : FuncId} {first caps args : List AVal} {r : AVal} (hA : b = want → ACalls P g args [] r []) (hf : ev (get s) f = .func g first caps)
    (hargs : b = want → first ++ evs (get s) xs ++ caps = args) (hl : ltL 0 args = true) (hr : ltv 0 r = true) (hE : E ⟨some d, rt, [], [], H.length, 0⟩ ((d, if b = want then r else .tup []) :: s) H) :
    GX P n m0 dr (.bool b) want (some d) (.call (some d) f xs) rt E s H := by
  unfold GX
  by_cases h : b = want
  · refine ⟨rfl, .inl ⟨by rw [h], CX_pure (hA h) hf (hargs h) hl hr ?_⟩⟩
    rw [if_pos h] at hE
    exact hE
  · refine ⟨rfl, .inr ⟨.inl ?_, ?_⟩⟩
    · cases b <;> cases want <;> simp at h ⊢
    · rw [if_neg h] at hE
      exact hE
end
section
variable {H : Heap}
/-- append to a row that begins at its object's head. -/
def appO (d : Nat) (t : TypeId) (k bytes f : Nat) (o : AObj) (id q m : Nat) (ys : List (List AVal)) (rd : List Nat) : Option Eff :=
  match o with
  | .cells q' k' t' fu es => if q' = q ∧ k' = k ∧ t' = t ∧ m ≤ es.length ∧ (m + ys.length) * bytes ≤ 140737488355328 then
      if m = es.length then some ⟨some d, .row id (q + 1) 0 (m + ys.length), id :: rd, [(id, .cells (q + 1) k t false (es ++ ys))], []⟩
      else if m + ys.length ≤ es.length then some ⟨some d, .row id q 0 (m + ys.length), id :: rd, [(id, .cells q k t fu (es.take m ++ ys ++ es.drop (m + ys.length)))], []⟩
      else if fu = true then some ⟨some d, .row f 0 0 (m + ys.length), id :: rd, [], [.cells 0 k t false (es.take m ++ ys)]⟩
      else some ⟨some d, .row id (q + 1) 0 (m + ys.length), id :: rd, [(id, .cells (q + 1) k t false (es.take m ++ ys))], []⟩
    else none
  | _ => none
theorem appOf_row {d : Nat} {t : TypeId} {k bytes f id q m : Nat} {ys : List (List AVal)} {rd : List Nat} : appOf d t k bytes (getO H) f (.row id q 0 m) ys rd = appO d t k bytes f (getO H id) id q m ys rd := by
  simp only [appOf, obj_getO, appO]
  cases getO H id <;> try rfl
  rename_i q' k' t' fu es
  simp only [objO]
  by_cases hq : q' = q
  · subst hq
    by_cases hk : k' = k <;> by_cases ht : t' = t <;> simp [hk, ht]
  · simp [hq]
theorem appO_cells {d : Nat} {t : TypeId} {k bytes f id q m : Nat} {fu : Bool} {es ys : List (List AVal)} {rd : List Nat} : appO d t k bytes f (.cells q k t fu es) id q m ys rd = if m ≤ es.length ∧ (m + ys.length) * bytes ≤ 140737488355328 then
      if m = es.length then some ⟨some d, .row id (q + 1) 0 (m + ys.length), id :: rd, [(id, .cells (q + 1) k t false (es ++ ys))], []⟩
      else if m + ys.length ≤ es.length then some ⟨some d, .row id q 0 (m + ys.length), id :: rd, [(id, .cells q k t fu (es.take m ++ ys ++ es.drop (m + ys.length)))], []⟩
      else if fu = true then some ⟨some d, .row f 0 0 (m + ys.length), id :: rd, [], [.cells 0 k t false (es.take m ++ ys)]⟩
      else some ⟨some d, .row id (q + 1) 0 (m + ys.length), id :: rd, [(id, .cells (q + 1) k t false (es.take m ++ ys))], []⟩
    else none := by simp [appO]
end
attribute [go_sem] V_nil V_skip V_ret V_seq V_block V_blk V_loop V_again V_exit Vx_some exitIt_code exitIt_again exitIt_blk V_cond Vc_true Vc_false V_reg OX_nil OX_cons ign_app V_regD0 V_regDc OXd_nil OXd_cons DX_nil DX_cons DXn_app VD_app get_cons get_nil
attribute [go_sem] ev_t ev_c evs_nil evs_cons ov_some ov_none ov_ite_none v1_some v1_none v1_ite X_mv X_bin X_binB X_binS X_binA X_mn X_mx pickV_true pickV_false pickV_or pickV_and X_pick notV_bool X_not negV_int X_neg convV_int X_conv faV_ptr faV_iptr
attribute [go_sem] X_fa getO_cons_zero getO_cons_succ X_ia iaV_sl X_iaA X_ixS X_ld ldV_ptr ldV_iptr ldO_cells ldE_some ldF_some loadFrom_cell loadFrom_agg ldF_ite ow_some ow_none ow_ite X_st stV_ptr stO_cells stE_some on_some on_none on_ite X_box X_alc aggV_some X_bld
attribute [go_sem] bslV_some X_bsl X_len lenV_sl lenV_row lenV_nil lenV_emp lenV_str extV_tup X_ext nckV_ptr nckV_iptr nckV_func X_nck X_mkf X_binN BN_some X_slc X_slS X_strof oe_some oe_none oe_ite appC_some X_app X_cpy X_clr X_apz X_g GX_tt
attribute [go_sem] GX_ff GX_tf GX_ft GX_un dstG_mv dstG_pick dstG_bin dstG_binB dstG_binS dstG_binA dstG_binN dstG_binP dstG_not dstG_neg dstG_conv dstG_strof dstG_fa dstG_ia dstG_iaA dstG_ixS dstG_ld dstG_st dstG_box dstG_alc dstG_bld dstG_bsl dstG_slc dstG_slS dstG_len dstG_mn
attribute [go_sem] dstG_mx dstG_app dstG_apz dstG_cpy dstG_clr dstG_cap dstG_mks dstG_ext dstG_nck dstG_mkf dstG_mkm dstG_mst dstG_mgt dstG_call putS_some putS_none X_call binI_add binI_sub binI_mul binI_quo binI_rem binI_eql binI_neq binI_lss binI_leq binI_gtr binI_geq binI_shl binI_shr
attribute [go_sem] binI_and binI_or binI_xor binB_eql binB_neq binS_eql binS_neq binA_agg eqCells_nil eqCells_int eqCells_bool eqCells_str cells_agg cells_int cells_bool cells_str cells_nil cells_emp cells_sl cells_row cells_ptr cells_iptr cells_nptr cells_func cells_nfunc cells_map flat_agg flat_int flat_bool flat_str
attribute [go_sem] flat_nil flat_emp flat_sl flat_row flat_ptr flat_iptr flat_nptr flat_func flat_nfunc flat_map fillA_nil fillA_cons fillE_nil fillE_cons List.length_cons List.length_nil List.cons_append List.nil_append List.append_nil List.getElem?_cons_zero List.getElem?_cons_succ List.getElem?_nil Option.map_some Option.map_none List.drop_zero List.drop_succ_cons List.take_succ_cons List.take_zero List.take_nil List.drop_nil
attribute [go_sem] List.set_cons_zero List.set_cons_succ Nat.zero_add Nat.add_zero decide_true decide_false Bool.not_true Bool.not_false and_self false_implies true_implies true_and and_true Bool.false_eq_true if_true if_false gk_some gk_ft gk_tf gk_same gk_ite G_mv G_bin G_binB G_binS G_binA G_pick G_not G_conv G_fa
attribute [go_sem] G_ia G_iaA G_ixS G_ld G_len G_ext G_nck G_mkf binI_itel binI_iter binBool_itel binBool_iter binStr_itel binStr_iter binAgg_itel binAgg_iter notV_ite convV_ite faV_ite iaV_itel iaV_iter ldV_ite lenV_ite extV_ite GX_n1 GX_n2 GX_n3 GX_n4 gk_p1 gk_p2
attribute [go_sem] gk_p3 gk_p4 pickV_ite iteite Option.some.injEq X_fld fldV_agg G_fld dstG_fld X_cap CPX_nil CPX_emp X_mks mksV_int X_mkm X_mst X_mgt X_slc3 Eff_ss Eff_hh setAll_nil setAll_cons obj_getO objO_cells iaV_row iaR_some conts_nil conts_emp conts_sl conts_row
attribute [go_sem] contsR_some appOf_nil appOf_emp slcOf_sl slcOf_nil slcOf_emp slcOf_row slcR_some slcV_row slcV_sl slcV_nil slcV_emp bound_none bound_some boundV_int kindOf_nil kindOf_emp kindOf_sl kindOf_row kindOf_func kindOf_nfunc kindOf_ptr kindOf_iptr kindOf_nptr nilOf_nil nilOf_nptr nilOf_nfunc nilOf_ptr nilOf_iptr nilOf_func
attribute [go_sem] nilOf_sl nilOf_emp nilOf_slc Int.cast_ofNat_Int BN_none wrap_ok Bool.and_true Bool.and_false Bool.true_and Bool.false_and Bool.or_false Bool.or_true Bool.true_or Bool.false_or mgtV_int mgtO_f mgtO_t mstV_int mstO_map mapSet_nil mapSet_cons mapAt_nil mapAt_cons mapGet_nil mapGet_cons appOf_row appO_cells Nat.le_refl Nat.zero_le
theorem bnorm : type_of% (And.intro @Bool.and_eq_true (And.intro @Bool.or_eq_true (And.intro @Bool.and_eq_false_iff (And.intro @Bool.or_eq_false_iff (And.intro @Bool.not_eq_true' (And.intro @Bool.not_eq_false' (And.intro @decide_eq_true_eq (And.intro @decide_eq_false_iff_not (And.intro @Bool.not_eq_true @Bool.not_eq_false))))))))) := And.intro @Bool.and_eq_true (And.intro @Bool.or_eq_true (And.intro @Bool.and_eq_false_iff (And.intro @Bool.or_eq_false_iff (And.intro @Bool.not_eq_true' (And.intro @Bool.not_eq_false' (And.intro @decide_eq_true_eq (And.intro @decide_eq_false_iff_not (And.intro @Bool.not_eq_true @Bool.not_eq_false))))))))

/-- Cells hold closed values. -/
def Holds (w : World) (cs : List Value) (xs : List AVal) : Prop :=
  xs.length = cs.length ∧ ∀ (j : Nat) c u, xs[j]? = some c → cs[j]? = some u → CR w (fun b => b < w.heap.size) c u

theorem Holds.nil {w : World} : Holds w [] [] := ⟨rfl, fun j c u h => by simp at h⟩
theorem Holds.append {w : World} {cs cs' : List Value} {xs xs' : List AVal} (h : Holds w cs xs) (h' : Holds w cs' xs') : Holds w (cs ++ cs') (xs ++ xs') := by
  refine ⟨by simp [h.1, h'.1], fun j c u h1 h2 => ?_⟩
  by_cases hj : j < xs.length
  · rw [List.getElem?_append_left hj] at h1
    rw [List.getElem?_append_left (by rw [← h.1]; exact hj)] at h2
    exact h.2 j c u h1 h2
  · rw [List.getElem?_append_right (by omega)] at h1
    rw [List.getElem?_append_right (by rw [← h.1]; omega), ← h.1] at h2
    exact h'.2 _ c u h1 h2
theorem Holds.one {w : World} {c : AVal} {u : Value} (h : CR w (fun b => b < w.heap.size) c u) : Holds w [u] [c] := by
  refine ⟨rfl, fun j c' u' h1 h2 => ?_⟩
  cases j with
  | zero => simp at h1 h2; subst h1 h2; exact h
  | succ j => simp at h1

/-- A type's values read as those of a Lean type. -/
def Rd (P : Program) (t : TypeId) {α : Type} (en : α → List AVal) (ok : α → Prop) : Prop :=
  ∀ {H : Type} (enc : TypeId × Value → H) (w : World) (base : Nat) (spare : Nat → Bool) (held : Bool) (fuel : Nat) (cs : List Value) (x : DataW H × List MemPlace),
    DataW.trod enc P w base spare held fuel t cs = some x → ∃ v : α, ok v ∧ (en v).length = P.cellsOf t ∧ Holds w cs (en v)

theorem Rd.int {P : Program} {t : TypeId} {k : IntKind} (ht : P.underlying t = some (.int k)) (hc : P.cellsOf t = 1) : Rd P t (fun n : Int => [.int k n]) (fun n => (Lit.int k n).wf = true) := by
  intro H enc w base spare held fuel cs x h
  obtain ⟨n, rfl, _, hw⟩ := DataW.trod_int ht h
  exact ⟨n, hw, hc.symm, .one (.int k n)⟩

theorem Rd.bool {P : Program} {t : TypeId} (ht : P.underlying t = some .bool) (hc : P.cellsOf t = 1) : Rd P t (fun b : Bool => [.bool b]) (fun _ => True) := by
  intro H enc w base spare held fuel cs x h
  obtain ⟨b, rfl⟩ : ∃ b, cs = [.bool b] := by
    cases fuel with
    | zero => simp [DataW.trod] at h
    | succ n =>
      unfold DataW.trod at h
      rw [ht] at h
      split at h <;> simp_all
  exact ⟨b, trivial, hc.symm, .one (.bool b)⟩

theorem Rd.str {P : Program} {t : TypeId} (ht : P.underlying t = some .string) (hc : P.cellsOf t = 1) : Rd P t (fun s : ByteArray => [.str s]) (fun s => s.size ≤ maxLen) := by
  intro H enc w base spare held fuel cs x h
  obtain ⟨s, rfl, _, hs⟩ := DataW.trod_string ht h
  exact ⟨s, hs, hc.symm, .one (.str s)⟩

theorem Rd.slice {P : Program} {t e : TypeId} {α : Type} {en : α → List AVal} {ok : α → Prop} {k : Nat} (ht : P.underlying t = some (.slice e)) (hc : P.cellsOf t = 1) (hk : P.cellsOf e = k) (hk0 : 0 < k) (r : Rd P e en ok) :
    Rd P t (fun l : List α => [.sl k (l.map en)]) (fun l => (∀ v ∈ l, ok v) ∧ l.length ≤ maxLen) := by
  intro H enc w base spare held fuel cs x h
  rcases DataW.trod_slice ht h with ⟨rfl, _⟩ | ⟨a, len, cap, elems, rest, n, _, rfl, _, hb, hl, hm, hlen, hel, _⟩
  · exact ⟨[], ⟨by simp, by simp⟩, hc.symm, .one (.slz k none 0)⟩
  · -- the elements, one by one
    have each : ∀ i, i < len → ∃ v cs', ok v ∧ (en v).length = k ∧ w.cells? base (a.add (i * k)) k = some cs' ∧ Holds w cs' (en v) := by
      intro i hi
      have h1 := hel i hi
      rw [hk] at h1
      have h2 : elems[i]? = some elems[i] := List.getElem?_eq_getElem (by omega)
      rw [h2, Option.bind_eq_some_iff] at h1
      obtain ⟨cs', h3, h4⟩ := h1
      obtain ⟨v, v1, v2, v3⟩ := r enc w base spare held n cs' _ h4
      exact ⟨v, cs', v1, by rw [v2, hk], h3, v3⟩
    by_cases h0 : len = 0
    · subst h0
      exact ⟨[], ⟨by simp, by simp⟩, hc.symm, .one (.slz k (some a) cap)⟩
    · have hspot : a = ⟨a.block, a.off, none⟩ := by
        obtain ⟨v, cs', _, _, h3, _⟩ := each 0 (by omega)
        obtain ⟨_, h5, h6⟩ := World.cells?_some h3
        have h7 := h6 0 hk0
        rw [Nat.zero_mul] at h7
        have e1 : (a.add 0).add 0 = a := rfl
        rw [e1, List.getElem?_eq_getElem (by omega : 0 < cs'.length)] at h7
        unfold World.cell? at h7
        obtain ⟨b, o, s⟩ := a
        cases s with
        | none => rfl
        | some s =>
          split at h7
          · simp at h7
          · cases h7
      -- a list of them
      have list : ∀ m, m ≤ len → ∃ l : List α, l.length = m ∧ (∀ v ∈ l, ok v) ∧ (∀ v ∈ l, (en v).length = k) ∧ ∀ i v, l[i]? = some v → ∃ cs', w.cells? base (a.add (i * k)) k = some cs' ∧ Holds w cs' (en v) := by
        intro m
        induction m with
        | zero => intro _; exact ⟨[], rfl, by simp, by simp, by simp⟩
        | succ m ih =>
          intro hm
          obtain ⟨l, l1, l2, l2', l3⟩ := ih (by omega)
          obtain ⟨v, cs', v1, v2, v3, v4⟩ := each m (by omega)
          refine ⟨l ++ [v], by simp [l1], fun u hu => ?_, fun u hu => ?_, fun i u hi => ?_⟩
          · rcases List.mem_append.1 hu with h | h
            · exact l2 u h
            · simp at h; subst h; exact v1
          · rcases List.mem_append.1 hu with h | h
            · exact l2' u h
            · simp at h; subst h; exact v2
          · by_cases hlt : i < l.length
            · rw [List.getElem?_append_left hlt] at hi
              exact l3 i u hi
            · rw [List.getElem?_append_right (by omega)] at hi
              have : i = m := by
                have := (List.getElem?_eq_some_iff.1 hi).1
                simp at this; omega
              subst this
              rw [l1] at hi
              simp at hi
              subst hi
              exact ⟨cs', v3, v4⟩
      obtain ⟨l, l1, l2, l2', l3⟩ := list len (Nat.le_refl _)
      refine ⟨l, ⟨l2, by omega⟩, hc.symm, ?_⟩
      have hcell : ∀ (i : Nat) e (j : Nat) c, (l.map en)[i]? = some e → e[j]? = some c → ∃ u, w.cell? ⟨a.block, a.off + (i * k + j), none⟩ = some u ∧ CR w (fun b => b < w.heap.size) c u := by
        intro i e j c h1 h2
        rw [List.getElem?_map, Option.map_eq_some_iff] at h1
        obtain ⟨v, hv, rfl⟩ := h1
        obtain ⟨cs', q1, q2⟩ := l3 i v hv
        obtain ⟨_, q3, q4⟩ := World.cells?_some q1
        have hj : j < (en v).length := (List.getElem?_eq_some_iff.1 h2).1
        rw [l2' v (List.mem_of_getElem? hv)] at hj
        have q5 := q4 j hj
        rw [List.getElem?_eq_getElem (by omega : j < cs'.length)] at q5
        refine ⟨cs'[j], ?_, q2.2 j c _ h2 (List.getElem?_eq_getElem _)⟩
        rw [← q5, hspot, addr_add, addr_add, Nat.add_assoc]
      have hblock : a.block < w.heap.size := by
        obtain ⟨v, cs', _, v2, v3, _⟩ := each 0 (by omega)
        obtain ⟨_, q3, q4⟩ := World.cells?_some v3
        have q5 := q4 0 hk0
        rw [List.getElem?_eq_getElem (by omega : 0 < cs'.length), hspot, addr_add, addr_add] at q5
        unfold World.cell? at q5
        simp only at q5
        cases hb : w.heap[a.block]? with
        | none => rw [hb] at q5; cases q5
        | some o => exact (Array.getElem?_eq_some_iff.1 hb).1
      have main := CR.sl (w := w) (I := fun b => b < w.heap.size) k (l.map en) a.block a.off cap (fun i j => (w.cell? ⟨a.block, a.off + (i * k + j), none⟩).getD undef) hblock (by simp; omega)
        (fun e he => by obtain ⟨v, hv, rfl⟩ := List.mem_map.1 he; exact l2' v hv)
        (fun i e j c h1 h2 => by obtain ⟨u, u1, _⟩ := hcell i e j c h1 h2; simp [u1])
        (fun i e j c h1 h2 => by obtain ⟨u, u1, u2⟩ := hcell i e j c h1 h2; simpa [u1] using u2)
      rw [List.length_map, l1, ← hspot] at main
      exact .one main

/-- The fields of a struct, from an offset on. -/
def RdF (P : Program) (fs : List Field) (off : Nat) {α : Type} (en : α → List AVal) (ok : α → Prop) : Prop :=
  ∀ {H : Type} (enc : TypeId × Value → H) (w : World) (base : Nat) (spare : Nat → Bool) (held : Bool) (n : Nat) (cs : List Value), cs.length = off + (fs.map fun f => P.cellsOf f.type).sum →
    (∀ f ∈ fs, ∃ x, DataW.trod enc P w base spare held n f.type ((cs.drop f.offset).take (P.cellsOf f.type)) = some x) → ∃ v : α, ok v ∧ (en v).length + off = cs.length ∧ Holds w (cs.drop off) (en v)

theorem RdF.nil {P : Program} {off : Nat} : RdF P [] off (fun _ : Unit => []) (fun _ => True) := by
  intro H enc w base spare held n cs hl _
  simp at hl
  refine ⟨(), trivial, by simp [hl], ?_⟩
  rw [← hl, List.drop_length]
  exact .nil

theorem RdF.cons {P : Program} {f : Field} {fs : List Field} {off off' : Nat} {α β : Type} {en : α → List AVal} {ok : α → Prop} {en' : β → List AVal} {ok' : β → Prop} (ho : f.offset = off) (hn : off + P.cellsOf f.type = off') (r : Rd P f.type en ok) (rs : RdF P fs off' en' ok') :
    RdF P (f :: fs) off (fun p : α × β => en p.1 ++ en' p.2) (fun p => ok p.1 ∧ ok' p.2) := by
  intro H enc w base spare held n cs hl hx
  obtain ⟨x, hx0⟩ := hx f (List.mem_cons_self ..)
  obtain ⟨v, v1, v2, v3⟩ := r enc w base spare held n _ x hx0
  simp only [List.map_cons, List.sum_cons] at hl
  obtain ⟨u, u1, u2, u3⟩ := rs enc w base spare held n cs (by omega) (fun g hg => hx g (List.mem_cons_of_mem _ hg))
  refine ⟨(v, u), ⟨v1, u1⟩, by simp [v2]; omega, ?_⟩
  have e : cs.drop off = (cs.drop f.offset).take (P.cellsOf f.type) ++ cs.drop off' := by
    rw [ho, ← hn, ← List.drop_drop, List.take_append_drop]
  rw [e]
  exact v3.append u3

theorem Rd.struct {P : Program} {t : TypeId} {fs : Array Field} {α : Type} {en : α → List AVal} {ok : α → Prop} (ht : P.underlying t = some (.struct fs)) (hc : P.cellsOf t = (fs.toList.map fun f => P.cellsOf f.type).sum) (r : RdF P fs.toList 0 en ok) : Rd P t en ok := by
  intro H enc w base spare held fuel cs x h
  obtain ⟨xs, n, _, _, hl, hlen, hf⟩ := DataW.trod_struct ht h
  obtain ⟨v, v1, v2, v3⟩ := r enc w base spare held n cs (by rw [hl, hc]; omega) (fun f hfm => by
    obtain ⟨i, hi⟩ := List.mem_iff_getElem?.1 hfm
    have hi' : fs[i]? = some f := by simpa using hi
    have := hf i f hi'
    have hlt : i < fs.size := (Array.getElem?_eq_some_iff.1 hi').1
    rw [List.getElem?_eq_getElem (by omega : i < xs.length)] at this
    exact ⟨_, this⟩)
  exact ⟨v, v1, by omega, by simpa using v3⟩

theorem Rd.map {P : Program} {t : TypeId} {α β : Type} {en : α → List AVal} {ok : α → Prop} {en' : β → List AVal} {ok' : β → Prop} (r : Rd P t en ok) (f : α → β) (he : ∀ a, en' (f a) = en a) (ho : ∀ a, ok a → ok' (f a)) : Rd P t en' ok' := by
  intro H enc w base spare held fuel cs x h
  obtain ⟨v, v1, v2, v3⟩ := r enc w base spare held fuel cs x h
  exact ⟨f v, ho v v1, by rw [he]; exact v2, by rw [he]; exact v3⟩

def unch (ws : List Nat) : Nat → Heap → Heap → Prop
  | j, o :: H, o' :: H' => (j ∈ ws ∨ o' = o) ∧ unch ws (j + 1) H H'
  | _, _, _ => True

theorem unch_get {ws : List Nat} : ∀ {i : Nat} {H H' : Heap}, unch ws i H H' → H.length ≤ H'.length → ∀ j, j < H.length → i + j ∉ ws → getO H' j = getO H j
  | i, [], _, _, _, j, hj, _ => by simp at hj
  | i, o :: H, [], _, hl, j, hj, _ => by simp at hl
  | i, o :: H, o' :: H', h, hl, j, hj, hn => by
    cases j with
    | zero => rcases h.1 with a | a
              · exact absurd a hn
              · exact a
    | succ j => exact unch_get (i := i + 1) h.2 (by simpa using hl) j (by simpa using hj) (by rwa [show i + 1 + j = i + (j + 1) by omega])

section
variable {P : Program} {n m0 : Nat} {dr : Bool} {rt : List Nat} {E : Lg → Slots → Heap → Prop} {s : Slots} {H : Heap}

/-- A call that is given some objects, changes some of them, and makes new ones. -/
theorem CX_w (ρ ws : List Nat) {d : Option Nat} {f : SO} {xs : List SO} {g : FuncId} {first caps cargs : List AVal} {Hc Hc' H1 : Heap} {r r1 : AVal} (hA : ACalls P g cargs Hc r Hc')
    (hf : ev (get s) f = .func g first caps) (hargs : renL (rho ρ Hc.length H.length) cargs = first ++ evs (get s) xs ++ caps) (hlt : ltL Hc.length cargs = true) (hltH : Hc.all (ltO Hc.length) = true)
    (hρ : ρ.length = Hc.length) (hnd : ρ.Nodup) (hb : (ρ.all fun x => decide (x < H.length)) = true) (hobj : ρ.map (getO H) = Hc.map (renO (rho ρ Hc.length H.length)))
    (hm : Hc.length ≤ Hc'.length) (hu : unch ws 0 Hc Hc') (hws : (ws.all fun x => decide (x < Hc.length)) = true) (hr : ren (rho ρ Hc.length H.length) r = r1)
    (hH1 : setAll (ws.map fun j => (ρ.getD j 0, renO (rho ρ Hc.length H.length) (getO Hc' j))) H ++ (Hc'.drop Hc.length).map (renO (rho ρ Hc.length H.length)) = H1)
    (hE : E ⟨d, rt, ρ, ws.map fun j => ρ.getD j 0, H.length, Hc'.length - Hc.length⟩ (putS d r1 s) H1) : CX P n m0 dr d f xs rt E s H := by
  refine CX_gen (cargs := cargs) (Hc := Hc) (Hc' := Hc') (rv := r) ρ ws hf hargs hlt hltH hρ hnd (fun x hx => of_decide_eq_true (List.all_eq_true.1 hb x hx)) (fun j hj => ?_) hA hm (fun j hj hn => unch_get hu hm j hj (by rwa [Nat.zero_add])) (fun j hj => of_decide_eq_true (List.all_eq_true.1 hws j hj)) ?_
  · have h1 : (ρ.map (getO H))[j]? = (Hc.map (renO (rho ρ Hc.length H.length)))[j]? := by rw [hobj]
    have hj' : j < ρ.length := by omega
    rw [List.getElem?_map, List.getElem?_map, List.getElem?_eq_getElem hj', List.getElem?_eq_getElem hj] at h1
    simp only [Option.map_some, Option.some.injEq] at h1
    simp only [List.getD, getO, List.getElem?_eq_getElem hj', List.getElem?_eq_getElem hj, Option.getD_some] at h1 ⊢
    exact h1
  · subst hr hH1
    exact hE

/-- A call that makes objects. -/
theorem CX_new {d : Option Nat} {f : SO} {xs : List SO} {g : FuncId} {first caps args : List AVal} {Hc' : Heap} {r r1 : AVal} (hA : ACalls P g args [] r Hc')
    (hf : ev (get s) f = .func g first caps) (hargs : first ++ evs (get s) xs ++ caps = args) (hl : ltL 0 args = true) (hH : Hc'.all (ltO 0) = true) (hr : ren (rho [] 0 H.length) r = r1)
    (hE : E ⟨d, rt, [], [], H.length, Hc'.length⟩ (putS d r1 s) (H ++ Hc')) : CX P n m0 dr d f xs rt E s H := by
  refine CX_w [] [] hA hf ?_ hl rfl rfl List.nodup_nil rfl rfl (Nat.zero_le _) trivial rfl hr (H1 := H ++ Hc') ?_ hE
  · rw [hargs]; exact renL_lt (m := 0) (fun id h => by omega) args hl
  · show H ++ (Hc'.drop 0).map _ = _
    congr 1
    rw [List.drop_zero]
    refine List.ext_getElem? fun i => ?_
    rw [List.getElem?_map]
    cases h : Hc'[i]? with
    | none => rfl
    | some o =>
      show some (renO _ o) = some o
      rw [renO_lt (m := 0) (fun id h => by omega) (List.all_eq_true.1 hH o (List.mem_of_getElem? h))]
end
section
variable {n m0 : Nat} {s : Slots} {H : Heap}
/-- A return: of all objects, these are handed on, in this order. -/
theorem Rt_sel (ρ : List Nat) {rs : List RS} {r r0 : AVal} {H' : Heap} (hret : retO (S s H) rs = some r0) (hr : ren (fun id => ρ.getD id 0) r = r0) (hl : ltv H'.length r = true) (hH : H'.all (ltO H'.length) = true)
    (hρ : ρ.length = H'.length) (hnd : ρ.Nodup) (hobj : ρ.map (getO H) = H'.map (renO fun id => ρ.getD id 0)) (hm : m0 ≤ H'.length) (hid : ((List.range m0).all fun i => decide (ρ.getD i 0 = i)) = true) : Rt n m0 (Ret rs m0 r H') s H := by
  intro w0 G0 h0 hb a w G hrel ht
  refine ⟨G, S s H, hrel, ht, r0, fun id => ρ.getD id 0, hret, hr.symm, hl, fun id h => ⟨?_, ltO_get hH id⟩, fun i j hi hj h => ?_, hm, fun id h => ?_⟩
  · have h1 : (ρ.map (getO H))[id]? = (H'.map (renO fun id => ρ.getD id 0))[id]? := by rw [hobj]
    have h' : id < ρ.length := by omega
    rw [List.getElem?_map, List.getElem?_map, List.getElem?_eq_getElem h', List.getElem?_eq_getElem h] at h1
    simp only [Option.map_some, Option.some.injEq] at h1
    show getO H (ρ.getD id 0) = _
    simp only [List.getD, getO, List.getElem?_eq_getElem h', List.getElem?_eq_getElem h, Option.getD_some] at h1 ⊢
    exact h1
  · have hi' : i < ρ.length := by omega
    have hj' : j < ρ.length := by omega
    simp only [List.getD, List.getElem?_eq_getElem hi', List.getElem?_eq_getElem hj', Option.getD_some] at h
    exact (List.getElem_inj hnd).1 h
  · exact of_decide_eq_true (List.all_eq_true.1 hid id (List.mem_range.2 h))
end
section
variable {H : Heap} {od : Option Nat}
def slc3R (o : Option (Nat × TypeId × Bool × List (List AVal))) (k id off : Nat) (l h m : Int) : Option (AVal × List Nat) :=
  match o with
  | some (k', _, _, es) => if 0 ≤ l ∧ l ≤ h ∧ h ≤ m ∧ k' = k ∧ off + m ≤ es.length then some (if m = 0 then .emp else .undef, [id, id]) else none
  | none => none
theorem slc3R_some {k' k id off : Nat} {t : TypeId} {fu : Bool} {es : List (List AVal)} {l h m : Int} : slc3R (some (k', t, fu, es)) k id off l h m = if 0 ≤ l ∧ l ≤ h ∧ h ≤ m ∧ k' = k ∧ off + m ≤ es.length then some (if m = 0 then .emp else .undef, [id, id]) else none := rfl
def slc3W (g : Nat → AObj) (k id q off : Nat) (lo hi mx : Option Int) : Option (AVal × List Nat) :=
  match lo, hi, mx with
  | some l, some h, some m => slc3R (objO (g id) q) k id off l h m
  | _, _, _ => none
theorem slc3W_some {k id q off : Nat} {l h m : Int} : slc3W (getO H) k id q off (some l) (some h) (some m) = slc3R (objO (getO H id) q) k id off l h m := rfl
theorem slc3V_row {k id q off len : Nat} {lo : Option Int} {hi mx : Nat → Option Int} : slc3V (getO H) k (.row id q off len) lo hi mx = slc3W (getO H) k id q off lo (hi len) (mx len) := by
  simp only [slc3V, lenOf, slc3W]
  cases hi len with
  | none => cases lo <;> rfl
  | some h =>
    cases mx len with
    | none => cases lo <;> rfl
    | some m =>
      cases lo with
      | none => simp [slcOf]
      | some l =>
        simp only [slcOf, obj_getO, slc3R]
        cases objO (getO H id) q with
        | none => simp
        | some y =>
          obtain ⟨k', t, fu, es⟩ := y
          by_cases h1 : h ≤ m <;> by_cases h2 : 0 ≤ l <;> by_cases h3 : l ≤ h <;> by_cases h4 : k' = k <;> by_cases h5 : off + m ≤ es.length <;> by_cases h6 : off + h ≤ es.length <;> simp [h1, h2, h3, h4, h5, h6]
          all_goals first | omega | (rw [if_pos (by omega)]; simp)
def clrR (od : Option Nat) (zs : List AVal) (o : Option (Nat × TypeId × Bool × List (List AVal))) (id q off len : Nat) : Option Eff :=
  match o with
  | some (k, t, fu, es) => if zs.length = k then some ⟨od, .tup [], [id], [(id, .cells q k t fu (es.take off ++ List.replicate len zs ++ es.drop (off + len)))], []⟩ else none
  | none => none
theorem clrV_row {zs : List AVal} {id q off len : Nat} : clrV od zs (getO H) (.row id q off len) = clrR od zs (objO (getO H id) q) id q off len := by
  simp only [clrV, obj_getO, clrR]
  cases objO (getO H id) q <;> rfl
theorem clrR_some {zs : List AVal} {k id q off len : Nat} {t : TypeId} {fu : Bool} {es : List (List AVal)} : clrR od zs (some (k, t, fu, es)) id q off len = if zs.length = k then some ⟨od, .tup [], [id], [(id, .cells q k t fu (es.take off ++ List.replicate len zs ++ es.drop (off + len)))], []⟩ else none := rfl
def cpyR (od : Option Nat) (k : Nat) (o : Option (Nat × TypeId × Bool × List (List AVal))) (id q off len : Nat) (ys : List (List AVal)) (rd : List Nat) : Option Eff :=
  match o with
  | some (k', t, fu, es) => if k' = k then some ⟨od, .int .i64 (min ys.length len : Nat), id :: rd, [(id, .cells q k t fu (es.take off ++ ys.take (min ys.length len) ++ es.drop (off + min ys.length len)))], []⟩ else none
  | none => none
theorem cpyV_row {k id q off len : Nat} {ys : List (List AVal)} {rd : List Nat} : cpyV od k (getO H) (.row id q off len) (some (ys, rd)) = cpyR od k (objO (getO H id) q) id q off len ys rd := by
  simp only [cpyV, obj_getO, cpyR]
  cases objO (getO H id) q <;> rfl
theorem cpyR_some {k' k id q off len : Nat} {t : TypeId} {fu : Bool} {es ys : List (List AVal)} {rd : List Nat} : cpyR od k (some (k', t, fu, es)) id q off len ys rd = if k' = k then some ⟨od, .int .i64 (min ys.length len : Nat), id :: rd, [(id, .cells q k t fu (es.take off ++ ys.take (min ys.length len) ++ es.drop (off + min ys.length len)))], []⟩ else none := rfl
theorem apzV_int {d : Nat} {t : TypeId} {k bytes f : Nat} {zs : List AVal} {x : AVal} {kk : IntKind} {m : Int} : apzV d t k bytes zs (getO H) f x (.int kk m) = if 0 ≤ m ∧ m ≤ 140737488355328 ∧ zs.length = k then appOf d t k bytes (getO H) f x (List.replicate m.toNat zs) [] else none := rfl
end
attribute [go_sem] slc3R_some slc3W_some slc3V_row clrV_row clrR_some cpyV_row cpyR_some apzV_int
mutual
theorem ltv_mono {m m' : Nat} (h : m ≤ m') : ∀ (c : AVal), ltv m c = true → ltv m' c = true
  | .row id st off len, hl => by simp only [ltv, decide_eq_true_eq] at hl ⊢; omega
  | .ptr id st i o, hl => by simp only [ltv, decide_eq_true_eq] at hl ⊢; omega
  | .map id, hl => by simp only [ltv, decide_eq_true_eq] at hl ⊢; omega
  | .agg cs, hl => by simp only [ltv] at hl ⊢; exact ltL_mono h cs hl
  | .tup cs, hl => by simp only [ltv] at hl ⊢; exact ltL_mono h cs hl
  | .func f as bs, hl => by simp only [ltv, Bool.and_eq_true] at hl ⊢; exact ⟨ltL_mono h as hl.1, ltL_mono h bs hl.2⟩
  | .undef, _ => by simp [ltv]
  | .bool _, _ => by simp [ltv]
  | .int _ _, _ => by simp [ltv]
  | .str _, _ => by simp [ltv]
  | .nil, _ => by simp [ltv]
  | .emp, _ => by simp [ltv]
  | .sl _ _, _ => by simp [ltv]
  | .nptr, _ => by simp [ltv]
  | .iptr _ _, _ => by simp [ltv]
  | .nfunc, _ => by simp [ltv]
theorem ltL_mono {m m' : Nat} (h : m ≤ m') : ∀ (cs : List AVal), ltL m cs = true → ltL m' cs = true
  | [], _ => rfl
  | c :: cs, hl => by
    simp only [ltL, Bool.and_eq_true] at hl ⊢
    exact ⟨ltv_mono h c hl.1, ltL_mono h cs hl.2⟩
end
theorem ltO_mono {m m' : Nat} (h : m ≤ m') {o : AObj} (hl : ltO m o = true) : ltO m' o = true := by
  cases o with
  | free => rfl
  | dead => rfl
  | cells st k t fu es => exact List.all_eq_true.2 fun e he => ltL_mono h e (List.all_eq_true.1 hl e he)
  | map es => exact List.all_eq_true.2 fun e he => ltv_mono h e.2 (List.all_eq_true.1 hl e he)
section
variable {P : Program} {n m0 : Nat} {dr : Bool} {rt : List Nat} {E : Lg → Slots → Heap → Prop} {s : Slots} {H : Heap}
/-- A call that changes one object. -/
theorem CX_put (id : Nat) {d : Option Nat} {f : SO} {xs : List SO} {g : FuncId} {first caps cargs : List AVal} {o o' : AObj} {r : AVal} (hA : ACalls P g cargs [o] r [o'])
    (hf : ev (get s) f = .func g first caps) (hargs : renL (rho [id] 1 H.length) cargs = first ++ evs (get s) xs ++ caps) (hlt : ltL 1 cargs = true) (ho : ltO 0 o = true) (ho' : ltO 0 o' = true)
    (hid : getO H id = o) (hb : decide (id < H.length) = true) (hr : ltv 0 r = true) (hE : E ⟨d, rt, [id], [id], H.length, 0⟩ (putS d r s) (H.set id o')) : CX P n m0 dr d f xs rt E s H := by
  refine CX_w [id] [0] (H1 := H.set id o') hA hf hargs hlt ?_ rfl (List.nodup_cons.2 ⟨by simp, List.nodup_nil⟩) ?_ ?_ (Nat.le_refl _) ⟨.inl (by simp), trivial⟩ rfl (ren_lt (m := 0) (fun id h => by omega) r hr) ?_ hE
  · rw [List.all_cons, List.all_nil, Bool.and_true]
    exact ltO_mono (Nat.zero_le _) ho
  · rw [List.all_cons, List.all_nil, Bool.and_true]; exact hb
  · rw [List.map_cons, List.map_nil, List.map_cons, List.map_nil, renO_lt (m := 0) (fun id h => by omega) ho, hid]
  · show setAll [(id, renO _ o')] H ++ [] = _
    rw [List.append_nil, renO_lt (m := 0) (fun id h => by omega) ho']; rfl
/-- A call that uses an object up. -/
theorem CX_eat (id : Nat) {d : Option Nat} {f : SO} {xs : List SO} {g : FuncId} {first caps cargs : List AVal} {o : AObj} {r : AVal} (hA : ACalls P g cargs [o] r [.dead])
    (hf : ev (get s) f = .func g first caps) (hargs : renL (rho [id] 1 H.length) cargs = first ++ evs (get s) xs ++ caps) (hlt : ltL 1 cargs = true) (ho : ltO 0 o = true)
    (hid : getO H id = o) (hb : decide (id < H.length) = true) (hr : ltv 0 r = true) (hE : E ⟨d, rt, [id], [id], H.length, 0⟩ (putS d r s) (H.set id .dead)) : CX P n m0 dr d f xs rt E s H := by
  refine CX_w [id] [0] (H1 := H.set id .dead) hA hf hargs hlt ?_ rfl (List.nodup_cons.2 ⟨by simp, List.nodup_nil⟩) ?_ ?_ (Nat.le_refl _) ⟨.inl (by simp), trivial⟩ rfl (ren_lt (m := 0) (fun id h => by omega) r hr) ?_ hE
  · rw [List.all_cons, List.all_nil, Bool.and_true]
    exact ltO_mono (Nat.zero_le _) ho
  · rw [List.all_cons, List.all_nil, Bool.and_true]; exact hb
  · rw [List.map_cons, List.map_nil, List.map_cons, List.map_nil, renO_lt (m := 0) (fun id h => by omega) ho, hid]
  · show setAll [(id, renO _ AObj.dead)] H ++ [] = _
    rw [List.append_nil]; rfl
end
theorem overlaps_ok {P : Program} {f : FuncId} {fn : Func} {tS tR e : TypeId} {k : Nat} (hf : P.funcs[f]? = some fn) (hname : (fn.name == "runtime.NumGoroutine") = false) (hb : fn.body.isNone = true) (hn : Extern.findNext fn = none)
    (he : Extern.find fn = some (Extern.SlicesOverlaps.overlaps #[tS, tS] #[tR])) (ht : P.underlying tS = some (.slice e)) (hz : ∀ w, (Go.sizeOf e).run P w = .ok k w) {qA qB oB lB : Nat} {t : TypeId} {fa fb : Bool} {v : List AVal} {es : List (List AVal)} (hl : 1 ≤ lB) :
    ACalls P f [.row 0 qA 0 1, .row 1 qB oB lB] [.cells qA k t fa [v], .cells qB k t fb es] (.bool false) [.cells qA k t fa [v], .cells qB k t fb es] := by
  intro w G vs hr hsz hvs
  have hs2 : vs.size = 2 := hsz
  have v0 := hvs 0 _ vs[0] rfl (Array.getElem?_eq_getElem (by omega))
  have v1 := hvs 1 _ vs[1] rfl (Array.getElem?_eq_getElem (by omega))
  have hvs2 : vs = #[vs[0], vs[1]] := by
    apply Array.ext
    · simp [hs2]
    · intro i h1 h2
      have : i = 0 ∨ i = 1 := by simp at h2; omega
      rcases this with rfl | rfl <;> rfl
  have oA := hr.obj 0
  have oB' := hr.obj 1
  obtain ⟨hk, -, oA⟩ := (show ObjOk w G _ 0 (.cells qA k t fa [v]) from oA)
  obtain ⟨-, -, oB'⟩ := (show ObjOk w G _ 1 (.cells qB k t fb es) from oB')
  generalize vs[0] = x at *
  generalize vs[1] = y at *
  subst hvs2
  cases v0 with
  | cl _ _ h => cases h
  | row _ _ _ _ capA aA hfA hoA =>
  cases v1 with
  | cl _ _ h => cases h
  | row _ _ _ _ capB aB hfB hoB =>
  obtain ⟨hA1, hA2⟩ := (hoA qA k t fa [v] rfl).2 rfl
  obtain ⟨hB1, hB2⟩ := (hoB qB k t fb es rfl).2 rfl
  rcases hA2 with ⟨_, h, _⟩ | ⟨bA, CA, mA, cA, sA⟩
  · omega
  rcases hB2 with ⟨_, h, _⟩ | ⟨bB, CB, mB, cB, sB⟩
  · omega
  rcases oA with ⟨_, h⟩ | ⟨bA', CA', csA, mA', nA, hpA, szA, leA, -, -, -, -⟩
  · cases h
  rcases oB' with ⟨_, h⟩ | ⟨bB', CB', csB, mB', nB, hpB, szB, leB, -, -, -, -⟩
  · subst h; simp at hB1; omega
  rw [mA] at mA'; injection mA' with mA'; obtain ⟨rfl, rfl⟩ := Prod.mk.inj mA'
  rw [mB] at mB'; injection mB' with mB'; obtain ⟨rfl, rfl⟩ := Prod.mk.inj mB'
  have hne : bA ≠ bB := by
    intro h
    subst h
    have := hr.inj 0 1 bA _ _ rfl rfl mA mB
    cases this
  have cA' : aA = some ⟨bA, 0 * k, none⟩ := by
    rcases cA with h | h
    · simp at leA; omega
    · exact h
  have cB' : aB = some ⟨bB, oB * k, none⟩ := by
    rcases cB with h | h
    · omega
    · exact h
  subst cA' cB'
  have hCB : 0 < CB := by omega
  refine ⟨.value (.bool false), w, ?_, G, .cl _ _ (.bool _), hr, Tr.refl _ _ _⟩
  rw [run_callFunc_extern hf hname hb hn he, Lib.run_overlaps_apart w tS tR e ht k hz ⟨bA, 0 * k, none⟩ ⟨bB, oB * k, none⟩ 1 capA lB capB hne t t csA.size csB.size]
  · rfl
  · simp [World.shape?, hpA]
  · simp [World.shape?, hpB]
  · have : 0 < CB * k := Nat.mul_pos hCB hk
    omega
  · simp [World.frozen?, hpA]
  · simp [World.frozen?, hpA]
section
variable {n m0 : Nat} {s : Slots} {H : Heap}
theorem Gs_virt (d : Nat) {k : Nat} (t : TypeId) (fu : Bool) (hk : 0 < k) (hd : get s d = .nil) : Gs n m0 s H ((d, .row H.length 1 0 0) :: s) (H ++ [.cells 1 k t fu []]) := by
  intro w0 G0 h0 hb0 a w G hr ht
  have hfree : getO H H.length = .free := getO_free (Nat.le_refl _)
  have hnew : getO (H ++ [AObj.cells 1 k t fu []]) H.length = .cells 1 k t fu [] := by simp [getO, List.getD]
  have hold : ∀ j, j ≠ H.length → getO (H ++ [AObj.cells 1 k t fu []]) j = getO H j := fun j hj => by
    rcases Nat.lt_or_ge j H.length with h | h
    · simp [getO, List.getD, List.getElem?_append_left h]
    · rw [getO_free (H := H) h, getO_free]
      simp
      omega
  have hne : ∀ j, getO H j ≠ .free → j ≠ H.length := fun j hj e => hj (by rw [e]; exact hfree)
  let G' : Gh := { G with M := fun j => if j = H.length then none else G.M j }
  have hM : ∀ j, j ≠ H.length → G'.M j = G.M j := fun j hj => by show (if j = H.length then none else G.M j) = _; rw [if_neg hj]
  have hM0 : G'.M H.length = none := by show (if H.length = H.length then none else G.M H.length) = _; rw [if_pos rfl]
  have hE : Ext G.M (getO H) G'.M (getO (H ++ [AObj.cells 1 k t fu []])) := by
    refine ⟨fun j hj => ?_, fun j st k0 t0 fu0 es0 hj h'' => ?_, fun j es0 hj h'' => ?_⟩
    · rw [hold j (hne j hj)]; exact hj
    · rw [hold j (hne j hj)] at h''
      exact ⟨_, _, _, _, _, h'', Nat.le_refl _, fun _ => ⟨rfl, Nat.le_refl _, hM j (hne j hj)⟩⟩
    · rw [hold j (hne j hj)] at h''
      exact ⟨_, h'', hM j (hne j hj)⟩
  have vr : ∀ {c v}, VR w G (getO H) c v → VR w G' (getO (H ++ [AObj.cells 1 k t fu []])) c v := fun hv => hv.mono (fun _ h => h) (fun _ _ => rfl) hE
  have hl : ∀ j, (getO H j).live = true → j ≠ H.length := fun j hj => hne j (by intro e; rw [e] at hj; cases hj)
  have hHR : HR w G' (getO (H ++ [AObj.cells 1 k t fu []])) := by
    refine ⟨fun j => ?_, fun j j' b C C' l l' m m' => ?_, hr.heap.lt⟩
    · by_cases hj : j = H.length
      · subst hj
        rw [hnew]
        exact ⟨hk, by simp, .inl ⟨hM0, rfl⟩⟩
      · have hoj := hr.heap.obj j
        rw [hold j hj]
        rw [show (S s H).h = getO H from rfl] at hoj
        cases h : getO H j with
        | free => trivial
        | dead => trivial
        | cells st k0 t0 fu0 es =>
          rw [h] at hoj
          obtain ⟨h1, h2, h3⟩ := hoj
          refine ⟨h1, h2, ?_⟩
          rw [hM j hj]
          rcases h3 with h3 | ⟨b, C, cs, a1, a2, a3, a4, a5, a6, a7, a8, a9⟩
          · exact .inl h3
          · exact .inr ⟨b, C, cs, a1, a2, a3, a4, a5, a6, a7, a8, fun i e j c v b1 b2 b3 => vr (a9 i e j c v b1 b2 b3)⟩
        | map es =>
          rw [h] at hoj
          obtain ⟨b, C, ents, clock, a1, a2, a3, a4, a5⟩ := hoj
          exact ⟨b, C, ents, clock, by rw [hM j hj]; exact a1, a2, a3, a4, fun i n c e b1 b2 => ⟨(a5 i n c e b1 b2).1, vr (a5 i n c e b1 b2).2⟩⟩
    · have hj : j ≠ H.length := fun e => by rw [e, hM0] at m; cases m
      have hj' : j' ≠ H.length := fun e => by rw [e, hM0] at m'; cases m'
      rw [hold j hj] at l
      rw [hold j' hj'] at l'
      rw [hM j hj] at m
      rw [hM j' hj'] at m'
      exact hr.heap.inj _ _ _ _ _ l l' m m'
  have hTr : Tr w G (getO H) w G' (getO (H ++ [AObj.cells 1 k t fu []])) := by
    refine ⟨Nat.le_refl _, fun _ _ _ => rfl, rfl, rfl, rfl, fun _ h => h, fun b hb => .inl hb, fun b ⟨j, C, l, m⟩ => .inl ?_, hE⟩
    have hj : j ≠ H.length := fun e => by rw [e, hM0] at m; cases m
    rw [hold j hj] at l
    rw [hM j hj] at m
    exact ⟨j, C, l, m⟩
  refine ⟨G', ⟨fun t' => ?_, hr.defers, hr.size, hHR⟩, ht.trans hTr⟩
  show VR w G' _ (get ((d, AVal.row H.length 1 0 0) :: s) t') _
  simp only [get]
  by_cases e : d = t'
  · rw [if_pos e]
    subst e
    have h1 := hr.slots d
    rw [show (S s H).s d = get s d from rfl, hd] at h1
    rw [h1.nil_inv]
    refine .row _ _ _ _ _ _ (by rw [show (S ((d, AVal.row H.length 1 0 0) :: s) (H ++ [AObj.cells 1 k t fu []])).h = getO (H ++ [AObj.cells 1 k t fu []]) from rfl, hnew]; intro h; cases h) fun st' k' t' fu' es h => ?_
    rw [show (S ((d, AVal.row H.length 1 0 0) :: s) (H ++ [AObj.cells 1 k t fu []])).h = getO (H ++ [AObj.cells 1 k t fu []]) from rfl, hnew] at h
    cases h
    exact ⟨Nat.le_refl _, fun _ => ⟨Nat.le_refl _, .inl ⟨hM0, rfl, rfl⟩⟩⟩
  · rw [if_neg e]
    exact vr (hr.slots t')
end
section
variable {P : Program} {n m0 : Nat} {dr : Bool} {rt : List Nat} {E : Lg → Slots → Heap → Prop} {s : Slots} {H : Heap}
theorem CX_eat2 (id id2 : Nat) {d : Option Nat} {f : SO} {xs : List SO} {g : FuncId} {first caps cargs : List AVal} {o o2 : AObj} {r : AVal} (hA : ACalls P g cargs [o, o2] r [.dead, o2])
    (hf : ev (get s) f = .func g first caps) (hargs : renL (rho [id, id2] 2 H.length) cargs = first ++ evs (get s) xs ++ caps) (hlt : ltL 2 cargs = true) (ho : ltO 0 o = true) (ho2 : ltO 0 o2 = true)
    (hne : decide (id = id2) = false) (hid : getO H id = o) (hid2 : getO H id2 = o2) (hb : decide (id < H.length) = true) (hb2 : decide (id2 < H.length) = true) (hr : ltv 0 r = true) (hE : E ⟨d, rt, [id, id2], [id], H.length, 0⟩ (putS d r s) (H.set id .dead)) : CX P n m0 dr d f xs rt E s H := by
  refine CX_w [id, id2] [0] (H1 := H.set id .dead) hA hf hargs hlt ?_ rfl (List.nodup_cons.2 ⟨by simpa using of_decide_eq_false hne, List.nodup_cons.2 ⟨by simp, List.nodup_nil⟩⟩) ?_ ?_ (Nat.le_refl _) ⟨.inl (by simp), .inr rfl, trivial⟩ rfl (ren_lt (m := 0) (fun id h => by omega) r hr) ?_ hE
  · rw [List.all_cons, List.all_cons, List.all_nil, Bool.and_true, ltO_mono (Nat.zero_le _) ho, ltO_mono (Nat.zero_le _) ho2]; rfl
  · rw [List.all_cons, List.all_cons, List.all_nil, Bool.and_true, hb, hb2]; rfl
  · rw [List.map_cons, List.map_cons, List.map_nil, List.map_cons, List.map_cons, List.map_nil, renO_lt (m := 0) (fun id h => by omega) ho, renO_lt (m := 0) (fun id h => by omega) ho2, hid, hid2]
  · show setAll [(id, renO _ AObj.dead)] H ++ [] = _
    rw [List.append_nil]; rfl
end
section
variable {P : Program} {n m0 : Nat} {dr : Bool} {rt : List Nat} {E : Lg → Slots → Heap → Prop} {s : Slots} {H : Heap}
theorem CX_put2 (id id2 : Nat) {d : Option Nat} {f : SO} {xs : List SO} {g : FuncId} {first caps cargs : List AVal} {o o2 o' o2' : AObj} {r : AVal} (hA : ACalls P g cargs [o, o2] r [o', o2'])
    (hf : ev (get s) f = .func g first caps) (hargs : renL (rho [id, id2] 2 H.length) cargs = first ++ evs (get s) xs ++ caps) (hlt : ltL 2 cargs = true) (ho : ltO 2 o = true) (ho2 : ltO 2 o2 = true) (ho' : ltO 0 o' = true) (ho2' : ltO 0 o2' = true)
    (hne : decide (id = id2) = false) (hid : getO H id = renO (rho [id, id2] 2 H.length) o) (hid2 : getO H id2 = renO (rho [id, id2] 2 H.length) o2) (hb : decide (id < H.length) = true) (hb2 : decide (id2 < H.length) = true) (hr : ltv 0 r = true)
    (hE : E ⟨d, rt, [id, id2], [id, id2], H.length, 0⟩ (putS d r s) ((H.set id2 o2').set id o')) : CX P n m0 dr d f xs rt E s H := by
  refine CX_w [id, id2] [0, 1] (H1 := (H.set id2 o2').set id o') hA hf hargs hlt ?_ rfl (List.nodup_cons.2 ⟨by simpa using of_decide_eq_false hne, List.nodup_cons.2 ⟨by simp, List.nodup_nil⟩⟩) ?_ ?_ (Nat.le_refl _) ⟨.inl (by simp), .inl (by simp), trivial⟩ rfl (ren_lt (m := 0) (fun id h => by omega) r hr) ?_ hE
  · rw [List.all_cons, List.all_cons, List.all_nil, Bool.and_true]
    show (ltO 2 o && ltO 2 o2) = true
    rw [ho, ho2]; rfl
  · rw [List.all_cons, List.all_cons, List.all_nil, Bool.and_true, hb, hb2]; rfl
  · rw [List.map_cons, List.map_cons, List.map_nil, List.map_cons, List.map_cons, List.map_nil, hid, hid2]; rfl
  · show setAll [(id, renO _ o'), (id2, renO _ o2')] H ++ [] = _
    rw [List.append_nil, renO_lt (m := 0) (fun id h => by omega) ho', renO_lt (m := 0) (fun id h => by omega) ho2']; rfl
end
section
variable {n m0 : Nat} {s : Slots} {H : Heap}
theorem Gs_virtH (id p : Nat) {q k0 k : Nat} {t0 : TypeId} {fu0 : Bool} {e : List AVal} (t : TypeId) (fu : Bool) (hk : 0 < k) (ho : getO H id = .cells q k0 t0 fu0 [e]) (hp : e[p]? = some .nil) :
    Gs n m0 s H s (H.set id (.cells q k0 t0 fu0 [e.set p (.row H.length 1 0 0)]) ++ [.cells 1 k t fu []]) := by
  intro w0 G0 h0 hb0 a w G hr ht
  have hid : id < H.length := by
    rcases Nat.lt_or_ge id H.length with h | h
    · exact h
    · rw [getO_free h] at ho; cases ho
  generalize hH' : H.set id (.cells q k0 t0 fu0 [e.set p (.row H.length 1 0 0)]) ++ [.cells 1 k t fu []] = H'
  have hfree : getO H H.length = .free := getO_free (Nat.le_refl _)
  have hnew : getO H' H.length = .cells 1 k t fu [] := by subst hH'; simp [getO, List.getD]
  have hidn : id ≠ H.length := by omega
  have hat : getO H' id = .cells q k0 t0 fu0 [e.set p (.row H.length 1 0 0)] := by subst hH'; simp [getO, List.getD, List.getElem?_append_left, hid]
  have hold : ∀ j, j ≠ H.length → j ≠ id → getO H' j = getO H j := fun j hj hj2 => by
    subst hH'
    rcases Nat.lt_or_ge j H.length with h | h
    · unfold getO List.getD
      rw [List.getElem?_append_left (by rw [List.length_set]; exact h), List.getElem?_set_ne (Ne.symm hj2)]
    · rw [getO_free (H := H) h, getO_free]
      simp
      omega
  have hne : ∀ j, getO H j ≠ .free → j ≠ H.length := fun j hj e => hj (by rw [e]; exact hfree)
  let G' : Gh := { G with M := fun j => if j = H.length then none else G.M j }
  have hM : ∀ j, j ≠ H.length → G'.M j = G.M j := fun j hj => by show (if j = H.length then none else G.M j) = _; rw [if_neg hj]
  have hM0 : G'.M H.length = none := by show (if H.length = H.length then none else G.M H.length) = _; rw [if_pos rfl]
  have hE : Ext G.M (getO H) G'.M (getO H') := by
    refine ⟨fun j hj => ?_, fun j st k1 t1 fu1 es1 hj h'' => ?_, fun j es0 hj h'' => ?_⟩
    · by_cases hji : j = id
      · rw [hji, hat]; intro h; cases h
      · rw [hold j (hne j hj) hji]; exact hj
    · by_cases hji : j = id
      · subst hji
        rw [hat] at h''
        cases h''
        exact ⟨_, _, _, _, _, ho, Nat.le_refl _, fun _ => ⟨rfl, by simp, hM j (hne j hj)⟩⟩
      · rw [hold j (hne j hj) hji] at h''
        exact ⟨_, _, _, _, _, h'', Nat.le_refl _, fun _ => ⟨rfl, Nat.le_refl _, hM j (hne j hj)⟩⟩
    · by_cases hji : j = id
      · subst hji; rw [hat] at h''; cases h''
      · rw [hold j (hne j hj) hji] at h''
        exact ⟨_, h'', hM j (hne j hj)⟩
  have vr : ∀ {c v}, VR w G (getO H) c v → VR w G' (getO H') c v := fun hv => hv.mono (fun _ h => h) (fun _ _ => rfl) hE
  have vrow : ∀ {v}, VR w G (getO H) .nil v → VR w G' (getO H') (.row H.length 1 0 0) v := fun {v} hv => by
    rw [hv.nil_inv]
    refine .row _ _ _ _ _ _ (by rw [hnew]; intro h; cases h) fun st' k' t' fu' es h => ?_
    rw [hnew] at h
    cases h
    exact ⟨Nat.le_refl _, fun _ => ⟨Nat.le_refl _, .inl ⟨hM0, rfl, rfl⟩⟩⟩
  have hlive : ∀ j, j ≠ H.length → (getO H' j).live = true → (getO H j).live = true := fun j hj l => by
    by_cases hji : j = id
    · rw [hji, ho]; rfl
    · rwa [hold j hj hji] at l
  have hHR : HR w G' (getO H') := by
    refine ⟨fun j => ?_, fun j j' b C C' l l' m m' => ?_, hr.heap.lt⟩
    · by_cases hj : j = H.length
      · subst hj
        rw [hnew]
        exact ⟨hk, by simp, .inl ⟨hM0, rfl⟩⟩
      · have hoj := hr.heap.obj j
        rw [show (S s H).h = getO H from rfl] at hoj
        by_cases hji : j = id
        · subst hji
          rw [hat]
          rw [ho] at hoj
          obtain ⟨h1, h2, h3⟩ := hoj
          refine ⟨h1, ?_, ?_⟩
          · intro e' he'
            rw [List.mem_singleton] at he'
            subst he'
            rw [List.length_set]
            exact h2 e (by simp)
          · rw [hM j hj]
            rcases h3 with h3 | ⟨b, C, cs, a1, a2, a3, a4, a5, a6, a7, a8, a9⟩
            · exact absurd h3.2 (by simp)
            · refine .inr ⟨b, C, cs, a1, a2, a3, a4, a5, a6, a7, a8, fun i e' x c v b1 b2 b3 => ?_⟩
              cases i with
              | succ i => simp at b1
              | zero =>
                simp only [List.getElem?_cons_zero, Option.some.injEq] at b1
                subst b1
                rw [List.getElem?_set] at b2
                split at b2
                · rename_i hpx
                  subst hpx
                  split at b2
                  · injection b2 with b2
                    subst b2
                    exact vrow (a9 0 e p .nil v rfl hp b3)
                  · cases b2
                · exact vr (a9 0 e x c v rfl b2 b3)
        · rw [hold j hj hji]
          cases h : getO H j with
          | free => trivial
          | dead => trivial
          | cells st k0 t0 fu0 es =>
            rw [h] at hoj
            obtain ⟨h1, h2, h3⟩ := hoj
            refine ⟨h1, h2, ?_⟩
            rw [hM j hj]
            rcases h3 with h3 | ⟨b, C, cs, a1, a2, a3, a4, a5, a6, a7, a8, a9⟩
            · exact .inl h3
            · exact .inr ⟨b, C, cs, a1, a2, a3, a4, a5, a6, a7, a8, fun i e j c v b1 b2 b3 => vr (a9 i e j c v b1 b2 b3)⟩
          | map es =>
            rw [h] at hoj
            obtain ⟨b, C, ents, clock, a1, a2, a3, a4, a5⟩ := hoj
            exact ⟨b, C, ents, clock, by rw [hM j hj]; exact a1, a2, a3, a4, fun i n c e b1 b2 => ⟨(a5 i n c e b1 b2).1, vr (a5 i n c e b1 b2).2⟩⟩
    · have hj : j ≠ H.length := fun e => by rw [e, hM0] at m; cases m
      have hj' : j' ≠ H.length := fun e => by rw [e, hM0] at m'; cases m'
      rw [hM j hj] at m
      rw [hM j' hj'] at m'
      exact hr.heap.inj _ _ _ _ _ (hlive j hj l) (hlive j' hj' l') m m'
  have hTr : Tr w G (getO H) w G' (getO H') := by
    refine ⟨Nat.le_refl _, fun _ _ _ => rfl, rfl, rfl, rfl, fun _ h => h, fun b hb => .inl hb, fun b ⟨j, C, l, m⟩ => .inl ?_, hE⟩
    have hj : j ≠ H.length := fun e => by rw [e, hM0] at m; cases m
    rw [hM j hj] at m
    exact ⟨j, C, hlive j hj l, m⟩
  exact ⟨G', ⟨fun t' => vr (hr.slots t'), hr.defers, hr.size, hHR⟩, ht.trans hTr⟩
end
end Go.Av
