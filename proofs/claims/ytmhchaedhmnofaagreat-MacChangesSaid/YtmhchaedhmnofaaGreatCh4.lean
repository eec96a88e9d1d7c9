/- The seat: part Ch4. -/
import Derived.Test.YtmhchaedhmnofaaGreatCh3
/- The abstract machine, part 20: the evaluation of code tells the truth. -/
set_option linter.unusedVariables false
set_option linter.unusedSimpArgs false
namespace Go.Av

section
variable {P : Program} {n m0 : Nat}

theorem Mt.code_inv {sc : SC} {k : List It} {ks : List Item} (h : Mt P n (.code sc :: k) ks) : ∃ c ks', ks = .code c :: ks' ∧ compC P n c = sc ∧ Mt P n k ks' := by
  cases h with
  | code c h => exact ⟨c, _, rfl, rfl, h⟩
theorem Mt.again_inv {sc : SC} {k : List It} {ks : List Item} (h : Mt P n (.again sc :: k) ks) : ∃ c ks', ks = .inLoop c :: ks' ∧ compC P n c = sc ∧ Mt P n k ks' := by
  cases h with
  | again c h => exact ⟨c, _, rfl, rfl, h⟩
theorem Mt.blk_inv {id : Nat} {k : List It} {ks : List Item} (h : Mt P n (.blk id :: k) ks) : ∃ ks', ks = .inBlock id :: ks' ∧ Mt P n k ks' := by
  cases h with
  | blk id h => exact ⟨_, rfl, h⟩

theorem compC_cases (c : Code) : (c = .skip ∧ compC P n c = .skip) ∨ (∃ a b, c = .seq a b ∧ compC P n c = .seq (compC P n a) (compC P n b)) ∨
    (∃ x a b x', c = .cond x a b ∧ co x = some x' ∧ compC P n c = .cond x' (compC P n a) (compC P n b)) ∨ (∃ id d, c = .block id d ∧ compC P n c = .block id (compC P n d)) ∨
    (∃ d, c = .loop d ∧ compC P n c = .loop (compC P n d)) ∨ (∃ id, c = .exit id ∧ compC P n c = .exit id) ∨ (c = .ret ∧ compC P n c = .ret) ∨
    (∃ id ops, c = .region id ops false ∧ compC P n c = .reg (soL P n ops)) ∨
    (∃ id ops, c = .region id ops true ∧ onsOk ops = true ∧ statOk (soL P n ops) (masks (onsOf ops) ops.size) = true ∧ compC P n c = .regD (soL P n ops) (dynP (soL P n ops) (masks (onsOf ops) ops.size))) ∨
    compC P n c = .bad := by
  cases c with
  | skip => exact .inl ⟨rfl, by simp [compC]⟩
  | seq a b => exact .inr (.inl ⟨a, b, rfl, by simp [compC]⟩)
  | cond x a b =>
    cases hx : co x with
    | some x' => exact .inr (.inr (.inl ⟨x, a, b, x', rfl, hx, by simp [compC, hx]⟩))
    | none => exact .inr (.inr (.inr (.inr (.inr (.inr (.inr (.inr (.inr (by simp [compC, hx])))))))))
  | block id d => exact .inr (.inr (.inr (.inl ⟨id, d, rfl, by simp [compC]⟩)))
  | loop d => exact .inr (.inr (.inr (.inr (.inl ⟨d, rfl, by simp [compC]⟩))))
  | exit id => exact .inr (.inr (.inr (.inr (.inr (.inl ⟨id, rfl, by simp [compC]⟩)))))
  | ret => exact .inr (.inr (.inr (.inr (.inr (.inr (.inl ⟨rfl, by simp [compC]⟩))))))
  | region id ops dr =>
    cases dr with
    | false => exact .inr (.inr (.inr (.inr (.inr (.inr (.inr (.inl ⟨id, ops, rfl, by simp [compC]⟩)))))))
    | true =>
      by_cases h : (onsOk ops && (statOk (soL P n ops) (masks (onsOf ops) ops.size))) = true
      · have h' := h
        rw [Bool.and_eq_true] at h'
        exact .inr (.inr (.inr (.inr (.inr (.inr (.inr (.inr (.inl ⟨id, ops, rfl, h'.1, h'.2, by simp only [compC]; rw [if_pos h]⟩))))))))
      · exact .inr (.inr (.inr (.inr (.inr (.inr (.inr (.inr (.inr (by simp only [compC]; rw [if_neg h])))))))))
  | _ => exact .inr (.inr (.inr (.inr (.inr (.inr (.inr (.inr (.inr (by simp [compC])))))))))

theorem cc_skip {c : Code} (h : compC P n c = .skip) : c = .skip := by rcases compC_cases (P := P) (n := n) c with ⟨e, e'⟩ | ⟨_, _, e, e'⟩ | ⟨_, _, _, _, e, hx, e'⟩ | ⟨_, _, e, e'⟩ | ⟨_, e, e'⟩ | ⟨_, e, e'⟩ | ⟨e, e'⟩ | ⟨_, _, e, e'⟩ | ⟨_, _, e, h1, h2, e'⟩ | e' <;> rw [h] at e' <;> cases e'; exact e
theorem cc_ret {c : Code} (h : compC P n c = .ret) : c = .ret := by rcases compC_cases (P := P) (n := n) c with ⟨e, e'⟩ | ⟨_, _, e, e'⟩ | ⟨_, _, _, _, e, hx, e'⟩ | ⟨_, _, e, e'⟩ | ⟨_, e, e'⟩ | ⟨_, e, e'⟩ | ⟨e, e'⟩ | ⟨_, _, e, e'⟩ | ⟨_, _, e, h1, h2, e'⟩ | e' <;> rw [h] at e' <;> cases e'; exact e
theorem cc_seq {c : Code} {x y : SC} (h : compC P n c = .seq x y) : ∃ a b, c = .seq a b ∧ compC P n a = x ∧ compC P n b = y := by rcases compC_cases (P := P) (n := n) c with ⟨e, e'⟩ | ⟨_, _, e, e'⟩ | ⟨_, _, _, _, e, hx, e'⟩ | ⟨_, _, e, e'⟩ | ⟨_, e, e'⟩ | ⟨_, e, e'⟩ | ⟨e, e'⟩ | ⟨_, _, e, e'⟩ | ⟨_, _, e, h1, h2, e'⟩ | e' <;> rw [h] at e' <;> cases e'; exact ⟨_, _, e, rfl, rfl⟩
theorem cc_block {c : Code} {id : Nat} {x : SC} (h : compC P n c = .block id x) : ∃ d, c = .block id d ∧ compC P n d = x := by rcases compC_cases (P := P) (n := n) c with ⟨e, e'⟩ | ⟨_, _, e, e'⟩ | ⟨_, _, _, _, e, hx, e'⟩ | ⟨_, _, e, e'⟩ | ⟨_, e, e'⟩ | ⟨_, e, e'⟩ | ⟨e, e'⟩ | ⟨_, _, e, e'⟩ | ⟨_, _, e, h1, h2, e'⟩ | e' <;> rw [h] at e' <;> cases e'; exact ⟨_, e, rfl⟩
theorem cc_loop {c : Code} {x : SC} (h : compC P n c = .loop x) : ∃ d, c = .loop d ∧ compC P n d = x := by rcases compC_cases (P := P) (n := n) c with ⟨e, e'⟩ | ⟨_, _, e, e'⟩ | ⟨_, _, _, _, e, hx, e'⟩ | ⟨_, _, e, e'⟩ | ⟨_, e, e'⟩ | ⟨_, e, e'⟩ | ⟨e, e'⟩ | ⟨_, _, e, e'⟩ | ⟨_, _, e, h1, h2, e'⟩ | e' <;> rw [h] at e' <;> cases e'; exact ⟨_, e, rfl⟩
theorem cc_exit {c : Code} {id : Nat} (h : compC P n c = .exit id) : c = .exit id := by rcases compC_cases (P := P) (n := n) c with ⟨e, e'⟩ | ⟨_, _, e, e'⟩ | ⟨_, _, _, _, e, hx, e'⟩ | ⟨_, _, e, e'⟩ | ⟨_, e, e'⟩ | ⟨_, e, e'⟩ | ⟨e, e'⟩ | ⟨_, _, e, e'⟩ | ⟨_, _, e, h1, h2, e'⟩ | e' <;> rw [h] at e' <;> cases e'; exact e
theorem cc_cond {c : Code} {x' : SO} {x y : SC} (h : compC P n c = .cond x' x y) : ∃ z a b, c = .cond z a b ∧ co z = some x' ∧ compC P n a = x ∧ compC P n b = y := by rcases compC_cases (P := P) (n := n) c with ⟨e, e'⟩ | ⟨_, _, e, e'⟩ | ⟨_, _, _, _, e, hx, e'⟩ | ⟨_, _, e, e'⟩ | ⟨_, e, e'⟩ | ⟨_, e, e'⟩ | ⟨e, e'⟩ | ⟨_, _, e, e'⟩ | ⟨_, _, e, h1, h2, e'⟩ | e' <;> rw [h] at e' <;> cases e'; exact ⟨_, _, _, e, hx, rfl, rfl⟩
theorem cc_reg {c : Code} {l : List SOp} (h : compC P n c = .reg l) : ∃ id ops, c = .region id ops false ∧ soL P n ops = l := by rcases compC_cases (P := P) (n := n) c with ⟨e, e'⟩ | ⟨_, _, e, e'⟩ | ⟨_, _, _, _, e, hx, e'⟩ | ⟨_, _, e, e'⟩ | ⟨_, e, e'⟩ | ⟨_, e, e'⟩ | ⟨e, e'⟩ | ⟨_, _, e, e'⟩ | ⟨_, _, e, h1, h2, e'⟩ | e' <;> rw [h] at e' <;> cases e'; exact ⟨_, _, e, rfl⟩
theorem cc_regD {c : Code} {l : List SOp} {ps : List (Nat × Nat)} (h : compC P n c = .regD l ps) : ∃ id ops, c = .region id ops true ∧ onsOk ops = true ∧ statOk (soL P n ops) (masks (onsOf ops) ops.size) = true ∧
    soL P n ops = l ∧ dynP (soL P n ops) (masks (onsOf ops) ops.size) = ps := by rcases compC_cases (P := P) (n := n) c with ⟨e, e'⟩ | ⟨_, _, e, e'⟩ | ⟨_, _, _, _, e, hx, e'⟩ | ⟨_, _, e, e'⟩ | ⟨_, e, e'⟩ | ⟨_, e, e'⟩ | ⟨e, e'⟩ | ⟨_, _, e, e'⟩ | ⟨_, _, e, h1, h2, e'⟩ | e' <;> rw [h] at e' <;> cases e'; exact ⟨_, _, e, h1, h2, rfl, rfl⟩

theorem V.sound (hmx : P.follows .mixedOrders = true) {Q : St → Prop} {its : List It} {s : Slots} {H : Heap} (h : V P n m0 Q its s H) : Sem P n m0 Q its s H := by
  induction h with
  | nil h =>
    intro ks hm w0 G0 h0 hb0 a w G hr ht b cs
    cases hm
    obtain ⟨G', st', r1, r2, r3⟩ := h w0 G0 h0 hb0 a w G hr ht
    exact ⟨a, w, G', st', [], .one step_end, r1, r2, r3⟩
  | skip h ih =>
    intro ks hm w0 G0 h0 hb0 a w G hr ht b cs
    obtain ⟨c, ks', rfl, hc, hm'⟩ := hm.code_inv
    obtain rfl := cc_skip hc
    obtain ⟨a', w', G', st', todo, r1, r2⟩ := ih ks' hm' w0 G0 h0 hb0 a w G hr ht b cs
    exact ⟨a', w', G', st', todo, .head step_skip r1, r2⟩
  | ret h =>
    intro ks hm w0 G0 h0 hb0 a w G hr ht b cs
    obtain ⟨c, ks', rfl, hc, hm'⟩ := hm.code_inv
    obtain rfl := cc_ret hc
    obtain ⟨G', st', r1, r2, r3⟩ := h w0 G0 h0 hb0 a w G hr ht
    exact ⟨a, w, G', st', _, .one step_ret, r1, r2, r3⟩
  | seq h ih =>
    intro ks hm w0 G0 h0 hb0 a w G hr ht b cs
    obtain ⟨c, ks', rfl, hc, hm'⟩ := hm.code_inv
    obtain ⟨x, y, rfl, rfl, rfl⟩ := cc_seq hc
    obtain ⟨a', w', G', st', todo, r1, r2⟩ := ih _ (.code x (.code y hm')) w0 G0 h0 hb0 a w G hr ht b cs
    exact ⟨a', w', G', st', todo, .head step_seq r1, r2⟩
  | @cond x c d k s H t hb hct hcf iht ihf =>
    intro ks hm w0 G0 h0 hb0 a w G hr ht b cs
    obtain ⟨c', ks', rfl, hc, hm'⟩ := hm.code_inv
    obtain ⟨z, x1, y1, rfl, hz, rfl, rfl⟩ := cc_cond hc
    have hv := co_ok hr hz
    have hv' : a.eval z = .bool t := by
      have : ev (S s H).s x = .bool t := hb
      rw [this] at hv
      exact hv.bool_inv
    cases t with
    | true =>
      obtain ⟨a', w', G', st', todo, r1, r2⟩ := iht rfl _ (.code x1 hm') w0 G0 h0 hb0 a w G hr ht b cs
      exact ⟨a', w', G', st', todo, .head (step_cond hv') r1, r2⟩
    | false =>
      obtain ⟨a', w', G', st', todo, r1, r2⟩ := ihf rfl _ (.code y1 hm') w0 G0 h0 hb0 a w G hr ht b cs
      exact ⟨a', w', G', st', todo, .head (step_cond hv') r1, r2⟩
  | block h ih =>
    intro ks hm w0 G0 h0 hb0 a w G hr ht b cs
    obtain ⟨c, ks', rfl, hc, hm'⟩ := hm.code_inv
    obtain ⟨d, rfl, rfl⟩ := cc_block hc
    obtain ⟨a', w', G', st', todo, r1, r2⟩ := ih _ (.code d (.blk _ hm')) w0 G0 h0 hb0 a w G hr ht b cs
    exact ⟨a', w', G', st', todo, .head step_block r1, r2⟩
  | blk h ih =>
    intro ks hm w0 G0 h0 hb0 a w G hr ht b cs
    obtain ⟨ks', rfl, hm'⟩ := hm.blk_inv
    obtain ⟨a', w', G', st', todo, r1, r2⟩ := ih _ hm' w0 G0 h0 hb0 a w G hr ht b cs
    exact ⟨a', w', G', st', todo, .head step_inBlock r1, r2⟩
  | loop h =>
    intro ks hm w0 G0 h0 hb0 a w G hr ht b cs
    obtain ⟨c, ks', rfl, hc, hm'⟩ := hm.code_inv
    obtain ⟨d, rfl, rfl⟩ := cc_loop hc
    obtain ⟨a', w', G', st', todo, r1, r2⟩ := h _ (.code d (.again d hm')) w0 G0 h0 hb0 a w G hr ht b cs
    exact ⟨a', w', G', st', todo, .head step_loop r1, r2⟩
  | again h =>
    intro ks hm w0 G0 h0 hb0 a w G hr ht b cs
    obtain ⟨d, ks', rfl, rfl, hm'⟩ := hm.again_inv
    obtain ⟨a', w', G', st', todo, r1, r2⟩ := h _ (.code d (.again d hm')) w0 G0 h0 hb0 a w G hr ht b cs
    exact ⟨a', w', G', st', todo, .head step_inLoop r1, r2⟩
  | exit he h ih =>
    intro ks hm w0 G0 h0 hb0 a w G hr ht b cs
    obtain ⟨c, ks', rfl, hc, hm'⟩ := hm.code_inv
    obtain rfl := cc_exit hc
    obtain ⟨ks2, h1, h2⟩ := hm'.exit he
    obtain ⟨a', w', G', st', todo, r1, r2⟩ := ih _ h2 w0 G0 h0 hb0 a w G hr ht b cs
    exact ⟨a', w', G', st', todo, .head (step_exit h1) r1, r2⟩
  | reg E hl h ih =>
    intro ks hm w0 G0 h0 hb0 a w G hr ht b cs
    obtain ⟨c, ks', rfl, hc, hm'⟩ := hm.code_inv
    obtain ⟨id, ops, rfl, rfl⟩ := cc_reg hc
    have h1 := wp_region (P := P) (id := id) (or_ok hb0 (List.range ops.size) (ox_or hl) hr ht)
    obtain ⟨ex, a1, w1, ⟨rfl, s1, H1, G1, hE, r1, t1⟩, harr⟩ := h1 b ks' cs
    obtain ⟨a', w', G', st', todo, r2, r3, r4, r5⟩ := ih s1 H1 hE _ hm' w0 G0 h0 hb0 a1 w1 G1 r1 t1 b cs
    exact ⟨a', w', G', st', todo, Steps.trans harr r2, r3, r4, r5⟩
  | regD E hl hck h ih =>
    intro ks hm w0 G0 h0 hb0 a w G hr ht b cs
    obtain ⟨c, ks', rfl, hc, hm'⟩ := hm.code_inv
    obtain ⟨id, ops, rfl, ho, hst, rfl, rfl⟩ := cc_regD hc
    have h1 := dr_ok (P := P) (n := n) (id := id) hmx ho hst (dx_dr hl) hck hr
    obtain ⟨ex, a1, w1, ⟨rfl, log, s1, H1, G1, hE, r1, t1⟩, harr⟩ := h1 b ks' cs
    obtain ⟨a', w', G', st', todo, r2, r3, r4, r5⟩ := ih log s1 H1 hE _ hm' w0 G0 h0 hb0 a1 w1 G1 r1 (ht.trans t1) b cs
    exact ⟨a', w', G', st', todo, Steps.trans harr r2, r3, r4, r5⟩

/-- A loop's head, by a round. -/
theorem Lp.of (hmx : P.follows .mixedOrders = true) {Q : St → Prop} {c : SC} {k : List It} {s : Slots} {H : Heap} (h : V P n m0 Q (.code c :: .again c :: k) s H) : Lp P n m0 Q c k s H := h.sound hmx
end

mutual
def ren (r : Nat → Nat) : AVal → AVal
  | .row id st off len => .row (r id) st off len
  | .ptr id st i o => .ptr (r id) st i o
  | .map id => .map (r id)
  | .agg cs => .agg (renL r cs)
  | .tup cs => .tup (renL r cs)
  | .func f as bs => .func f (renL r as) (renL r bs)
  | .undef => .undef
  | .bool b => .bool b
  | .int k n => .int k n
  | .str s => .str s
  | .nil => .nil
  | .emp => .emp
  | .sl k xs => .sl k xs
  | .nptr => .nptr
  | .iptr cs o => .iptr cs o
  | .nfunc => .nfunc
def renL (r : Nat → Nat) : List AVal → List AVal
  | [] => []
  | c :: cs => ren r c :: renL r cs
end

mutual
/-- Are all its objects before this one? -/
def ltv (m : Nat) : AVal → Bool
  | .row id _ _ _ => decide (id < m)
  | .ptr id _ _ _ => decide (id < m)
  | .map id => decide (id < m)
  | .agg cs => ltL m cs
  | .tup cs => ltL m cs
  | .func _ as bs => ltL m as && ltL m bs
  | .undef => true
  | .bool _ => true
  | .int _ _ => true
  | .str _ => true
  | .nil => true
  | .emp => true
  | .sl _ _ => true
  | .nptr => true
  | .iptr _ _ => true
  | .nfunc => true
def ltL (m : Nat) : List AVal → Bool
  | [] => true
  | c :: cs => ltv m c && ltL m cs
end

def renO (r : Nat → Nat) : AObj → AObj
  | .free => .free
  | .dead => .dead
  | .cells st k t fu es => .cells st k t fu (es.map (renL r))
  | .map es => .map (es.map fun p => (p.1, ren r p.2))

def ltO (m : Nat) : AObj → Bool
  | .free => true
  | .dead => true
  | .cells _ _ _ _ es => es.all (ltL m)
  | .map es => es.all fun p => ltv m p.2

theorem renL_map (r : Nat → Nat) : ∀ cs, renL r cs = cs.map (ren r)
  | [] => by simp [renL]
  | c :: cs => by simp [renL, renL_map r cs]

theorem ltL_mem {m : Nat} : ∀ {cs : List AVal}, ltL m cs = true → ∀ c ∈ cs, ltv m c = true
  | [], _, c, h => by cases h
  | x :: cs, h, c, hc => by
    simp only [ltL, Bool.and_eq_true] at h
    rcases List.mem_cons.1 hc with rfl | hc
    · exact h.1
    · exact ltL_mem h.2 c hc

theorem renL_get {r : Nat → Nat} {cs : List AVal} {j : Nat} {c : AVal} (h : cs[j]? = some c) : (renL r cs)[j]? = some (ren r c) := by
  rw [renL_map]; simp [h]

theorem renL_get' {r : Nat → Nat} {cs : List AVal} {j : Nat} {c : AVal} (h : (renL r cs)[j]? = some c) : ∃ c', cs[j]? = some c' ∧ c = ren r c' := by
  rw [renL_map] at h
  simp at h
  obtain ⟨c', h1, h2⟩ := h
  exact ⟨c', h1, h2.symm⟩

theorem renL_length (r : Nat → Nat) (cs : List AVal) : (renL r cs).length = cs.length := by rw [renL_map]; simp

theorem renO_free {r : Nat → Nat} {o : AObj} : renO r o = .free ↔ o = .free := by cases o <;> simp [renO]
theorem renO_live (r : Nat → Nat) (o : AObj) : (renO r o).live = o.live := by cases o <;> rfl
theorem renO_cells {r : Nat → Nat} {o : AObj} {st k : Nat} {t : TypeId} {fu : Bool} {es : List (List AVal)} (h : renO r o = .cells st k t fu es) : ∃ es0, o = .cells st k t fu es0 ∧ es = es0.map (renL r) := by
  cases o <;> simp [renO] at h
  obtain ⟨h1, h2, h3, h4, h5⟩ := h
  subst h1 h2 h3 h4
  exact ⟨_, rfl, h5.symm⟩
theorem renO_map {r : Nat → Nat} {o : AObj} {es : List (Int × AVal)} (h : renO r o = .map es) : ∃ es0, o = .map es0 ∧ es = es0.map fun p => (p.1, ren r p.2) := by
  cases o <;> simp [renO] at h
  exact ⟨_, rfl, h.symm⟩

section
variable {w : World} {G Gc : Gh} {h hc : Nat → AObj} {r : Nat → Nat} {m : Nat}

theorem VR.dn (hI : Gc.I = G.I) (hM : ∀ id, id < m → Gc.M id = G.M (r id)) (ho : ∀ id, id < m → h (r id) = renO r (hc id)) : ∀ (c : AVal) (v : Value), VR w G h (ren r c) v → ltv m c = true → VR w Gc hc c v
  | .row id st off len, v, hv, hl => by
    have hid : id < m := by simpa [ltv] using hl
    obtain ⟨a, cap, rfl, hf, hro⟩ := (show VR w G h (.row (r id) st off len) v by simpa [ren] using hv).row_inv
    refine .row id st off len cap a (fun e => hf (by rw [ho id hid, e]; rfl)) fun st' k t fu es e => ?_
    obtain ⟨h1, h2⟩ := hro st' k t fu _ (by rw [ho id hid, e]; rfl)
    refine ⟨h1, fun e' => ?_⟩
    have := h2 e'
    unfold RowOk at this ⊢
    rw [hM id hid]
    simpa using this
  | .ptr id st i o, v, hv, hl => by
    have hid : id < m := by simpa [ltv] using hl
    obtain ⟨a, rfl, hf, hro⟩ := (show VR w G h (.ptr (r id) st i o) v by simpa [ren] using hv).ptr_inv
    refine .ptr id st i o a (fun e => hf (by rw [ho id hid, e]; rfl)) fun st' k t fu es e => ?_
    obtain ⟨h1, h2⟩ := hro st' k t fu _ (by rw [ho id hid, e]; rfl)
    rw [hM id hid]
    exact ⟨h1, h2⟩
  | .map id, v, hv, hl => by
    have hid : id < m := by simpa [ltv] using hl
    obtain ⟨x, rfl, hf, hro⟩ := (show VR w G h (.map (r id)) v by simpa [ren] using hv).map_inv
    refine .map id x (fun e => hf (by rw [ho id hid, e]; rfl)) fun es e => ?_
    rw [hM id hid]
    exact hro _ (by rw [ho id hid, e]; rfl)
  | .agg cs, v, hv, hl => by
    obtain ⟨vs, rfl, h0, h1, h2⟩ := (show VR w G h (.agg (renL r cs)) v by simpa [ren] using hv).agg_inv
    refine .agg cs vs (by rw [← h0, renL_length]) h1 fun j c v hc' hv' => ?_
    have hmem := List.mem_of_getElem? hc'
    exact VR.dn hI hM ho c v (h2 j _ v (renL_get hc') hv') (ltL_mem (by simpa [ltv] using hl) c hmem)
  | .tup cs, v, hv, hl => by
    obtain ⟨vs, rfl, h0, h2⟩ := (show VR w G h (.tup (renL r cs)) v by simpa [ren] using hv).tup_inv
    refine .tup cs vs (by rw [← h0, renL_length]) fun j c v hc' hv' => ?_
    have hmem := List.mem_of_getElem? hc'
    exact VR.dn hI hM ho c v (h2 j _ v (renL_get hc') hv') (ltL_mem (by simpa [ltv] using hl) c hmem)
  | .func f as bs, v, hv, hl => by
    obtain ⟨xs, ys, rfl, h0, h0', h1, h2⟩ := (show VR w G h (.func f (renL r as) (renL r bs)) v by simpa [ren] using hv).func_inv
    have hl' : ltL m as = true ∧ ltL m bs = true := by simpa [ltv] using hl
    refine .func f as bs xs ys (by rw [← h0, renL_length]) (by rw [← h0', renL_length]) (fun j c v hc' hv' => ?_) fun j c v hc' hv' => ?_
    · have hmem := List.mem_of_getElem? hc'
      exact VR.dn hI hM ho c v (h1 j _ v (renL_get hc') hv') (ltL_mem hl'.1 c hmem)
    · have hmem := List.mem_of_getElem? hc'
      exact VR.dn hI hM ho c v (h2 j _ v (renL_get hc') hv') (ltL_mem hl'.2 c hmem)
  | .undef, v, hv, hl => .undef v
  | .bool b, v, hv, hl => by simp only [ren] at hv; cases hv with | cl _ _ hc => exact .cl _ _ (by rw [hI]; exact hc)
  | .int k n, v, hv, hl => by simp only [ren] at hv; cases hv with | cl _ _ hc => exact .cl _ _ (by rw [hI]; exact hc)
  | .str s, v, hv, hl => by simp only [ren] at hv; cases hv with | cl _ _ hc => exact .cl _ _ (by rw [hI]; exact hc)
  | .nil, v, hv, hl => by simp only [ren] at hv; cases hv with | cl _ _ hc => exact .cl _ _ (by rw [hI]; exact hc)
  | .emp, v, hv, hl => by simp only [ren] at hv; cases hv with | cl _ _ hc => exact .cl _ _ (by rw [hI]; exact hc)
  | .sl k xs, v, hv, hl => by simp only [ren] at hv; cases hv with | cl _ _ hc => exact .cl _ _ (by rw [hI]; exact hc)
  | .nptr, v, hv, hl => by simp only [ren] at hv; cases hv with | cl _ _ hc => exact .cl _ _ (by rw [hI]; exact hc)
  | .iptr cs o, v, hv, hl => by simp only [ren] at hv; cases hv with | cl _ _ hc => exact .cl _ _ (by rw [hI]; exact hc)
  | .nfunc, v, hv, hl => by simp only [ren] at hv; cases hv with | cl _ _ hc => exact .cl _ _ (by rw [hI]; exact hc)
termination_by c => SizeOf.sizeOf c
decreasing_by
  all_goals (have := List.sizeOf_lt_of_mem hmem; simp; omega)

theorem VR.up (hI : Gc.I = G.I) (hM : ∀ id, hc id ≠ .free → G.M (r id) = Gc.M id ∧ h (r id) = renO r (hc id)) {c : AVal} {v : Value} (hv : VR w Gc hc c v) : VR w G h (ren r c) v := by
  induction hv with
  | undef v => exact .undef v
  | cl c v hc =>
    rw [hI] at hc
    have : ren r c = c := by cases hc <;> simp [ren]
    rw [this]
    exact .cl _ _ hc
  | row id st off len cap a hf ho =>
    obtain ⟨h1, h2⟩ := hM id hf
    simp only [ren]
    refine .row (r id) st off len cap a (by rw [h2]; exact fun e => hf (renO_free.1 e)) fun st' k t fu es e => ?_
    rw [h2] at e
    obtain ⟨es0, e0, rfl⟩ := renO_cells e
    obtain ⟨g1, g2⟩ := ho st' k t fu es0 e0
    refine ⟨g1, fun e' => ?_⟩
    have := g2 e'
    unfold RowOk at this ⊢
    rw [h1]
    simpa using this
  | ptr id st i o a hf ho =>
    obtain ⟨h1, h2⟩ := hM id hf
    simp only [ren]
    refine .ptr (r id) st i o a (by rw [h2]; exact fun e => hf (renO_free.1 e)) fun st' k t fu es e => ?_
    rw [h2] at e
    obtain ⟨es0, e0, rfl⟩ := renO_cells e
    rw [h1]
    exact ho st' k t fu es0 e0
  | map id x hf ho =>
    obtain ⟨h1, h2⟩ := hM id hf
    simp only [ren]
    refine .map (r id) x (by rw [h2]; exact fun e => hf (renO_free.1 e)) fun es e => ?_
    rw [h2] at e
    obtain ⟨es0, e0, rfl⟩ := renO_map e
    rw [h1]
    exact ho es0 e0
  | agg cs vs hl h1 _ ih =>
    simp only [ren]
    refine .agg _ vs (by rw [renL_length]; exact hl) h1 fun j c v hc' hv' => ?_
    obtain ⟨c', h2, rfl⟩ := renL_get' hc'
    exact ih j c' v h2 hv'
  | tup cs vs hl _ ih =>
    simp only [ren]
    refine .tup _ vs (by rw [renL_length]; exact hl) fun j c v hc' hv' => ?_
    obtain ⟨c', h2, rfl⟩ := renL_get' hc'
    exact ih j c' v h2 hv'
  | func f as bs xs ys hl hl' _ _ ih ih' =>
    simp only [ren]
    refine .func f _ _ xs ys (by rw [renL_length]; exact hl) (by rw [renL_length]; exact hl') (fun j c v hc' hv' => ?_) fun j c v hc' hv' => ?_
    · obtain ⟨c', h2, rfl⟩ := renL_get' hc'
      exact ih j c' v h2 hv'
    · obtain ⟨c', h2, rfl⟩ := renL_get' hc'
      exact ih' j c' v h2 hv'

theorem ObjOk.dn (hI : Gc.I = G.I) (hM : ∀ id, id < m → Gc.M id = G.M (r id)) (ho : ∀ id, id < m → h (r id) = renO r (hc id)) {id : Nat} (hid : id < m) {o : AObj} (hl : ltO m o = true) (hok : ObjOk w G h (r id) (renO r o)) : ObjOk w Gc hc id o := by
  cases o with
  | free => trivial
  | dead => trivial
  | cells st k t fu es =>
    simp only [renO] at hok
    obtain ⟨h1, h2, h3⟩ := hok
    simp only [ltO, List.all_eq_true] at hl
    refine ⟨h1, fun e he => by rw [← renL_length r e]; exact h2 _ (List.mem_map.2 ⟨e, he, rfl⟩), ?_⟩
    rw [hM id hid, hI]
    rcases h3 with ⟨a1, a2⟩ | ⟨b, C, cs, a1, a2, a3, a4, a5, a6, a7, a8, a9⟩
    · exact .inl ⟨a1, by simpa using a2⟩
    · refine .inr ⟨b, C, cs, a1, a2, a3, a4, by simpa using a5, fun e => by simpa using a6 e, a7, a8, fun i e j c v b1 b2 b3 => ?_⟩
      exact VR.dn hI hM ho c v (a9 i (renL r e) j _ v (by simp [b1]) (renL_get b2) b3) (ltL_mem (hl e (List.mem_of_getElem? b1)) c (List.mem_of_getElem? b2))
  | map es =>
    simp only [renO] at hok
    obtain ⟨b, C, ents, clock, a1, a2, a3, a4, a5⟩ := hok
    simp only [ltO, List.all_eq_true] at hl
    refine ⟨b, C, ents, clock, by rw [hM id hid]; exact a1, by rw [hI]; exact a2, a3, by simpa using a4, fun i n c e b1 b2 => ?_⟩
    obtain ⟨c1, c2⟩ := a5 i n (ren r c) e (by simp [b1]) b2
    exact ⟨c1, VR.dn hI hM ho c _ c2 (hl _ (List.mem_of_getElem? b1))⟩

theorem ObjOk.up (hI : Gc.I = G.I) (hM : ∀ id, hc id ≠ .free → G.M (r id) = Gc.M id ∧ h (r id) = renO r (hc id)) {id : Nat} {o : AObj} (hMi : o.live = true → G.M (r id) = Gc.M id) (hok : ObjOk w Gc hc id o) : ObjOk w G h (r id) (renO r o) := by
  cases o with
  | free => trivial
  | dead => trivial
  | cells st k t fu es =>
    obtain ⟨h1, h2, h3⟩ := hok
    refine ⟨h1, fun e he => ?_, ?_⟩
    · obtain ⟨e0, he0, rfl⟩ := List.mem_map.1 he
      rw [renL_length]; exact h2 e0 he0
    · rw [hMi rfl, ← hI]
      rcases h3 with ⟨a1, a2⟩ | ⟨b, C, cs, a1, a2, a3, a4, a5, a6, a7, a8, a9⟩
      · exact .inl ⟨a1, by simpa using a2⟩
      · refine .inr ⟨b, C, cs, a1, a2, a3, a4, by simpa using a5, fun e => by simpa using a6 e, a7, a8, fun i e j c v b1 b2 b3 => ?_⟩
        simp at b1
        obtain ⟨e0, b1, rfl⟩ := b1
        obtain ⟨c0, b2x, rfl⟩ := renL_get' b2
        exact (a9 i e0 j c0 v b1 b2x b3).up hI hM
  | map es =>
    obtain ⟨b, C, ents, clock, a1, a2, a3, a4, a5⟩ := hok
    refine ⟨b, C, ents, clock, by rw [hMi rfl]; exact a1, by rw [← hI]; exact a2, a3, by simpa using a4, fun i n c e b1 b2 => ?_⟩
    simp at b1
    obtain ⟨n0, c0, b1, rfl, rfl⟩ := b1
    obtain ⟨c1, c2⟩ := a5 i n0 c0 e b1 b2
    exact ⟨c1, c2.up hI hM⟩

/-- A part of a heap for itself. -/
theorem HR.dn (hr : HR w G h) (hinj : ∀ i j, i < m → j < m → r i = r j → i = j) (ho : ∀ id, id < m → h (r id) = renO r (hc id)) (hout : ∀ id, m ≤ id → hc id = .free) (hl : ∀ id, id < m → ltO m (hc id) = true) :
    HR w ⟨G.I, fun id => if id < m then G.M (r id) else none⟩ hc where
  obj := fun id => by
    by_cases hid : id < m
    · exact ObjOk.dn (G := G) (Gc := ⟨G.I, fun id => if id < m then G.M (r id) else none⟩) rfl (fun id hid => by simp [hid]) ho hid (hl id hid) (by rw [← ho id hid]; exact hr.obj (r id))
    · rw [hout id (by omega)]; trivial
  inj := fun i j b C C' l1 l2 m1 m2 => by
    have hi : i < m := by
      rcases Nat.lt_or_ge i m with h' | h'
      · exact h'
      · rw [hout i h'] at l1; cases l1
    have hj : j < m := by
      rcases Nat.lt_or_ge j m with h' | h'
      · exact h'
      · rw [hout j h'] at l2; cases l2
    simp only [hi, hj, if_true] at m1 m2
    refine hinj i j hi hj (hr.inj _ _ b C C' ?_ ?_ m1 m2)
    · rw [ho i hi, renO_live]; exact l1
    · rw [ho j hj, renO_live]; exact l2
  lt := hr.lt
end

/-- A part of the heap has gone on for itself: so has the whole. -/
theorem HR.up {w w' : World} {G Gc' : Gh} {h hc hc' h' : Nat → AObj} {M' : Nat → Option (Nat × Nat)} {r : Nat → Nat} {m m' : Nat} (hr : HR w G h) (hmm : m ≤ m') (hinj : ∀ i j, i < m' → j < m' → r i = r j → i = j)
    (ho : ∀ id, id < m → h (r id) = renO r (hc id)) (hout : ∀ id, m ≤ id → hc id = .free) (hrc : HR w ⟨G.I, fun id => if id < m then G.M (r id) else none⟩ hc)
    (hrc' : HR w' Gc' hc') (t : Tr w ⟨G.I, fun id => if id < m then G.M (r id) else none⟩ hc w' Gc' hc') (hout' : ∀ id, m' ≤ id → hc' id = .free) (hnew : ∀ id, m ≤ id → id < m' → h (r id) = .free)
    (h1 : ∀ id, id < m' → h' (r id) = renO r (hc' id) ∧ M' (r id) = Gc'.M id) (h2 : ∀ x, (∀ id, id < m' → x ≠ r id) → h' x = h x ∧ M' x = G.M x) :
    HR w' ⟨Gc'.I, M'⟩ h' ∧ Tr w G h w' ⟨Gc'.I, M'⟩ h' := by
  have cov : ∀ x, (∃ id, id < m' ∧ x = r id) ∨ ∀ id, id < m' → x ≠ r id := fun x => by
    by_cases hx : ∃ id, id < m' ∧ x = r id
    · exact .inl hx
    · exact .inr fun id hid e => hx ⟨id, hid, e⟩
  have ownc : ∀ b, Owned ⟨G.I, fun id => if id < m then G.M (r id) else none⟩ hc b → ∃ id C, id < m ∧ (h (r id)).live = true ∧ G.M (r id) = some (b, C) := by
    rintro b ⟨id, C, hl, hM⟩
    have hid : id < m := by
      rcases Nat.lt_or_ge id m with h' | h'
      · exact h'
      · rw [hout id h'] at hl; cases hl
    simp only [hid, if_true] at hM
    exact ⟨id, C, hid, by rw [ho id hid, renO_live]; exact hl, hM⟩
  have hext : Ext G.M h M' h' := by
    refine ⟨fun x hx => ?_, fun x st k t' fu es' hx hh => ?_, fun x es' hx hh => ?_⟩
    · rcases cov x with ⟨id, hid, rfl⟩ | hx'
      · have hm : id < m := by
          rcases Nat.lt_or_ge id m with h' | h'
          · exact h'
          · exact absurd (hnew id h' hid) hx
        rw [(h1 id hid).1]
        intro e
        refine t.ext.free id (fun e' => hx ?_) (renO_free.1 e)
        rw [ho id hm, e']; rfl
      · rw [(h2 x hx').1]; exact hx
    · rcases cov x with ⟨id, hid, rfl⟩ | hx'
      · have hm : id < m := by
          rcases Nat.lt_or_ge id m with h' | h'
          · exact h'
          · exact absurd (hnew id h' hid) hx
        rw [(h1 id hid).1] at hh
        obtain ⟨es0, e0, rfl⟩ := renO_cells hh
        obtain ⟨st0, k0, t0, fu0, es, e1, l1, c1⟩ := t.ext.cells id st k t' fu es0 (fun e' => hx (by rw [ho id hm, e']; rfl)) e0
        refine ⟨st0, k0, t0, fu0, es.map (renL r), by rw [ho id hm, e1]; rfl, l1, fun e => ?_⟩
        obtain ⟨p1, p2, p3⟩ := c1 e
        refine ⟨p1, by simpa using p2, ?_⟩
        rw [(h1 id hid).2, p3]
        simp [hm]
      · rw [(h2 x hx').1] at hh
        exact ⟨_, _, _, _, _, hh, Nat.le_refl _, fun _ => ⟨rfl, Nat.le_refl _, (h2 x hx').2⟩⟩
    · rcases cov x with ⟨id, hid, rfl⟩ | hx'
      · have hm : id < m := by
          rcases Nat.lt_or_ge id m with h' | h'
          · exact h'
          · exact absurd (hnew id h' hid) hx
        rw [(h1 id hid).1] at hh
        obtain ⟨es0, e0, rfl⟩ := renO_map hh
        obtain ⟨es, e1, c1⟩ := t.ext.map id es0 (fun e' => hx (by rw [ho id hm, e']; rfl)) e0
        refine ⟨es.map fun p => (p.1, ren r p.2), by rw [ho id hm, e1]; rfl, ?_⟩
        rw [(h1 id hid).2, c1]
        simp [hm]
      · rw [(h2 x hx').1] at hh
        exact ⟨_, hh, (h2 x hx').2⟩
  have hI : ∀ b, G.I b → Gc'.I b := t.I
  have hIw : ∀ b, G.I b → w'.heap[b]? = w.heap[b]? := fun b hb => t.keepI hrc b hb
  have hM' : ∀ id, hc' id ≠ .free → M' (r id) = Gc'.M id ∧ h' (r id) = renO r (hc' id) := fun id hid => by
    have : id < m' := by
      rcases Nat.lt_or_ge id m' with h' | h'
      · exact h'
      · exact absurd (hout' id h') hid
    exact ⟨(h1 id this).2, (h1 id this).1⟩
  have other : ∀ x b C, (∀ id, id < m' → x ≠ r id) → (h x).live = true → G.M x = some (b, C) → ¬ Owned ⟨G.I, fun id => if id < m then G.M (r id) else none⟩ hc b := by
    intro x b C hx hl hM ho'
    obtain ⟨id, C', hid, hl', hM2⟩ := ownc b ho'
    exact hx id (by omega) (hr.inj _ _ _ _ _ hl hl' hM hM2)
  refine ⟨⟨fun x => ?_, fun x y b C C' l1 l2 m1 m2 => ?_, hrc'.lt⟩, ⟨t.size, fun b hb hno => t.keep b hb fun hno' => hno ?_, t.os, t.tape, t.output, hI, fun b hb => ?_, fun b hb => ?_, hext⟩⟩
  · rcases cov x with ⟨id, hid, rfl⟩ | hx'
    · rw [(h1 id hid).1]
      exact ObjOk.up (G := ⟨Gc'.I, M'⟩) (Gc := Gc') rfl hM' (fun _ => (h1 id hid).2) (hrc'.obj id)
    · rw [(h2 x hx').1]
      refine (hr.obj x).mono (fun _ => (h2 x hx').2) hI hIw (fun b C l mm => ⟨fun hb => ?_, ?_⟩) hext
      · have hlt := hr.ownLt b C x l mm
        rcases t.I' b hb with h3 | h3 | h3
        · exact hr.notI ⟨x, C, l, mm⟩ h3
        · exact other x b C hx' l mm h3
        · omega
      · exact t.keep b (hr.ownLt b C x l mm) (other x b C hx' l mm)
  · rcases cov x with ⟨i, hi, rfl⟩ | hx' <;> rcases cov y with ⟨j, hj, rfl⟩ | hy'
    · rw [(h1 i hi).1, renO_live] at l1; rw [(h1 j hj).1, renO_live] at l2
      simp only [(h1 i hi).2, (h1 j hj).2] at m1 m2
      rw [hrc'.inj _ _ _ _ _ l1 l2 m1 m2]
    · exfalso
      rw [(h1 i hi).1, renO_live] at l1; rw [(h2 y hy').1] at l2
      simp only [(h1 i hi).2, (h2 y hy').2] at m1 m2
      rcases t.own' b ⟨i, C, l1, m1⟩ with h3 | h3
      · exact other y b C' hy' l2 m2 h3
      · have := hr.ownLt b C' y l2 m2; omega
    · exfalso
      rw [(h2 x hx').1] at l1; rw [(h1 j hj).1, renO_live] at l2
      simp only [(h2 x hx').2, (h1 j hj).2] at m1 m2
      rcases t.own' b ⟨j, C', l2, m2⟩ with h3 | h3
      · exact other x b C hx' l1 m1 h3
      · have := hr.ownLt b C x l1 m1; omega
    · rw [(h2 x hx').1] at l1; rw [(h2 y hy').1] at l2
      simp only [(h2 x hx').2, (h2 y hy').2] at m1 m2
      exact hr.inj _ _ _ _ _ l1 l2 m1 m2
  · obtain ⟨id, C, hid, hl, hM⟩ := ownc b hno'
    exact ⟨r id, C, hl, hM⟩
  · rcases t.I' b hb with h3 | h3 | h3
    · exact .inl h3
    · obtain ⟨id, C, hid, hl, hM⟩ := ownc b h3
      exact .inr (.inl ⟨r id, C, hl, hM⟩)
    · exact .inr (.inr h3)
  · obtain ⟨x, C, hl, hM⟩ := hb
    rcases cov x with ⟨id, hid, rfl⟩ | hx'
    · rw [(h1 id hid).1, renO_live] at hl
      simp only [(h1 id hid).2] at hM
      rcases t.own' b ⟨id, C, hl, hM⟩ with h3 | h3
      · obtain ⟨id, C, hid, hl, hM⟩ := ownc b h3
        exact .inl ⟨r id, C, hl, hM⟩
      · exact .inr h3
    · rw [(h2 x hx').1] at hl
      simp only [(h2 x hx').2] at hM
      exact .inl ⟨x, C, hl, hM⟩

/-- A function is called, or what stands in its place. -/
def Inv (P : Program) (f : FuncId) (vs : Array Value) (w : World) (R : Value → World → Prop) : Prop :=
  ∃ nx w1, (callFunc f vs).run P w = .ok nx w1 ∧ match nx with
    | .value v => R v w1
    | .enter g as => Calls P g as w1 (fun e w' => match e with | .returned v => R v w' | _ => False)
    | _ => False

/-- A function's contract: arguments and heap; result and heap. -/
def ACalls (P : Program) (f : FuncId) (args : List AVal) (H : Heap) (r : AVal) (H' : Heap) : Prop :=
  ∀ w G (vs : Array Value), HR w G (getO H) → vs.size = args.length → (∀ (j : Nat) c v, args[j]? = some c → vs[j]? = some v → VR w G (getO H) c v) →
    Inv P f vs w fun v w' => ∃ G', VR w' G' (getO H') r v ∧ HR w' G' (getO H') ∧ Tr w G (getO H) w' G' (getO H')

def rho (ρ : List Nat) (m base : Nat) (id : Nat) : Nat := if id < m then ρ.getD id 0 else base + (id - m)

def callEff (d : Option Nat) (ρ : List Nat) (m base : Nat) (ws : List Nat) (rv : AVal) (Hc' : Heap) : Eff :=
  ⟨d, ren (rho ρ m base) rv, ρ, ws.map fun j => (ρ.getD j 0, renO (rho ρ m base) (getO Hc' j)), (Hc'.drop m).map (renO (rho ρ m base))⟩

section
variable {P : Program} {n m0 : Nat}

theorem call_loc {d : Option Nat} {f : SO} {xs : List SO} {s : Slots} {H : Heap} {g : FuncId} {first caps cargs : List AVal} {Hc Hc' : Heap} {rv : AVal} {ρ ws : List Nat}
    (hf : ev (get s) f = .func g first caps) (hargs : renL (rho ρ Hc.length H.length) cargs = first ++ evs (get s) xs ++ caps) (hlt : ltL Hc.length cargs = true) (hltH : Hc.all (ltO Hc.length) = true)
    (hρ : ρ.length = Hc.length) (hnd : ρ.Nodup) (hb : ∀ x ∈ ρ, x < H.length) (hobj : ∀ j, j < Hc.length → getO H (ρ.getD j 0) = renO (rho ρ Hc.length H.length) (getO Hc j)) (hA : ACalls P g cargs Hc rv Hc')
    (hm : Hc.length ≤ Hc'.length) (hws : ∀ j, j < Hc.length → j ∉ ws → getO Hc' j = getO Hc j) (hws' : ∀ j ∈ ws, j < Hc.length) :
    LocOp P n (.call d f xs) (S s H) H.length (callEff d ρ Hc.length H.length ws rv Hc') ∧ (callEff d ρ Hc.length H.length ws rv Hc').inH H := by
  have hgetρ : ∀ j, j < Hc.length → ρ.getD j 0 ∈ ρ := fun j hj => by
    have : j < ρ.length := by omega
    simp [List.getD, this]
  have hrj : ∀ j, j < Hc.length → rho ρ Hc.length H.length j = ρ.getD j 0 := fun j hj => by simp [rho, hj]
  have hinj : ∀ i j, i < Hc'.length → j < Hc'.length → rho ρ Hc.length H.length i = rho ρ Hc.length H.length j → i = j := by
    intro i j hi hj e
    unfold rho at e
    by_cases h1 : i < Hc.length <;> by_cases h2 : j < Hc.length
    · rw [if_pos h1, if_pos h2] at e
      have l1 : i < ρ.length := by omega
      have l2 : j < ρ.length := by omega
      simp only [List.getD, List.getElem?_eq_getElem l1, List.getElem?_eq_getElem l2, Option.getD_some] at e
      rcases Nat.lt_trichotomy i j with h | h | h
      · exact absurd e ((List.pairwise_iff_getElem.1 hnd) i j l1 l2 h)
      · exact h
      · exact absurd e.symm ((List.pairwise_iff_getElem.1 hnd) j i l2 l1 h)
    · rw [if_pos h1, if_neg h2] at e
      have := hb _ (hgetρ i h1)
      omega
    · rw [if_neg h1, if_pos h2] at e
      have := hb _ (hgetρ j h2)
      omega
    · rw [if_neg h1, if_neg h2] at e
      omega
  refine ⟨⟨⟨by simp, rfl, ?_, by simp [pureS], by simp [readS, pureS]⟩, fun o ho s' h' hs hh hfr hex => ?_⟩, fun p hp => ?_⟩
  · intro p hp
    simp only [callEff, List.mem_map] at hp
    obtain ⟨j, hj, rfl⟩ := hp
    exact hgetρ j (hws' j hj)
  · intro a w G hr
    obtain ⟨hd, hdn, c, g0, hop, hcal, hg0, hxs⟩ := comp_call ho
    have hev : ev s' f = .func g first caps := by rw [← hf]; exact ev_congr fun t ht => hs t (by simp [rdT, ht])
    have hevs : evs s' xs = evs (get s) xs := evs_congr fun t ht => hs t (by simp [rdT, ht])
    have hvg := co_ok hr hg0
    have hvg' : VR w G h' (.func g first caps) (a.eval g0) := by rw [← hev]; exact hvg
    obtain ⟨fs, cs, eg, lf, lc, vf, vc⟩ := hvg'.func_inv
    obtain ⟨la, va⟩ := cos_ok hr hxs
    have hvargs : ∀ (j : Nat) x v, (first ++ evs (get s) xs ++ caps)[j]? = some x → (fs ++ c.args.map a.eval ++ cs)[j]? = some v → VR w G h' x v := by
      intro j x v hx hv
      have l1 : (evs (get s) xs).length = c.args.size := by rw [← hevs]; simpa using la
      by_cases h1 : j < first.length + (evs (get s) xs).length
      · rw [List.getElem?_append_left (by simpa using h1)] at hx
        rw [Array.getElem?_append_left (by simp; omega)] at hv
        by_cases h2 : j < first.length
        · rw [List.getElem?_append_left h2] at hx
          rw [Array.getElem?_append_left (by omega)] at hv
          exact vf j x v hx hv
        · rw [List.getElem?_append_right (by omega)] at hx
          rw [Array.getElem?_append_right (by omega)] at hv
          rw [← hevs] at hx
          rw [← lf] at hv
          obtain ⟨y, hy, rfl⟩ : ∃ y, c.args[j - first.length]? = some y ∧ a.eval y = v := by simpa using hv
          exact va (j - first.length) x y hx (by simpa using hy)
      · rw [List.getElem?_append_right (by simp; omega)] at hx
        rw [Array.getElem?_append_right (by simp; omega)] at hv
        have e1 : j - (fs ++ c.args.map a.eval).size = j - (first ++ evs (get s) xs).length := by simp; omega
        rw [e1] at hv
        exact vc _ x v hx hv
    have hsz : (fs ++ c.args.map a.eval ++ cs).size = cargs.length := by
      have h1 : cargs.length = (first ++ evs (get s) xs ++ caps).length := by rw [← hargs, renL_length]
      have l1 : (evs (get s) xs).length = c.args.size := by rw [← hevs]; simpa using la
      rw [h1]; simp; omega
    have hho : ∀ id, id < Hc.length → h' (rho ρ Hc.length H.length id) = renO (rho ρ Hc.length H.length) (getO Hc id) := fun id hid => by
      rw [← hobj id hid, hrj id hid]
      exact hh _ (hgetρ id hid)
    have hout : ∀ id, Hc.length ≤ id → getO Hc id = .free := fun id hid => getO_free hid
    have hrc := HR.dn (r := rho ρ Hc.length H.length) (m := Hc.length) (hc := getO Hc) hr.heap (fun i j hi hj => hinj i j (by omega) (by omega)) hho hout (fun id hid => by
      rw [List.all_eq_true] at hltH
      have : getO Hc id = Hc[id] := by simp [getO, List.getD, hid]
      rw [this]
      exact hltH _ (List.getElem_mem _))
    obtain ⟨nx, w1, hrun, hnx⟩ := hA w _ (fs ++ c.args.map a.eval ++ cs) hrc hsz (fun j cc v hc hv => by
      refine VR.dn (G := G) (Gc := ⟨G.I, fun id => if id < Hc.length then G.M (rho ρ Hc.length H.length id) else none⟩) (r := rho ρ Hc.length H.length) (m := Hc.length) rfl (fun id hid => if_pos hid) hho cc v (hvargs j _ v ?_ hv) (ltL_mem hlt cc (List.mem_of_getElem? hc))
      rw [← hargs]
      exact renL_get hc)
    have hexec : (execOp a.eval o).run P w = (callFunc g (fs ++ c.args.map a.eval ++ cs)).run P w := by
      simp [execOp, hop, resolve, hcal, eg, Deferred.ofValue, invoke]
    -- back
    have back : ∀ v w', (∃ G', VR w' G' (getO Hc') rv v ∧ HR w' G' (getO Hc') ∧ Tr w ⟨G.I, fun id => if id < Hc.length then G.M (rho ρ Hc.length H.length id) else none⟩ (getO Hc) w' G' (getO Hc')) →
        ∃ G', Rel n (Eff.app (callEff d ρ Hc.length H.length ws rv Hc') ⟨s', h'⟩ H.length) (a.put o.dst v) w' G' ∧ Tr w G h' w' G' (Eff.heap (callEff d ρ Hc.length H.length ws rv Hc') h' H.length) := by
      rintro v w' ⟨G', k1, k2, k3⟩
      have hnw : (callEff d ρ Hc.length H.length ws rv Hc').nw.length = Hc'.length - Hc.length := by simp [callEff]
      have hheap1 : ∀ id, id < Hc'.length → Eff.heap (callEff d ρ Hc.length H.length ws rv Hc') h' H.length (rho ρ Hc.length H.length id) = renO (rho ρ Hc.length H.length) (getO Hc' id) := by
        intro id hid
        unfold Eff.heap
        rw [hnw]
        by_cases h1 : id < Hc.length
        · have hx := hb _ (hgetρ id h1)
          rw [hrj id h1, if_neg (by omega)]
          by_cases h2 : id ∈ ws
          · have hfind : ∀ (ws : List Nat), id ∈ ws → (∀ j ∈ ws, j < Hc.length) → ∃ p, (ws.map fun j => (ρ.getD j 0, renO (rho ρ Hc.length H.length) (getO Hc' j))).find? (fun p => p.1 == ρ.getD id 0) = some p ∧ p.2 = renO (rho ρ Hc.length H.length) (getO Hc' id) := by
              intro ws
              induction ws with
              | nil => intro h; cases h
              | cons j ws ih =>
                intro hmem hall
                simp only [List.map_cons, List.find?_cons]
                by_cases e : ρ.getD j 0 = ρ.getD id 0
                · have : j = id := hinj j id (by have := hall j (List.mem_cons_self ..); omega) hid (by rw [hrj j (hall j (List.mem_cons_self ..)), hrj id h1]; exact e)
                  subst this
                  have e' : (ρ.getD j 0 == ρ.getD j 0) = true := by simp
                  refine ⟨(ρ.getD j 0, renO (rho ρ Hc.length H.length) (getO Hc' j)), ?_, rfl⟩
                  rw [e']
                · have : (ρ.getD j 0 == ρ.getD id 0) = false := by simpa using e
                  rw [this]
                  refine ih ?_ fun k hk => hall k (List.mem_cons_of_mem _ hk)
                  rcases List.mem_cons.1 hmem with h | h
                  · subst h; exact absurd rfl e
                  · exact h
            obtain ⟨p, e1, e2⟩ := hfind ws h2 hws'
            simp only [callEff]
            rw [e1]
            exact e2
          · have hnone : (callEff d ρ Hc.length H.length ws rv Hc').wr.find? (fun p => p.1 == ρ.getD id 0) = none := by
              rw [List.find?_eq_none]
              intro p hp
              simp only [callEff, List.mem_map] at hp
              obtain ⟨j, hj, rfl⟩ := hp
              intro e
              simp only [beq_iff_eq] at e
              have : j = id := hinj j id (by have := hws' j hj; omega) hid (by rw [hrj j (hws' j hj), hrj id h1]; exact e)
              subst this
              exact h2 hj
            rw [hnone]
            simp only
            rw [hws id h1 h2, ← hrj id h1]
            exact hho id h1
        · have e1 : rho ρ Hc.length H.length id = H.length + (id - Hc.length) := by simp [rho, h1]
          rw [e1, if_pos (by omega)]
          have e2 : H.length + (id - Hc.length) - H.length = id - Hc.length := by omega
          rw [e2]
          have e3 : Hc.length + (id - Hc.length) = id := by omega
          simp [callEff, List.getD, getO, e3, hid]
      have hheap2 : ∀ x, (∀ id, id < Hc'.length → x ≠ rho ρ Hc.length H.length id) → Eff.heap (callEff d ρ Hc.length H.length ws rv Hc') h' H.length x = h' x := by
        intro x hx
        refine heap_aff fun ha => ?_
        rcases ha with ⟨h1, h2⟩ | ⟨p, hp, e⟩
        · rw [hnw] at h2
          refine hx (x - H.length + Hc.length) (by omega) ?_
          rw [rho, if_neg (by omega)]
          omega
        · simp only [callEff, List.mem_map] at hp
          obtain ⟨j, hj, rfl⟩ := hp
          have := hws' j hj
          exact hx j (by omega) (by rw [hrj j this]; exact e.symm)
      have hfind : ∀ x, (∃ id, id < Hc'.length ∧ x = rho ρ Hc.length H.length id) ∨ ∀ id, id < Hc'.length → x ≠ rho ρ Hc.length H.length id := fun x => by
        by_cases hx : ∃ id, id < Hc'.length ∧ x = rho ρ Hc.length H.length id
        · exact .inl hx
        · exact .inr fun id hid e => hx ⟨id, hid, e⟩
      let M' : Nat → Option (Nat × Nat) := fun x => match (List.range Hc'.length).find? (fun id => rho ρ Hc.length H.length id == x) with
        | some id => G'.M id
        | none => G.M x
      have hM1 : ∀ id, id < Hc'.length → M' (rho ρ Hc.length H.length id) = G'.M id := by
        intro id hid
        have : ((List.range Hc'.length).find? fun i => rho ρ Hc.length H.length i == rho ρ Hc.length H.length id) = some id := by
          have h1 : ((List.range Hc'.length).find? fun i => rho ρ Hc.length H.length i == rho ρ Hc.length H.length id).isSome = true := by
            rw [List.find?_isSome]; exact ⟨id, by simpa using hid, by simp⟩
          obtain ⟨j, hj⟩ := Option.isSome_iff_exists.1 h1
          rw [hj]
          have h2 := List.find?_some hj
          have h3 := List.mem_of_find?_eq_some hj
          simp only [beq_iff_eq] at h2
          rw [hinj j id (by simpa using h3) hid h2]
        simp only [M', this]
      have hM2 : ∀ x, (∀ id, id < Hc'.length → x ≠ rho ρ Hc.length H.length id) → M' x = G.M x := by
        intro x hx
        have : ((List.range Hc'.length).find? fun i => rho ρ Hc.length H.length i == x) = none := by
          rw [List.find?_eq_none]
          intro i hi e
          exact hx i (by simpa using hi) (by simpa using e : _ = x).symm
        simp only [M', this]
      obtain ⟨u1, u2⟩ := HR.up (h' := Eff.heap (callEff d ρ Hc.length H.length ws rv Hc') h' H.length) (M' := M') hr.heap hm hinj hho hout hrc k2 k3 (fun id hid => getO_free hid)
        (fun id h1 h2 => by
          have : rho ρ Hc.length H.length id = H.length + (id - Hc.length) := by simp [rho, show ¬ id < Hc.length by omega]
          rw [this]
          exact hfr (id - Hc.length) (by rw [hnw]; omega))
        (fun id hid => ⟨hheap1 id hid, hM1 id hid⟩) (fun x hx => ⟨hheap2 x hx, hM2 x hx⟩)
      have hr2 : Rel n ⟨s', Eff.heap (callEff d ρ Hc.length H.length ws rv Hc') h' H.length⟩ a w' ⟨G'.I, M'⟩ := hr.ext u2.I (u2.keepI hr.heap) u2.ext u1
      have hvr : VR w' ⟨G'.I, M'⟩ (Eff.heap (callEff d ρ Hc.length H.length ws rv Hc') h' H.length) (ren (rho ρ Hc.length H.length) rv) v := by
        refine VR.up (G := ⟨G'.I, M'⟩) (Gc := G') (hc := getO Hc') rfl (fun id hid => ?_) k1
        have : id < Hc'.length := lt_of_getO hid
        exact ⟨hM1 id this, hheap1 id this⟩
      refine ⟨⟨G'.I, M'⟩, ?_, u2⟩
      rw [hd]
      simp only [Eff.app, Eff.slots, callEff]
      cases d with
      | none => exact hr2
      | some d => exact hr2.put (hdn d rfl) hvr
    unfold Oper.wp
    rw [hexec, hrun]
    cases nx with
    | value v => exact back v w1 hnx
    | enter g' as =>
      refine Calls.mono hnx fun e w'' he => ?_
      cases e with
      | returned v => exact back v w'' he
      | panicked c => exact he.elim
      | outgrown => exact he.elim
    | _ => exact hnx.elim
  · simp only [callEff, List.mem_map] at hp
    obtain ⟨j, hj, rfl⟩ := hp
    exact hb _ (hgetρ j (hws' j hj))

/-- The slots at a function's entry. -/
def argS : List AVal → Nat → Slots
  | [], _ => []
  | c :: cs, i => (i, c) :: argS cs (i + 1)

theorem get_argS : ∀ (cs : List AVal) (i t : Nat), get (argS cs i) t = if i ≤ t then (cs[t - i]?).getD .undef else .undef
  | [], i, t => by simp [argS, get]
  | c :: cs, i, t => by
    simp only [argS, get]
    by_cases h : i = t
    · subst h; simp
    · rw [if_neg h, get_argS cs (i + 1) t]
      by_cases h1 : i + 1 ≤ t
      · rw [if_pos h1, if_pos (by omega)]
        have : t - i = (t - (i + 1)) + 1 := by omega
        rw [this, List.getElem?_cons_succ]
      · rw [if_neg h1, if_neg (by omega)]

inductive RS where
  | t (i : Nat)
  | cell (i : Nat) (agg : Bool) (n : Nat)

def compR (P : Program) : ResultVar → Option RS
  | .tmp t => some (.t t)
  | .cell a t => match P.underlying t, P.info? t with
    | some _, some inf => some (.cell a (isAg P t) inf.size)
    | _, _ => none

def compRs (P : Program) : List ResultVar → Option (List RS)
  | [] => some []
  | x :: xs => match compR P x, compRs P xs with
    | some y, some ys => some (y :: ys)
    | _, _ => none

def retO1 (st : St) : RS → Option AVal
  | .t i => some (st.s i)
  | .cell i agg n => match st.s i with
    | .ptr id q j p => match obj st.h id q with
      | some (_, _, _, es) => match es[j]? with
        | some e => loadFrom agg n (e.drop p)
        | none => none
      | none => none
    | .iptr cs p => loadFrom agg n (cs.drop p)
    | _ => none

def retOs (st : St) : List RS → Option (List AVal)
  | [] => some []
  | r :: rs => match retO1 st r with
    | some c => match retOs st rs with
      | some cs => some (c :: cs)
      | none => none
    | none => none

def retO (st : St) (rs : List RS) : Option AVal :=
  match rs with
  | [r] => retO1 st r
  | rs => match retOs st rs with
    | some cs => some (.tup cs)
    | none => none

def resOf (tmps : Array Value) : ResultVar → Go.Sem Value
  | .tmp t => pure (tmps.getD t undef)
  | .cell a t => do loadVar t (← asAddr (tmps.getD a undef))

theorem run_res1 {st : St} {a : Go.Act} {w : World} {G : Gh} (hr : Rel n st a w G) {x : ResultVar} {r : RS} {c : AVal} (hx : compR P x = some r) (hc : retO1 st r = some c) :
    ∃ v, (resOf a.tmps x).run P w = .ok v w ∧ VR w G st.h c v := by
  cases x with
  | tmp t =>
    simp only [compR] at hx
    injection hx with hx; subst hx
    simp only [retO1] at hc
    injection hc with hc; subst hc
    exact ⟨a.tmps.getD t undef, by simp [resOf], hr.slots t⟩
  | cell a0 t =>
    simp only [compR] at hx
    split at hx
    · rename_i ds inf hu hi
      injection hx with hx; subst hx
      have hs := hr.slots a0
      simp only [retO1] at hc
      split at hc
      · rename_i id q j p hp
        rw [hp] at hs
        split at hc
        · rename_i k t' fu es hob
          split at hc
          · rename_i e hel
            have hh := obj_inv hob
            obtain ⟨ad, e1, hf, hro⟩ := hs.ptr_inv
            obtain ⟨b, C, hM, rfl⟩ := (hro _ _ _ _ _ hh).2 rfl
            obtain ⟨v, h1, h2⟩ := run_load_any (P := P) (w := w) (G := G) (h := st.h) (b := b) (q := j * k + p) hu hi (fun m c hc => by
              obtain ⟨u, u1, u2, u3⟩ := hr.elem hh hM (p := p) hel m c hc
              exact ⟨u, u1, u2, u3⟩) hc
            exact ⟨v, by simp [resOf, e1, asAddr, h1], h2⟩
          · cases hc
        · cases hc
      · rename_i cs p hp
        rw [hp] at hs
        obtain ⟨b, p0, g, e1, hI, hcell, hrr⟩ := hs.iptr_inv
        obtain ⟨v, h1, h2⟩ := run_load_any (P := P) (w := w) (G := G) (h := st.h) (b := b) (q := p0 + p) hu hi (fun m c hc => by
          have hc' : cs[p + m]? = some c := by simpa using hc
          refine ⟨g (p + m), ?_, .cl _ _ (hrr _ _ hc'), (hrr _ _ hc').one⟩
          have := hcell _ _ hc'
          rwa [← Nat.add_assoc] at this) hc
        exact ⟨v, by simp [resOf, e1, asAddr, h1], h2⟩
      · cases hc
    · cases hx

theorem run_resL {st : St} {a : Go.Act} {w : World} {G : Gh} (hr : Rel n st a w G) : ∀ {xs : List ResultVar} {rs : List RS} {cs : List AVal}, compRs P xs = some rs → retOs st rs = some cs →
    ∃ vs : List Value, (xs.mapM (resOf a.tmps)).run P w = .ok vs w ∧ cs.length = vs.length ∧ ∀ (j : Nat) c v, cs[j]? = some c → vs[j]? = some v → VR w G st.h c v
  | [], rs, cs, h1, h2 => by
    simp [compRs] at h1; subst h1
    simp [retOs] at h2; subst h2
    exact ⟨[], by simp, rfl, by simp⟩
  | x :: xs, rs, cs, h1, h2 => by
    unfold compRs at h1
    split at h1
    · rename_i y ys e1 e2
      injection h1 with h1; subst h1
      simp only [retOs] at h2
      split at h2
      · rename_i c hc
        split at h2
        · rename_i cs' hcs
          injection h2 with h2; subst h2
          obtain ⟨v, r1, r2⟩ := run_res1 hr e1 hc
          obtain ⟨vs, q1, q2, q3⟩ := run_resL hr e2 hcs
          refine ⟨v :: vs, by simp [List.mapM_cons, r1, q1], by simp [q2], fun j c v' hc' hv' => ?_⟩
          cases j with
          | zero => simp at hc' hv'; subst hc' hv'; exact r2
          | succ j => exact q3 j c v' (by simpa using hc') (by simpa using hv')
        · cases h2
      · cases h2
    · cases h1

theorem run_results {fn : Func} {rs : List RS} (h : compRs P fn.results.toList = some rs) {st : St} {a : Go.Act} {w : World} {G : Gh} (hr : Rel n st a w G) {r : AVal} (hret : retO st rs = some r) :
    ∃ v, (results fn a.tmps).run P w = .ok v w ∧ VR w G st.h r v := by
  have hres : results fn a.tmps = (do let vs ← fn.results.mapM (resOf a.tmps); pure (if h : vs.size = 1 then vs[0] else .tuple vs)) := by
    unfold results
    congr 1
  have hm : fn.results.mapM (resOf a.tmps) = List.toArray <$> fn.results.toList.mapM (resOf a.tmps) := by
    rw [← List.mapM_toArray]
  have one : ∀ c, rs = [c] → ∃ v, (results fn a.tmps).run P w = .ok v w ∧ VR w G st.h r v := by
    intro c e
    subst e
    simp only [retO] at hret
    obtain ⟨vs, q1, q2, q3⟩ := run_resL (P := P) hr h (cs := [r]) (by simp [retOs, hret])
    rw [hres, hm]
    match vs, q2 with
    | [v], _ => exact ⟨v, by simp [q1], q3 0 r v rfl rfl⟩
  have many : (∀ c, rs ≠ [c]) → ∃ v, (results fn a.tmps).run P w = .ok v w ∧ VR w G st.h r v := by
    intro hne
    have hret' : ∃ cs, retOs st rs = some cs ∧ r = .tup cs := by
      unfold retO at hret
      split at hret
      · rename_i c; exact absurd rfl (hne c)
      · split at hret
        · rename_i cs hcs; injection hret with hret; exact ⟨cs, hcs, hret.symm⟩
        · cases hret
    obtain ⟨cs, hcs, rfl⟩ := hret'
    obtain ⟨vs, q1, q2, q3⟩ := run_resL (P := P) hr h hcs
    have hlen : rs.length = cs.length := by
      have : ∀ {rs : List RS} {cs : List AVal}, retOs st rs = some cs → rs.length = cs.length := by
        intro rs
        induction rs with
        | nil => intro cs h; simp [retOs] at h; subst h; rfl
        | cons r rs ih =>
          intro cs h
          simp only [retOs] at h
          split at h
          · split at h
            · rename_i hcs; injection h with h; subst h; simp [ih hcs]
            · cases h
          · cases h
      exact this hcs
    have h1 : vs.length ≠ 1 := fun e => by
      rw [← q2, ← hlen] at e
      match rs, e with
      | [c], _ => exact hne c rfl
    rw [hres, hm]
    refine ⟨.tuple vs.toArray, by simp [q1, h1], .tup cs vs.toArray (by simpa using q2) fun j c v hc hv => q3 j c v hc (by simpa using hv)⟩
  match rs, one, many with
  | [c], one, _ => exact one c rfl
  | [], _, many => exact many (by simp)
  | _ :: _ :: _, _, many => exact many (by simp)

/-- What a function has returned, and its heap. -/
def Ret (rs : List RS) (m0 : Nat) (r : AVal) (H' : Heap) (st : St) : Prop :=
  ∃ r0 σ, retO st rs = some r0 ∧ r0 = ren σ r ∧ ltv H'.length r = true ∧ (∀ id, id < H'.length → st.h (σ id) = renO σ (getO H' id) ∧ ltO H'.length (getO H' id) = true) ∧
    (∀ i j, i < H'.length → j < H'.length → σ i = σ j → i = j) ∧ m0 ≤ H'.length ∧ ∀ id, id < m0 → σ id = id

/-- A function's body shows its contract. -/
theorem calls_of (hmx : P.follows .mixedOrders = true) {f : FuncId} {fn : Func} {c : Code} {rs : List RS} {sc : SC} {args : List AVal} {H H' : Heap} {r : AVal} (hf : P.funcs[f]? = some fn) (hnm : (fn.name == "runtime.NumGoroutine") = false)
    (hb : fn.body = some c) (hc : compC P fn.ntmps c = sc) (hrs : compRs P fn.results.toList = some rs) (hn : args.length ≤ fn.ntmps) (hV : V P fn.ntmps H.length (Ret rs H.length r H') [.code sc] (argS args 0) H) : ACalls P f args H r H' := by
  intro w G vs hr hsz hvs
  have hnm' : ¬ fn.name = "runtime.NumGoroutine" := by simpa using hnm
  refine ⟨.enter f vs, w, by simp [callFunc, hf, hnm', hb], ?_⟩
  intro cs
  have hrel : Rel fn.ntmps (S (argS args 0) H) { tmps := vs ++ Array.replicate (fn.ntmps - vs.size) undef, defers := [] } w G := by
    refine ⟨fun t => ?_, rfl, by simp; omega, hr⟩
    show VR w G (getO H) (get (argS args 0) t) _
    rw [get_argS]
    simp only [Nat.zero_le, if_true, Nat.sub_zero]
    by_cases ht : t < args.length
    · have h1 : args[t]? = some args[t] := List.getElem?_eq_getElem ht
      have ht' : t < vs.size := by omega
      have h2 : vs[t]? = some vs[t] := Array.getElem?_eq_getElem ht'
      rw [h1]
      have h3 : (vs ++ Array.replicate (fn.ntmps - vs.size) undef).getD t undef = vs[t] := by
        simp [Array.getElem?_append_left ht', h2]
      rw [h3]
      exact hvs t _ _ h1 h2
    · rw [List.getElem?_eq_none (by omega)]
      exact .undef _
  let b : Frame := { (default : Frame) with fn := f, kind := .normal }
  have henter : Frame.enter P f vs .normal = b.at { tmps := vs ++ Array.replicate (fn.ntmps - vs.size) undef, defers := [] } [.code c] := by
    simp [Frame.enter, Frame.at, hf, hb, b]
  subst hc
  obtain ⟨a', w', G', st', todo, h1, h2, h3, r0, σ, q1, q2, q3, q4, q5, q6, q7⟩ := hV.sound hmx _ (.code c .nil) w G (getO H) (fun id hid => getO_free hid) _ w G hrel (Tr.refl _ _ _) b cs
  rw [← henter] at h1
  obtain ⟨v, v1, v2⟩ := run_results hrs h2 q1
  refine ⟨.returned v, w', _, ?_, h1, rfl, rfl, h2.defers, rfl, fn, hf, v1⟩
  have hd := HR.dn (r := σ) (m := H'.length) (hc := getO H') h2.heap q5 (fun id hid => (q4 id hid).1) (fun id hid => getO_free hid) (fun id hid => (q4 id hid).2)
  rw [q2] at v2
  refine ⟨_, VR.dn (G := G') (Gc := ⟨G'.I, fun id => if id < H'.length then G'.M (σ id) else none⟩) rfl (fun id hid => if_pos hid) (fun id hid => (q4 id hid).1) r v v2 q3, hd, ⟨h3.size, h3.keep, h3.os, h3.tape, h3.output, h3.I, h3.I', fun k hk => ?_, fun id hid => ?_, fun id st k t fu es' hid hh => ?_, fun id es' hid hh => ?_⟩⟩
  · obtain ⟨id, C, l, hM⟩ := hk
    have hid : id < H'.length := lt_of_getO (fun e => by rw [e] at l; cases l)
    simp only [hid, if_true] at hM
    exact h3.own' k ⟨σ id, C, by rw [(q4 id hid).1, renO_live]; exact l, hM⟩
  · have hlt := lt_of_getO hid
    have := h3.ext.free id hid
    intro e
    have h4 := (q4 id (by omega)).1
    rw [q7 id hlt, e] at h4
    exact this h4
  · have hlt := lt_of_getO hid
    have h4 := (q4 id (by omega)).1
    rw [q7 id hlt, hh] at h4
    obtain ⟨st0, k0, t0, fu0, es, e1, l1, c1⟩ := h3.ext.cells id st k t fu _ hid h4
    refine ⟨st0, k0, t0, fu0, es, e1, l1, fun e => ?_⟩
    obtain ⟨p1, p2, p3⟩ := c1 e
    refine ⟨p1, by simpa using p2, ?_⟩
    simp only [show id < H'.length by omega, if_true, q7 id hlt]
    exact p3
  · have hlt := lt_of_getO hid
    have h4 := (q4 id (by omega)).1
    rw [q7 id hlt, hh] at h4
    obtain ⟨es, e1, c1⟩ := h3.ext.map id _ hid h4
    refine ⟨es, e1, ?_⟩
    simp only [show id < H'.length by omega, if_true, q7 id hlt]
    exact c1
end

section
variable {P : Program} {n m0 : Nat} {Q : St → Prop}

theorem V_nil {s : Slots} {H : Heap} : V P n m0 Q [] s H ↔ Rt n m0 Q s H := ⟨fun h => by cases h; assumption, .nil⟩
theorem V_skip {k : List It} {s : Slots} {H : Heap} : V P n m0 Q (.code .skip :: k) s H ↔ V P n m0 Q k s H := ⟨fun h => by cases h; assumption, .skip⟩
theorem V_ret {k : List It} {s : Slots} {H : Heap} : V P n m0 Q (.code .ret :: k) s H ↔ Rt n m0 Q s H := ⟨fun h => by cases h; assumption, .ret⟩
theorem V_seq {x y : SC} {k : List It} {s : Slots} {H : Heap} : V P n m0 Q (.code (.seq x y) :: k) s H ↔ V P n m0 Q (.code x :: .code y :: k) s H := ⟨fun h => by cases h; assumption, .seq⟩
theorem V_block {id : Nat} {c : SC} {k : List It} {s : Slots} {H : Heap} : V P n m0 Q (.code (.block id c) :: k) s H ↔ V P n m0 Q (.code c :: .blk id :: k) s H := ⟨fun h => by cases h; assumption, .block⟩
theorem V_blk {id : Nat} {k : List It} {s : Slots} {H : Heap} : V P n m0 Q (.blk id :: k) s H ↔ V P n m0 Q k s H := ⟨fun h => by cases h; assumption, .blk⟩
theorem V_loop {c : SC} {k : List It} {s : Slots} {H : Heap} : V P n m0 Q (.code (.loop c) :: k) s H ↔ Lp P n m0 Q c k s H := ⟨fun h => by cases h; assumption, .loop⟩
theorem V_again {c : SC} {k : List It} {s : Slots} {H : Heap} : V P n m0 Q (.again c :: k) s H ↔ Lp P n m0 Q c k s H := ⟨fun h => by cases h; assumption, .again⟩

def Vx (P : Program) (n m0 : Nat) (Q : St → Prop) (k : Option (List It)) (s : Slots) (H : Heap) : Prop :=
  match k with
  | some k => V P n m0 Q k s H
  | none => False
theorem V_exit {id : Nat} {k : List It} {s : Slots} {H : Heap} : V P n m0 Q (.code (.exit id) :: k) s H ↔ Vx P n m0 Q (exitIt id k) s H := by
  constructor
  · intro h
    cases h with
    | exit he h => rw [he]; exact h
  · intro h
    cases he : exitIt id k with
    | none => rw [he] at h; exact h.elim
    | some k' => rw [he] at h; exact .exit he h
theorem Vx_some {k : List It} {s : Slots} {H : Heap} : Vx P n m0 Q (some k) s H ↔ V P n m0 Q k s H := Iff.rfl
theorem exitIt_code {id : Nat} {c : SC} {k : List It} : exitIt id (.code c :: k) = exitIt id k := rfl
theorem exitIt_again {id : Nat} {c : SC} {k : List It} : exitIt id (.again c :: k) = exitIt id k := rfl
theorem exitIt_blk {id id' : Nat} {k : List It} : exitIt id (.blk id' :: k) = if id' = id then some k else exitIt id k := rfl

/-- A condition. -/
def Vc (P : Program) (n m0 : Nat) (Q : St → Prop) (v : AVal) (c d : SC) (k : List It) (s : Slots) (H : Heap) : Prop :=
  ∃ b, v = .bool b ∧ (b = true → V P n m0 Q (.code c :: k) s H) ∧ (b = false → V P n m0 Q (.code d :: k) s H)
theorem V_cond {x : SO} {c d : SC} {k : List It} {s : Slots} {H : Heap} : V P n m0 Q (.code (.cond x c d) :: k) s H ↔ Vc P n m0 Q (ev (get s) x) c d k s H := by
  constructor
  · intro h
    cases h with
    | cond b hb ht hf => exact ⟨b, hb, ht, hf⟩
  · rintro ⟨b, hb, ht, hf⟩
    exact .cond b hb ht hf
theorem Vc_true {c d : SC} {k : List It} {s : Slots} {H : Heap} : Vc P n m0 Q (.bool true) c d k s H ↔ V P n m0 Q (.code c :: k) s H :=
  ⟨fun ⟨b, e, h, _⟩ => by cases e; exact h rfl, fun h => ⟨true, rfl, fun _ => h, fun e => by cases e⟩⟩
theorem Vc_false {c d : SC} {k : List It} {s : Slots} {H : Heap} : Vc P n m0 Q (.bool false) c d k s H ↔ V P n m0 Q (.code d :: k) s H :=
  ⟨fun ⟨b, e, _, h⟩ => by cases e; exact h rfl, fun h => ⟨false, rfl, fun e => (by cases e), fun _ => h⟩⟩
theorem Vc_bool {b : Bool} {c d : SC} {k : List It} {s : Slots} {H : Heap} : Vc P n m0 Q (.bool b) c d k s H ↔ (b = true → V P n m0 Q (.code c :: k) s H) ∧ (b = false → V P n m0 Q (.code d :: k) s H) :=
  ⟨fun ⟨b', e, h⟩ => by cases e; exact h, fun h => ⟨b, rfl, h⟩⟩

theorem OX_mono : ∀ {l : List SOp} {K K' : Slots → Heap → Prop} {s : Slots} {H : Heap}, (∀ s H, K s H → K' s H) → OX P n m0 l K s H → OX P n m0 l K' s H
  | [], K, K', s, H, hk, h => hk _ _ h
  | o :: l, K, K', s, H, hk, h => by
    have mono : ∀ {so : SOp} {rt : List Nat} {E E' : Lg → Slots → Heap → Prop} {s : Slots} {H : Heap}, (∀ g s H, E g s H → E' g s H) → OpX P n m0 false so rt E s H → OpX P n m0 false so rt E' s H := by
      intro so
      induction so with
      | binN d kd neq x =>
        intro rt E E' s H hk h
        obtain ⟨h1, h2⟩ := h
        refine ⟨h1, ?_⟩
        unfold BN at h2 ⊢
        split at h2
        · exact hk _ _ _ h2
        · exact ⟨h2.1, fun b => hk _ _ _ (h2.2 b)⟩
      | cap d x =>
        intro rt E E' s H hk h
        exact ⟨h.1, CP_mono (fun c H' h => hk _ _ _ h) h.2⟩
      | call d f xs =>
        intro rt E E' s H hk h
        obtain ⟨s', H', h1, h2, e, h3, h4, h5⟩ := h
        exact ⟨s', H', h1, h2, e, h3, h4, hk _ _ _ h5⟩
      | g t want d o ih =>
        intro rt E E' s H hk h
        obtain ⟨h0, h⟩ := h
        rcases h with ⟨h1, h2⟩ | ⟨h1, h2⟩
        · exact ⟨h0, .inl ⟨h1, ih hk h2⟩⟩
        · exact ⟨h0, .inr ⟨h1, hk _ _ _ h2⟩⟩
      | _ => intro rt E E' s H hk h; exact ⟨h.choose, h.choose_spec.1, hk _ _ _ h.choose_spec.2⟩
    exact mono (fun g s H h => OX_mono hk h) h

theorem V_reg {l : List SOp} {k : List It} {s : Slots} {H : Heap} : V P n m0 Q (.code (.reg l) :: k) s H ↔ OX P n m0 l (V P n m0 Q k) s H := by
  constructor
  · intro h
    cases h with
    | reg E hl h => exact OX_mono h hl
  · intro h
    exact .reg _ h fun _ _ h => h
theorem OX_nil {K : Slots → Heap → Prop} {s : Slots} {H : Heap} : OX P n m0 [] K s H ↔ K s H := Iff.rfl
theorem OX_cons {o : SOp} {l : List SOp} {K : Slots → Heap → Prop} {s : Slots} {H : Heap} : OX P n m0 (o :: l) K s H ↔ OpX P n m0 false o [] (ign (OX P n m0 l K)) s H := Iff.rfl
theorem ign_app {K : Slots → Heap → Prop} {g : Lg} {s : Slots} {H : Heap} : ign K g s H ↔ K s H := Iff.rfl

/-- At a drawn region's end. -/
def VD (P : Program) (n m0 : Nat) (Q : St → Prop) (ps : List (Nat × Nat)) (k : List It) (log : List Lg) (s : Slots) (H : Heap) : Prop := chk log ps = true ∧ V P n m0 Q k s H

theorem DX_mono : ∀ {l : List SOp} {log : List Lg} {K K' : List Lg → Slots → Heap → Prop} {s : Slots} {H : Heap}, (∀ g s H, K g s H → K' g s H) → DX P n m0 l log K s H → DX P n m0 l log K' s H
  | [], log, K, K', s, H, hk, h => hk _ _ _ h
  | o :: l, log, K, K', s, H, hk, h => by
    have mono : ∀ {so : SOp} {rt : List Nat} {E E' : Lg → Slots → Heap → Prop} {s : Slots} {H : Heap}, (∀ g s H, E g s H → E' g s H) → OpX P n m0 true so rt E s H → OpX P n m0 true so rt E' s H := by
      intro so
      induction so with
      | binN d kd neq x =>
        intro rt E E' s H hk h
        obtain ⟨h1, h2⟩ := h
        refine ⟨h1, ?_⟩
        unfold BN at h2 ⊢
        split at h2
        · exact hk _ _ _ h2
        · cases h2.1
      | cap d x =>
        intro rt E E' s H hk h
        cases h.1
      | call d f xs =>
        intro rt E E' s H hk h
        obtain ⟨s', H', h1, h2, e, h3, h4, h5⟩ := h
        exact ⟨s', H', h1, h2, e, h3, h4, hk _ _ _ h5⟩
      | g t want d o ih =>
        intro rt E E' s H hk h
        obtain ⟨h0, h⟩ := h
        rcases h with ⟨h1, h2⟩ | ⟨h1, h2⟩
        · exact ⟨h0, .inl ⟨h1, ih hk h2⟩⟩
        · exact ⟨h0, .inr ⟨h1, hk _ _ _ h2⟩⟩
      | _ => intro rt E E' s H hk h; exact ⟨h.choose, h.choose_spec.1, hk _ _ _ h.choose_spec.2⟩
    exact mono (fun g s H h => DX_mono hk h) h

theorem V_regD {l : List SOp} {ps : List (Nat × Nat)} {k : List It} {s : Slots} {H : Heap} : V P n m0 Q (.code (.regD l ps) :: k) s H ↔ DX P n m0 l [] (VD P n m0 Q ps k) s H := by
  constructor
  · intro h
    cases h with
    | regD E hl hc h => exact DX_mono (fun g s H he => ⟨hc _ _ _ he, h _ _ _ he⟩) hl
  · intro h
    exact .regD _ h (fun _ _ _ h => h.1) fun _ _ _ h => h.2
theorem DX_nil {log : List Lg} {K : List Lg → Slots → Heap → Prop} {s : Slots} {H : Heap} : DX P n m0 [] log K s H ↔ K log s H := Iff.rfl
theorem DX_cons {o : SOp} {l : List SOp} {log : List Lg} {K : List Lg → Slots → Heap → Prop} {s : Slots} {H : Heap} : DX P n m0 (o :: l) log K s H ↔ OpX P n m0 true o (rdT o) (DXn P n m0 l log K) s H := Iff.rfl
theorem DXn_app {l : List SOp} {log : List Lg} {K : List Lg → Slots → Heap → Prop} {g : Lg} {s : Slots} {H : Heap} : DXn P n m0 l log K g s H ↔ DX P n m0 l (log ++ [g]) K s H := Iff.rfl
theorem VD_app {ps : List (Nat × Nat)} {k : List It} {log : List Lg} {s : Slots} {H : Heap} : VD P n m0 Q ps k log s H ↔ chk log ps = true ∧ V P n m0 Q k s H := Iff.rfl

/-- A drawn region without a pair to be looked at. -/
def OXd (P : Program) (n m0 : Nat) : List SOp → (Slots → Heap → Prop) → Slots → Heap → Prop
  | [], K, s, H => K s H
  | o :: l, K, s, H => OpX P n m0 true o [] (ign (OXd P n m0 l K)) s H
theorem OpX_ign {so : SOp} : ∀ {rt rt' : List Nat} {E : Lg → Slots → Heap → Prop} {K : Slots → Heap → Prop} {s : Slots} {H : Heap}, (∀ g s H, E g s H ↔ K s H) → (OpX P n m0 true so rt E s H ↔ OpX P n m0 true so rt' (ign K) s H) := by
  induction so with
  | binN d kd neq x =>
    intro rt rt' E K s H hk
    refine and_congr Iff.rfl ?_
    unfold BN
    split
    · exact hk _ _ _
    · exact and_congr Iff.rfl (forall_congr' fun b => hk _ _ _)
  | cap d x =>
    intro rt rt' E K s H hk
    exact ⟨fun h => (by cases h.1), fun h => (by cases h.1)⟩
  | call d f xs =>
    intro rt rt' E K s H hk
    exact exists_congr fun s' => exists_congr fun H' => and_congr Iff.rfl (and_congr Iff.rfl (exists_congr fun e => and_congr Iff.rfl (and_congr Iff.rfl (hk _ _ _))))
  | g t want d o ih =>
    intro rt rt' E K s H hk
    exact and_congr Iff.rfl (or_congr (and_congr Iff.rfl (ih hk)) (and_congr Iff.rfl (hk _ _ _)))
  | _ => intro rt rt' E K s H hk; exact exists_congr fun e => and_congr Iff.rfl (hk _ _ _)
theorem DX_ign : ∀ {l : List SOp} {log : List Lg} {E : List Lg → Slots → Heap → Prop} {K : Slots → Heap → Prop} {s : Slots} {H : Heap}, (∀ g s H, E g s H ↔ K s H) → (DX P n m0 l log E s H ↔ OXd P n m0 l K s H)
  | [], log, E, K, s, H, hk => hk _ _ _
  | o :: l, log, E, K, s, H, hk => OpX_ign fun g s H => DX_ign hk
theorem V_regD0 {l : List SOp} {k : List It} {s : Slots} {H : Heap} : V P n m0 Q (.code (.regD l []) :: k) s H ↔ OXd P n m0 l (V P n m0 Q k) s H :=
  V_regD.trans (DX_ign fun g s H => ⟨fun h => h.2, fun h => ⟨rfl, h⟩⟩)
theorem V_regDc {l : List SOp} {p : Nat × Nat} {ps : List (Nat × Nat)} {k : List It} {s : Slots} {H : Heap} : V P n m0 Q (.code (.regD l (p :: ps)) :: k) s H ↔ DX P n m0 l [] (VD P n m0 Q (p :: ps) k) s H := V_regD
theorem OXd_nil {K : Slots → Heap → Prop} {s : Slots} {H : Heap} : OXd P n m0 [] K s H ↔ K s H := Iff.rfl
theorem OXd_cons {o : SOp} {l : List SOp} {K : Slots → Heap → Prop} {s : Slots} {H : Heap} : OXd P n m0 (o :: l) K s H ↔ OpX P n m0 true o [] (ign (OXd P n m0 l K)) s H := Iff.rfl

theorem get_cons {t i : Nat} {v : AVal} {s : Slots} : get ((t, v) :: s) i = if t = i then v else get s i := rfl
theorem get_nil {i : Nat} : get [] i = .undef := rfl
theorem ev_t {s : Nat → AVal} {i : Nat} : ev s (.t i) = s i := rfl
theorem ev_c {s : Nat → AVal} {v : AVal} : ev s (.c v) = v := rfl
theorem evs_nil {s : Nat → AVal} : evs s [] = [] := rfl
theorem evs_cons {s : Nat → AVal} {x : SO} {xs : List SO} : evs s (x :: xs) = ev s x :: evs s xs := rfl

/-- A value, if there is one. -/
def ov (d : Nat) (rt : List Nat) (E : Lg → Slots → Heap → Prop) (s : Slots) (H : Heap) (r : Option (AVal × List Nat)) : Prop :=
  ∃ v rd, r = some (v, rd) ∧ E ⟨some d, rt, rd, [], H.length, 0⟩ ((d, v) :: s) H
variable {dr : Bool} {d : Nat} {rt : List Nat} {E : Lg → Slots → Heap → Prop} {s : Slots} {H : Heap}
theorem ov_some {v : AVal} {rd : List Nat} : ov d rt E s H (some (v, rd)) ↔ E ⟨some d, rt, rd, [], H.length, 0⟩ ((d, v) :: s) H :=
  ⟨fun ⟨v', rd', e, h⟩ => by cases e; exact h, fun h => ⟨v, rd, rfl, h⟩⟩
theorem ov_none : ov d rt E s H none ↔ False := ⟨fun ⟨_, _, e, _⟩ => (by cases e), False.elim⟩
theorem ov_ite_none {c : Prop} [Decidable c] {r : Option (AVal × List Nat)} : ov d rt E s H (if c then r else none) ↔ c ∧ ov d rt E s H r := by
  by_cases h : c <;> simp [h, ov_none]

def v1 (r : Option AVal) : Option (AVal × List Nat) :=
  match r with
  | some v => some (v, [])
  | none => none
theorem v1_some {v : AVal} : v1 (some v) = some (v, []) := rfl
theorem v1_none : v1 none = none := rfl
theorem v1_ite {c : Prop} [Decidable c] {r r' : Option AVal} : v1 (if c then r else r') = if c then v1 r else v1 r' := by split <;> rfl

/-- An operation that gives a value alone. -/
theorem opx_val {o : SOp} {r : Option (AVal × List Nat)} (h : OpX P n m0 dr o rt E s H = ∃ e, astep o (S s H) H.length = some e ∧ E ⟨e.d, rt, e.rd, e.wr.map (·.1), H.length, e.nw.length⟩ (e.ss s) (e.hh H))
    (ha : astep o (S s H) H.length = match r with | some (v, rd) => some ⟨some d, v, rd, [], []⟩ | none => none) : OpX P n m0 dr o rt E s H ↔ ov d rt E s H r := by
  rw [h, ha]
  cases r with
  | none => simp [ov]
  | some p =>
    obtain ⟨v, rd⟩ := p
    constructor
    · rintro ⟨e, he, h⟩
      injection he with he; subst he
      exact ⟨v, rd, rfl, by simpa [Eff.ss, Eff.hh, putS, setAll] using h⟩
    · rintro ⟨v', rd', he, h⟩
      injection he with he; injection he with e1 e2; subst e1 e2
      exact ⟨_, rfl, by simpa [Eff.ss, Eff.hh, putS, setAll] using h⟩

theorem val1_v1 {r : Option AVal} : val1 d r = match v1 r with | some (v, rd) => some ⟨some d, v, rd, [], []⟩ | none => none := by cases r <;> rfl

theorem X_mv {x : SO} : OpX P n m0 dr (.mv d x) rt E s H ↔ E ⟨some d, rt, [], [], H.length, 0⟩ ((d, ev (get s) x) :: s) H :=
  (opx_val (r := some (ev (get s) x, [])) rfl rfl).trans ov_some
theorem X_bin {op : BinOp} {x y : SO} : OpX P n m0 dr (.bin d op x y) rt E s H ↔ ov d rt E s H (v1 (binI op (ev (get s) x) (ev (get s) y))) := opx_val rfl val1_v1
theorem X_binB {neq : Bool} {x y : SO} : OpX P n m0 dr (.binB d neq x y) rt E s H ↔ ov d rt E s H (v1 (binBool neq (ev (get s) x) (ev (get s) y))) := opx_val rfl val1_v1
theorem X_binS {op : BinOp} {x y : SO} : OpX P n m0 dr (.binS d op x y) rt E s H ↔ ov d rt E s H (v1 (binStr op (ev (get s) x) (ev (get s) y))) := opx_val rfl val1_v1
theorem X_binA {neq : Bool} {ks : List Nat} {x y : SO} : OpX P n m0 dr (.binA d neq ks x y) rt E s H ↔ ov d rt E s H (v1 (binAgg neq ks (ev (get s) x) (ev (get s) y))) := opx_val rfl val1_v1
theorem X_mn {x y : SO} : OpX P n m0 dr (.mn d x y) rt E s H ↔ ov d rt E s H (v1 (minOf (ev (get s) x) (ev (get s) y))) := opx_val rfl val1_v1
theorem X_mx {x y : SO} : OpX P n m0 dr (.mx d x y) rt E s H ↔ ov d rt E s H (v1 (maxOf (ev (get s) x) (ev (get s) y))) := opx_val rfl val1_v1

def pickV (c x y : AVal) : Option AVal :=
  match c with
  | .bool b => some (if b = true then x else y)
  | _ => none
theorem X_pick {c x y : SO} : OpX P n m0 dr (.pick d c x y) rt E s H ↔ ov d rt E s H (v1 (pickV (ev (get s) c) (ev (get s) x) (ev (get s) y))) :=
  opx_val rfl (by simp only [astep, S]; cases ev (get s) c <;> rfl)

def notV (x : AVal) : Option AVal :=
  match x with
  | .bool b => some (.bool (!b))
  | _ => none
theorem notV_bool {b : Bool} : notV (.bool b) = some (.bool (!b)) := rfl
theorem X_not {x : SO} : OpX P n m0 dr (.not d x) rt E s H ↔ ov d rt E s H (v1 (notV (ev (get s) x))) := opx_val rfl (by simp only [astep, S]; cases ev (get s) x <;> rfl)
def negV (x : AVal) : Option AVal :=
  match x with
  | .int k m => some (.int k (k.wrap (0 - m)))
  | _ => none
theorem negV_int {k : IntKind} {m : Int} : negV (.int k m) = some (.int k (k.wrap (0 - m))) := rfl
theorem X_neg {x : SO} : OpX P n m0 dr (.neg d x) rt E s H ↔ ov d rt E s H (v1 (negV (ev (get s) x))) := opx_val rfl (by simp only [astep, S]; cases ev (get s) x <;> rfl)
def convV (k : IntKind) (x : AVal) : Option AVal :=
  match x with
  | .int _ m => some (.int k (k.wrap m))
  | _ => none
theorem convV_int {k k' : IntKind} {m : Int} : convV k (.int k' m) = some (.int k (k.wrap m)) := rfl
theorem X_conv {k : IntKind} {x : SO} : OpX P n m0 dr (.conv d k x) rt E s H ↔ ov d rt E s H (v1 (convV k (ev (get s) x))) := opx_val rfl (by simp only [astep, S]; cases ev (get s) x <;> rfl)

def faV (x : AVal) (o : Nat) : Option AVal :=
  match x with
  | .ptr id q i p => some (.ptr id q i (p + o))
  | .iptr cs p => some (.iptr cs (p + o))
  | _ => none
theorem faV_ptr {id q i p o : Nat} : faV (.ptr id q i p) o = some (.ptr id q i (p + o)) := rfl
theorem faV_iptr {cs : List AVal} {p o : Nat} : faV (.iptr cs p) o = some (.iptr cs (p + o)) := rfl
theorem X_fa {x : SO} {o : Nat} : OpX P n m0 dr (.fa d x o) rt E s H ↔ ov d rt E s H (v1 (faV (ev (get s) x) o)) := opx_val rfl (by simp only [astep, S]; cases ev (get s) x <;> rfl)

theorem getO_cons_zero {o : AObj} {H : Heap} : getO (o :: H) 0 = o := rfl
theorem getO_cons_succ {o : AObj} {H : Heap} {i : Nat} : getO (o :: H) (i + 1) = getO H i := rfl

/-- The address of an element. -/
def iaV (h : Nat → AObj) (k : Nat) (x i : AVal) : Option (AVal × List Nat) :=
  match x, i with
  | .sl k' xs, .int _ m => if k' = k ∧ 0 ≤ m then v1 ((xs[m.toNat]?).map fun e => .iptr e 0) else none
  | .row id q off len, .int _ m => match obj h id q with
    | some (k', _, _, _) => if k' = k ∧ 0 ≤ m ∧ m < len then some (.ptr id q (off + m.toNat) 0, [id]) else none
    | none => none
  | _, _ => none
theorem X_ia {x i : SO} {k : Nat} : OpX P n m0 dr (.ia d x i k) rt E s H ↔ ov d rt E s H (iaV (getO H) k (ev (get s) x) (ev (get s) i)) :=
  opx_val rfl (by
    simp only [astep, S, iaV]
    cases ev (get s) x <;> cases ev (get s) i <;> simp only
    · split
      · rename_i k' xs k2 m h
        cases xs[m.toNat]? <;> rfl
      · rfl
    · rename_i id q off len k2 m
      cases obj (getO H) id q with
      | none => rfl
      | some y => obtain ⟨k', t', fu, es⟩ := y; simp only; split <;> rfl)
theorem iaV_sl {h : Nat → AObj} {k k' : Nat} {xs : List (List AVal)} {ki : IntKind} {m : Int} : iaV h k (.sl k' xs) (.int ki m) = if k' = k ∧ 0 ≤ m then v1 ((xs[m.toNat]?).map fun e => .iptr e 0) else none := rfl

def iaAV (k len : Nat) (x i : AVal) : Option AVal :=
  match x, i with
  | .ptr id q j p, .int _ m => if 0 ≤ m ∧ m < len then some (.ptr id q j (p + m.toNat * k)) else none
  | .iptr cs p, .int _ m => if 0 ≤ m ∧ m < len then some (.iptr cs (p + m.toNat * k)) else none
  | _, _ => none
theorem X_iaA {x i : SO} {k len : Nat} : OpX P n m0 dr (.iaA d x i k len) rt E s H ↔ ov d rt E s H (v1 (iaAV k len (ev (get s) x) (ev (get s) i))) :=
  opx_val rfl (by
    simp only [astep, S, iaAV]
    cases ev (get s) x <;> cases ev (get s) i <;> simp only [v1] <;> split <;> rfl)

def ixSV (x i : AVal) : Option AVal :=
  match x, i with
  | .str b, .int _ m => if 0 ≤ m then (b[m.toNat]?).map fun u => .int .u8 u.toNat else none
  | _, _ => none
theorem X_ixS {x i : SO} : OpX P n m0 dr (.ixS d x i) rt E s H ↔ ov d rt E s H (v1 (ixSV (ev (get s) x) (ev (get s) i))) :=
  opx_val rfl (by
    simp only [astep, S, ixSV]
    cases ev (get s) x <;> cases ev (get s) i <;> simp only [v1]
    rename_i b k2 m
    split
    · cases b[m.toNat]? <;> rfl
    · rfl)

def ldO (o : AObj) (id q i p : Nat) (agg : Bool) (m : Nat) : Option (AVal × List Nat) :=
  match o with
  | .cells q' _ _ _ es => if q' = q then match es[i]? with
      | some e => match loadFrom agg m (e.drop p) with
        | some v => some (v, [id])
        | none => none
      | none => none
    else none
  | _ => none
/-- What lies at an address. -/
def ldV (h : Nat → AObj) (x : AVal) (agg : Bool) (m : Nat) : Option (AVal × List Nat) :=
  match x with
  | .ptr id q i p => ldO (h id) id q i p agg m
  | .iptr cs p => v1 (loadFrom agg m (cs.drop p))
  | _ => none
theorem X_ld {x : SO} {agg : Bool} {m : Nat} : OpX P n m0 dr (.ld d x agg m) rt E s H ↔ ov d rt E s H (ldV (getO H) (ev (get s) x) agg m) :=
  opx_val rfl (by
    simp only [astep, S, ldV]
    cases ev (get s) x <;> simp only
    · rename_i id q i p
      unfold obj ldO
      cases getO H id <;> simp only
      rename_i q' k t fu es
      split
      · rename_i h1
        split at h1
        · rename_i h2
          rw [if_pos h2]
          injection h1 with h1; injection h1 with e1 h1; injection h1 with e2 h1; injection h1 with e3 e4
          subst e4
          cases es[i]? with
          | none => rfl
          | some e => simp only; cases loadFrom agg m (e.drop p) <;> rfl
        · cases h1
      · rename_i h1
        split at h1
        · cases h1
        · rename_i h2; rw [if_neg h2]
    · exact val1_v1)
theorem ldV_ptr {h : Nat → AObj} {id q i p : Nat} {agg : Bool} {m : Nat} : ldV h (.ptr id q i p) agg m = ldO (h id) id q i p agg m := rfl
theorem ldV_iptr {h : Nat → AObj} {cs : List AVal} {p : Nat} {agg : Bool} {m : Nat} : ldV h (.iptr cs p) agg m = v1 (loadFrom agg m (cs.drop p)) := rfl
def ldE (id : Nat) (p : Nat) (agg : Bool) (m : Nat) (e : Option (List AVal)) : Option (AVal × List Nat) :=
  match e with
  | some e => match loadFrom agg m (e.drop p) with
    | some v => some (v, [id])
    | none => none
  | none => none
theorem ldO_cells {id q i p k : Nat} {t : TypeId} {fu agg : Bool} {m : Nat} {es : List (List AVal)} : ldO (.cells q k t fu es) id q i p agg m = ldE id p agg m (es[i]?) := by simp [ldO, ldE]
def ldF (id : Nat) (v : Option AVal) : Option (AVal × List Nat) :=
  match v with
  | some v => some (v, [id])
  | none => none
theorem ldE_some {id p : Nat} {agg : Bool} {m : Nat} {e : List AVal} : ldE id p agg m (some e) = ldF id (loadFrom agg m (e.drop p)) := rfl
theorem ldF_some {id : Nat} {v : AVal} : ldF id (some v) = some (v, [id]) := rfl
theorem loadFrom_cell {m : Nat} {c : AVal} {cs : List AVal} : loadFrom false m (c :: cs) = some c := rfl
theorem loadFrom_agg {m : Nat} {cs : List AVal} : loadFrom true m cs = if m ≤ cs.length then some (.agg (cs.take m)) else none := rfl
theorem ldF_ite {id : Nat} {c : Prop} [Decidable c] {v : Option AVal} : ldF id (if c then v else none) = if c then ldF id v else none := by split <;> rfl

/-- A change of one object. -/
def ow (rt : List Nat) (E : Lg → Slots → Heap → Prop) (s : Slots) (H : Heap) (r : Option (Nat × AObj)) : Prop :=
  ∃ id o, r = some (id, o) ∧ E ⟨none, rt, [id], [id], H.length, 0⟩ s (H.set id o)
theorem ow_some {id : Nat} {o : AObj} : ow rt E s H (some (id, o)) ↔ E ⟨none, rt, [id], [id], H.length, 0⟩ s (H.set id o) :=
  ⟨fun ⟨_, _, e, h⟩ => by cases e; exact h, fun h => ⟨_, _, rfl, h⟩⟩
theorem ow_none : ow rt E s H none ↔ False := ⟨fun ⟨_, _, e, _⟩ => (by cases e), False.elim⟩
theorem ow_ite {c : Prop} [Decidable c] {r : Option (Nat × AObj)} : ow rt E s H (if c then r else none) ↔ c ∧ ow rt E s H r := by
  by_cases h : c <;> simp [h, ow_none]

def stE (id q k : Nat) (t : TypeId) (fu : Bool) (es : List (List AVal)) (i p m : Nat) (v : AVal) (e : Option (List AVal)) : Option (Nat × AObj) :=
  match e with
  | some e => if v.flat = true ∧ (cellsOf v).length = m ∧ p + m ≤ e.length then some (id, .cells q k t fu (es.set i (e.take p ++ cellsOf v ++ e.drop (p + m)))) else none
  | none => none
def stO (o : AObj) (id q i p m : Nat) (v : AVal) : Option (Nat × AObj) :=
  match o with
  | .cells q' k t fu es => if q' = q then stE id q k t fu es i p m v (es[i]?) else none
  | _ => none
def stV (h : Nat → AObj) (x v : AVal) (m : Nat) : Option (Nat × AObj) :=
  match x with
  | .ptr id q i p => stO (h id) id q i p m v
  | _ => none
theorem astep_st {x v : SO} {m : Nat} {st : St} {f : Nat} : astep (.st x v m) st f = match stV st.h (ev st.s x) (ev st.s v) m with | some (id, o) => some ⟨none, .undef, [id], [(id, o)], []⟩ | none => none := by
  simp only [astep, stV]
  cases ev st.s x <;> simp only
  rename_i id q i p
  unfold obj stO
  cases st.h id <;> simp only
  rename_i q' k t fu es
  by_cases h : q' = q
  · rw [if_pos h, if_pos h]
    simp only
    unfold stE
    cases es[i]? with
    | none => rfl
    | some e =>
      simp only
      split <;> rfl
  · rw [if_neg h, if_neg h]
theorem X_st {x v : SO} {m : Nat} : OpX P n m0 dr (.st x v m) rt E s H ↔ ow rt E s H (stV (getO H) (ev (get s) x) (ev (get s) v) m) := by
  have key : astep (.st x v m) (S s H) H.length = match stV (getO H) (ev (get s) x) (ev (get s) v) m with | some (id, o) => some ⟨none, .undef, [id], [(id, o)], []⟩ | none => none := astep_st
  show (∃ e, astep (.st x v m) (S s H) H.length = some e ∧ _) ↔ _
  rw [key]
  cases stV (getO H) (ev (get s) x) (ev (get s) v) m with
  | none => simp [ow]
  | some y =>
    obtain ⟨id, o⟩ := y
    constructor
    · rintro ⟨e, he, h⟩
      injection he with he; subst he
      exact ⟨id, o, rfl, by simpa [Eff.ss, Eff.hh, putS, setAll] using h⟩
    · rintro ⟨id', o', he, h⟩
      injection he with he; injection he with e1 e2; subst e1 e2
      exact ⟨_, rfl, by simpa [Eff.ss, Eff.hh, putS, setAll] using h⟩
theorem stV_ptr {h : Nat → AObj} {id q i p m : Nat} {v : AVal} : stV h (.ptr id q i p) v m = stO (h id) id q i p m v := rfl
theorem stO_cells {id q i p m k : Nat} {t : TypeId} {fu : Bool} {es : List (List AVal)} {v : AVal} : stO (.cells q k t fu es) id q i p m v = stE id q k t fu es i p m v (es[i]?) := by simp [stO]
theorem stE_some {id q i p m k : Nat} {t : TypeId} {fu : Bool} {es : List (List AVal)} {v : AVal} {e : List AVal} : stE id q k t fu es i p m v (some e) =
    if v.flat = true ∧ (cellsOf v).length = m ∧ p + m ≤ e.length then some (id, .cells q k t fu (es.set i (e.take p ++ cellsOf v ++ e.drop (p + m)))) else none := rfl

/-- A new object. -/
def on (d : Nat) (rt : List Nat) (E : Lg → Slots → Heap → Prop) (s : Slots) (H : Heap) (r : Option (AVal × AObj)) : Prop :=
  ∃ v o, r = some (v, o) ∧ E ⟨some d, rt, [], [], H.length, 1⟩ ((d, v) :: s) (H ++ [o])
theorem on_some {v : AVal} {o : AObj} : on d rt E s H (some (v, o)) ↔ E ⟨some d, rt, [], [], H.length, 1⟩ ((d, v) :: s) (H ++ [o]) :=
  ⟨fun ⟨_, _, e, h⟩ => by cases e; exact h, fun h => ⟨_, _, rfl, h⟩⟩
theorem on_none : on d rt E s H none ↔ False := ⟨fun ⟨_, _, e, _⟩ => (by cases e), False.elim⟩
theorem on_ite {c : Prop} [Decidable c] {r : Option (AVal × AObj)} : on d rt E s H (if c then r else none) ↔ c ∧ on d rt E s H r := by
  by_cases h : c <;> simp [h, on_none]
theorem opx_new {o : SOp} {r : Option (AVal × AObj)} (h : OpX P n m0 dr o rt E s H = ∃ e, astep o (S s H) H.length = some e ∧ E ⟨e.d, rt, e.rd, e.wr.map (·.1), H.length, e.nw.length⟩ (e.ss s) (e.hh H))
    (ha : astep o (S s H) H.length = match r with | some (v, ob) => some ⟨some d, v, [], [], [ob]⟩ | none => none) : OpX P n m0 dr o rt E s H ↔ on d rt E s H r := by
  rw [h, ha]
  cases r with
  | none => simp [on]
  | some p =>
    obtain ⟨v, ob⟩ := p
    constructor
    · rintro ⟨e, he, h⟩
      injection he with he; subst he
      exact ⟨v, ob, rfl, by simpa [Eff.ss, Eff.hh, putS, setAll] using h⟩
    · rintro ⟨v', ob', he, h⟩
      injection he with he; injection he with e1 e2; subst e1 e2
      exact ⟨_, rfl, by simpa [Eff.ss, Eff.hh, putS, setAll] using h⟩

theorem astep_box {t : TypeId} {x : SO} {st : St} {f : Nat} : astep (.box d t x) st f = match (if (ev st.s x).flat = true ∧ 0 < (cellsOf (ev st.s x)).length then
    some (AVal.ptr f 0 0 0, AObj.cells 0 (cellsOf (ev st.s x)).length t true [cellsOf (ev st.s x)]) else none) with | some (v, ob) => some ⟨some d, v, [], [], [ob]⟩ | none => none := by
  simp only [astep]
  split <;> rfl
theorem X_box {t : TypeId} {x : SO} : OpX P n m0 dr (.box d t x) rt E s H ↔ on d rt E s H (if (ev (get s) x).flat = true ∧ 0 < (cellsOf (ev (get s) x)).length then
    some (.ptr H.length 0 0 0, .cells 0 (cellsOf (ev (get s) x)).length t true [cellsOf (ev (get s) x)]) else none) :=
  opx_new rfl astep_box
theorem X_alc {t : TypeId} {zs : List AVal} : OpX P n m0 dr (.alc d t zs) rt E s H ↔ on d rt E s H (if 0 < zs.length then some (.ptr H.length 0 0 0, .cells 0 zs.length t true [zs]) else none) :=
  opx_new rfl (by simp only [astep, S]; split <;> rfl)
def aggV (r : Option (List AVal)) : Option AVal :=
  match r with
  | some cs => some (.agg cs)
  | none => none
theorem aggV_some {cs : List AVal} : aggV (some cs) = some (.agg cs) := rfl
theorem X_bld {zs : List AVal} {ps : List (Nat × Nat × SO)} : OpX P n m0 dr (.bld d zs ps) rt E s H ↔ ov d rt E s H (v1 (aggV (fillA (get s) zs ps))) :=
  opx_val rfl (by simp only [astep, S]; cases fillA (get s) zs ps <;> rfl)
def bslV (f k : Nat) (t : TypeId) (m : Nat) (r : Option (List (List AVal))) : Option (AVal × AObj) :=
  match r with
  | some es => some (.row f 0 0 m, .cells 0 k t true es)
  | none => none
theorem bslV_some {f k : Nat} {t : TypeId} {m : Nat} {es : List (List AVal)} : bslV f k t m (some es) = some (.row f 0 0 m, .cells 0 k t true es) := rfl
theorem X_bsl {t : TypeId} {k : Nat} {zs : List AVal} {m : Nat} {ps : List (Nat × SO)} : OpX P n m0 dr (.bsl d t k zs m ps) rt E s H ↔ on d rt E s H (if 0 < k then bslV H.length k t m (fillE (get s) k (List.replicate m zs) ps) else none) :=
  opx_new rfl (by
    simp only [astep, S]
    by_cases h : 0 < k
    · rw [if_pos h, if_pos h]; cases fillE (get s) k (List.replicate m zs) ps <;> rfl
    · rw [if_neg h, if_neg h])

def lenV (str : Bool) (x : AVal) : Option AVal :=
  match lenX str x with
  | some m => some (.int .i64 m)
  | none => none
theorem X_len {str : Bool} {x : SO} : OpX P n m0 dr (.len d str x) rt E s H ↔ ov d rt E s H (v1 (lenV str (ev (get s) x))) :=
  opx_val rfl (by simp only [astep, S, lenV]; cases lenX str (ev (get s) x) <;> rfl)
theorem lenV_sl {k : Nat} {xs : List (List AVal)} : lenV false (.sl k xs) = some (.int .i64 xs.length) := rfl
theorem lenV_row {id q off len : Nat} : lenV false (.row id q off len) = some (.int .i64 len) := rfl
theorem lenV_nil : lenV false .nil = some (.int .i64 0) := rfl
theorem lenV_emp : lenV false .emp = some (.int .i64 0) := rfl
theorem lenV_str {b : ByteArray} : lenV true (.str b) = some (.int .i64 b.size) := rfl

def extV (x : AVal) (i : Nat) : Option AVal :=
  match x with
  | .tup vs => vs[i]?
  | _ => none
theorem extV_tup {vs : List AVal} {i : Nat} : extV (.tup vs) i = vs[i]? := rfl
theorem X_ext {x : SO} {i : Nat} : OpX P n m0 dr (.ext d x i) rt E s H ↔ ov d rt E s H (v1 (extV (ev (get s) x) i)) :=
  opx_val rfl (by
    simp only [astep, S, extV]
    cases ev (get s) x <;> simp only [v1]
    rename_i vs
    cases vs[i]? <;> rfl)
def nckV (x : AVal) : Option AVal :=
  match x with
  | .ptr id q i p => some (.ptr id q i p)
  | .iptr cs p => some (.iptr cs p)
  | .func f as bs => some (.func f as bs)
  | _ => none
theorem nckV_ptr {id q i p : Nat} : nckV (.ptr id q i p) = some (.ptr id q i p) := rfl
theorem nckV_iptr {cs : List AVal} {p : Nat} : nckV (.iptr cs p) = some (.iptr cs p) := rfl
theorem nckV_func {f : FuncId} {as bs : List AVal} : nckV (.func f as bs) = some (.func f as bs) := rfl
theorem X_nck {x : SO} : OpX P n m0 dr (.nck d x) rt E s H ↔ ov d rt E s H (v1 (nckV (ev (get s) x))) := opx_val rfl (by simp only [astep, S]; cases ev (get s) x <;> rfl)
theorem X_mkf {f : FuncId} {as bs : List SO} : OpX P n m0 dr (.mkf d f as bs) rt E s H ↔ E ⟨some d, rt, [], [], H.length, 0⟩ ((d, .func f (evs (get s) as) (evs (get s) bs)) :: s) H :=
  (opx_val (r := some (.func f (evs (get s) as) (evs (get s) bs), [])) rfl rfl).trans ov_some
theorem X_binN {kd : Nat} {neq : Bool} {x : SO} : OpX P n m0 dr (.binN d kd neq x) rt E s H ↔ kindOf (ev (get s) x) = kd ∧ BN dr d neq (nilOf (getO H) (ev (get s) x)) rt E s H := Iff.rfl
theorem BN_some {neq b : Bool} {rd : List Nat} : BN dr d neq (some (b, rd)) rt E s H ↔ E ⟨some d, rt, rd, [], H.length, 0⟩ ((d, .bool (if neq then !b else b)) :: s) H := Iff.rfl
theorem BN_none {neq : Bool} : BN dr d neq none rt E s H ↔ dr = false ∧ ∀ b : Bool, E ⟨some d, rt, [], [], H.length, 0⟩ ((d, .bool b) :: s) H := Iff.rfl

def slcV (h : Nat → AObj) (k : Nat) (x : AVal) (lo : Option Int) (hi : Nat → Option Int) : Option (AVal × List Nat) :=
  match lenOf x with
  | some m => slcOf h k x lo (hi m) false
  | none => none
theorem X_slc {k : Nat} {x : SO} {lo hi : Option SO} : OpX P n m0 dr (.slc d k x lo hi none) rt E s H ↔ ov d rt E s H (slcV (getO H) k (ev (get s) x) (bound (get s) lo 0) (bound (get s) hi)) :=
  opx_val rfl (by
    simp only [astep, S, slcV]
    cases lenOf (ev (get s) x) with
    | none => rfl
    | some m =>
      simp only
      cases slcOf (getO H) k (ev (get s) x) (bound (get s) lo 0) (bound (get s) hi m) false with
      | none => rfl
      | some y => rfl)

def slSV (x : AVal) (lo : Option Int) (hi : Nat → Option Int) : Option AVal :=
  match x with
  | .str b => match lo, hi b.size with
    | some l, some h' => if 0 ≤ l ∧ l ≤ h' ∧ h' ≤ b.size then some (.str (b.extract l.toNat h'.toNat)) else none
    | _, _ => none
  | _ => none
theorem X_slS {x : SO} {lo hi : Option SO} : OpX P n m0 dr (.slS d x lo hi) rt E s H ↔ ov d rt E s H (v1 (slSV (ev (get s) x) (bound (get s) lo 0) (bound (get s) hi))) :=
  opx_val rfl (by
    simp only [astep, S, slSV]
    cases ev (get s) x <;> simp only [v1]
    rename_i b
    cases bound (get s) lo 0 <;> cases bound (get s) hi b.size <;> simp only
    split <;> rfl)

def strofV (c : Option (List (List AVal) × List Nat)) : Option (AVal × List Nat) :=
  match c with
  | some (es, rd) => match strNums es with
    | some bs => some (.str (strOfNums bs), rd)
    | none => none
  | none => none
theorem X_strof {x : SO} : OpX P n m0 dr (.strof d x) rt E s H ↔ ov d rt E s H (strofV (conts (getO H) 1 (ev (get s) x))) :=
  opx_val rfl (by
    simp only [astep, S, strofV]
    cases conts (getO H) 1 (ev (get s) x) with
    | none => rfl
    | some y =>
      obtain ⟨es, rd⟩ := y
      simp only
      cases strNums es <;> rfl)

/-- Any effect, or none. -/
def oe (rt : List Nat) (E : Lg → Slots → Heap → Prop) (s : Slots) (H : Heap) (r : Option Eff) : Prop :=
  ∃ e, r = some e ∧ E ⟨e.d, rt, e.rd, e.wr.map (·.1), H.length, e.nw.length⟩ (e.ss s) (e.hh H)
theorem oe_some {e : Eff} : oe rt E s H (some e) ↔ E ⟨e.d, rt, e.rd, e.wr.map (·.1), H.length, e.nw.length⟩ (e.ss s) (e.hh H) :=
  ⟨fun ⟨_, h1, h⟩ => by cases h1; exact h, fun h => ⟨_, rfl, h⟩⟩
theorem oe_none : oe rt E s H none ↔ False := ⟨fun ⟨_, e, _⟩ => (by cases e), False.elim⟩
theorem oe_ite {c : Prop} [Decidable c] {r : Option Eff} : oe rt E s H (if c then r else none) ↔ c ∧ oe rt E s H r := by
  by_cases h : c <;> simp [h, oe_none]
def appC (d : Nat) (t : TypeId) (k bytes : Nat) (h : Nat → AObj) (f : Nat) (x : AVal) (c : Option (List (List AVal) × List Nat)) : Option Eff :=
  match c with
  | some (ys, rd) => appOf d t k bytes h f x ys rd
  | none => none
theorem appC_some {t : TypeId} {k bytes : Nat} {h : Nat → AObj} {f : Nat} {x : AVal} {ys : List (List AVal)} {rd : List Nat} : appC d t k bytes h f x (some (ys, rd)) = appOf d t k bytes h f x ys rd := rfl
theorem X_app {t : TypeId} {k bytes : Nat} {x y : SO} : OpX P n m0 dr (.app d t k bytes x y) rt E s H ↔ oe rt E s H (appC d t k bytes (getO H) H.length (ev (get s) x) (conts (getO H) k (ev (get s) y))) := by
  show (∃ e, astep (.app d t k bytes x y) (S s H) H.length = some e ∧ _) ↔ _
  have : astep (.app d t k bytes x y) (S s H) H.length = appC d t k bytes (getO H) H.length (ev (get s) x) (conts (getO H) k (ev (get s) y)) := by
    simp only [astep, S, appC]
    cases conts (getO H) k (ev (get s) y) <;> rfl
  rw [this]
  exact Iff.rfl

/-- A guard. -/
def GX (P : Program) (n m0 : Nat) (dr : Bool) (v : AVal) (want : Bool) (d : Option Nat) (o : SOp) (rt : List Nat) (E : Lg → Slots → Heap → Prop) (s : Slots) (H : Heap) : Prop :=
  dstG o = some d ∧ ((v = .bool want ∧ OpX P n m0 dr o rt E s H) ∨ ((v = .bool (!want) ∨ v = .tup []) ∧ E ⟨d, rt, [], [], H.length, 0⟩ (putS d (.tup []) s) H))
theorem X_g {t : Nat} {want : Bool} {d : Option Nat} {o : SOp} : OpX P n m0 dr (.g t want d o) rt E s H ↔ GX P n m0 dr (get s t) want d o rt E s H := Iff.rfl
section
variable {d : Option Nat} {o : SOp}
theorem GX_yes {want : Bool} (h : dstG o = some d) : GX P n m0 dr (.bool want) want d o rt E s H ↔ OpX P n m0 dr o rt E s H := by
  unfold GX
  cases want <;> simp [h]
theorem GX_tt (h : dstG o = some d) : GX P n m0 dr (.bool true) true d o rt E s H ↔ OpX P n m0 dr o rt E s H := GX_yes h
theorem GX_ff (h : dstG o = some d) : GX P n m0 dr (.bool false) false d o rt E s H ↔ OpX P n m0 dr o rt E s H := GX_yes h
theorem GX_tf (h : dstG o = some d) : GX P n m0 dr (.bool true) false d o rt E s H ↔ E ⟨d, rt, [], [], H.length, 0⟩ (putS d (.tup []) s) H := by simp [GX, h]
theorem GX_ft (h : dstG o = some d) : GX P n m0 dr (.bool false) true d o rt E s H ↔ E ⟨d, rt, [], [], H.length, 0⟩ (putS d (.tup []) s) H := by simp [GX, h]
theorem GX_un {want : Bool} (h : dstG o = some d) : GX P n m0 dr (.tup []) want d o rt E s H ↔ E ⟨d, rt, [], [], H.length, 0⟩ (putS d (.tup []) s) H := by simp [GX, h]
end
theorem putS_some {t : Nat} {v : AVal} : putS (some t) v s = (t, v) :: s := rfl
theorem putS_none {v : AVal} : putS none v s = s := rfl
theorem X_call {d : Option Nat} {f : SO} {xs : List SO} : OpX P n m0 dr (.call d f xs) rt E s H ↔ CX P n m0 dr d f xs rt E s H := Iff.rfl
end

mutual
theorem ren_lt {r : Nat → Nat} {m : Nat} (h : ∀ id, id < m → r id = id) : ∀ (c : AVal), ltv m c = true → ren r c = c
  | .row id st off len, hl => by simp only [ltv, decide_eq_true_eq] at hl; simp [ren, h id hl]
  | .ptr id st i o, hl => by simp only [ltv, decide_eq_true_eq] at hl; simp [ren, h id hl]
  | .map id, hl => by simp only [ltv, decide_eq_true_eq] at hl; simp [ren, h id hl]
  | .agg cs, hl => by simp only [ltv] at hl; simp only [ren, renL_lt h cs hl]
  | .tup cs, hl => by simp only [ltv] at hl; simp only [ren, renL_lt h cs hl]
  | .func f as bs, hl => by
    simp only [ltv, Bool.and_eq_true] at hl
    simp only [ren, renL_lt h as hl.1, renL_lt h bs hl.2]
  | .undef, _ => by simp [ren]
  | .bool _, _ => by simp [ren]
  | .int _ _, _ => by simp [ren]
  | .str _, _ => by simp [ren]
  | .nil, _ => by simp [ren]
  | .emp, _ => by simp [ren]
  | .sl _ _, _ => by simp [ren]
  | .nptr, _ => by simp [ren]
  | .iptr _ _, _ => by simp [ren]
  | .nfunc, _ => by simp [ren]
theorem renL_lt {r : Nat → Nat} {m : Nat} (h : ∀ id, id < m → r id = id) : ∀ (cs : List AVal), ltL m cs = true → renL r cs = cs
  | [], _ => by simp [renL]
  | c :: cs, hl => by
    simp only [ltL, Bool.and_eq_true] at hl
    simp only [renL, ren_lt h c hl.1, renL_lt h cs hl.2]
end

theorem renO_lt {r : Nat → Nat} {m : Nat} (h : ∀ id, id < m → r id = id) {o : AObj} (hl : ltO m o = true) : renO r o = o := by
  cases o with
  | free => rfl
  | dead => rfl
  | cells st k t fu es =>
    simp only [ltO, List.all_eq_true] at hl
    simp only [renO]
    congr 1
    conv => rhs; rw [← List.map_id es]
    exact List.map_congr_left fun e he => renL_lt h e (hl e he)
  | map es =>
    simp only [ltO, List.all_eq_true] at hl
    simp only [renO]
    congr 1
    conv => rhs; rw [← List.map_id es]
    exact List.map_congr_left fun e he => by rw [ren_lt h e.2 (hl e he)]; rfl

theorem ltO_get {H : Heap} {m : Nat} (h : H.all (ltO m) = true) (id : Nat) : ltO m (getO H id) = true := by
  rcases Nat.lt_or_ge id H.length with h' | h'
  · have : getO H id = H[id] := by simp [getO, List.getD, h']
    rw [this]
    exact (List.all_eq_true.1 h) _ (List.getElem_mem _)
  · rw [getO_free h']; rfl

section
variable {P : Program} {n m0 : Nat} {dr : Bool} {rt : List Nat} {E : Lg → Slots → Heap → Prop} {s : Slots} {H : Heap}

/-- A return: what is behind a first part of the heap is let go. -/
theorem Rt_pre {rs : List RS} {r : AVal} {H' T : Heap} (hm : m0 ≤ H'.length) (hret : retO (S s (H' ++ T)) rs = some r) (hl : ltv H'.length r = true) (hH : H'.all (ltO H'.length) = true) : Rt n m0 (Ret rs m0 r H') s (H' ++ T) := by
  intro w0 G0 h0 hb a w G hr ht
  refine ⟨G, S s (H' ++ T), hr, ht, r, fun id => id, hret, ?_, hl, fun id hid => ⟨?_, ltO_get hH id⟩, fun i j _ _ h => h, hm, fun _ _ => rfl⟩
  · exact (ren_lt (m := H'.length) (fun _ _ => rfl) r hl).symm
  · show getO (H' ++ T) id = _
    rw [renO_lt (m := H'.length) (fun _ _ => rfl) (ltO_get hH id)]
    simp [getO, List.getD, List.getElem?_append_left hid]

/-- Nothing of the heap is left. -/
theorem Rt_pure {rs : List RS} {r : AVal} (hret : retO (S s H) rs = some r) (hl : ltv 0 r = true) : Rt n 0 (Ret rs 0 r []) s H :=
  Rt_pre (H' := []) (T := H) (Nat.le_refl _) hret hl rfl

theorem Gs_refl : Gs n m0 s H s H := fun _ _ _ _ a w G hr ht => ⟨G, hr, ht⟩

theorem CX_gen {d : Option Nat} {f : SO} {xs : List SO} {g : FuncId} {first caps cargs : List AVal} {Hc Hc' : Heap} {rv : AVal} (ρ ws : List Nat)
    (hf : ev (get s) f = .func g first caps) (hargs : renL (rho ρ Hc.length H.length) cargs = first ++ evs (get s) xs ++ caps) (hlt : ltL Hc.length cargs = true) (hltH : Hc.all (ltO Hc.length) = true)
    (hρ : ρ.length = Hc.length) (hnd : ρ.Nodup) (hb : ∀ x ∈ ρ, x < H.length) (hobj : ∀ j, j < Hc.length → getO H (ρ.getD j 0) = renO (rho ρ Hc.length H.length) (getO Hc j)) (hA : ACalls P g cargs Hc rv Hc')
    (hm : Hc.length ≤ Hc'.length) (hws : ∀ j, j < Hc.length → j ∉ ws → getO Hc' j = getO Hc j) (hws' : ∀ j ∈ ws, j < Hc.length)
    (hE : E ⟨d, rt, ρ, ws.map fun j => ρ.getD j 0, H.length, Hc'.length - Hc.length⟩ ((callEff d ρ Hc.length H.length ws rv Hc').ss s) ((callEff d ρ Hc.length H.length ws rv Hc').hh H)) : CX P n m0 dr d f xs rt E s H := by
  obtain ⟨h1, h2⟩ := call_loc (P := P) (n := n) hf hargs hlt hltH hρ hnd hb hobj hA hm hws hws'
  refine ⟨s, H, fun _ => ⟨rfl, rfl⟩, Gs_refl, _, h1, h2, ?_⟩
  have e1 : (callEff d ρ Hc.length H.length ws rv Hc').wr.map (·.1) = ws.map fun j => ρ.getD j 0 := by simp [callEff]
  have e2 : (callEff d ρ Hc.length H.length ws rv Hc').nw.length = Hc'.length - Hc.length := by simp [callEff]
  rw [e1, e2]
  exact hE

/-- A call that has nothing to do with the heap. -/
theorem CX_pure {d : Option Nat} {f : SO} {xs : List SO} {g : FuncId} {first caps args : List AVal} {r : AVal} (hA : ACalls P g args [] r []) (hf : ev (get s) f = .func g first caps) (hargs : first ++ evs (get s) xs ++ caps = args)
    (hl : ltL 0 args = true) (hr : ltv 0 r = true) (hE : E ⟨d, rt, [], [], H.length, 0⟩ (putS d r s) H) : CX P n m0 dr d f xs rt E s H := by
  refine CX_gen (cargs := args) (Hc := []) (Hc' := []) (rv := r) [] [] hf ?_ hl rfl rfl List.nodup_nil (by simp) (fun j hj => by simp at hj) hA (Nat.le_refl _) (fun j hj => by simp at hj) (by simp) ?_
  · rw [hargs]; exact renL_lt (m := 0) (fun id h => by omega) args hl
  · have e1 : (callEff d [] (List.length ([] : Heap)) H.length [] r []).ss s = putS d r s := by
      simp only [callEff, Eff.ss]
      rw [ren_lt (m := 0) (fun id h => by omega) r hr]
    have e2 : (callEff d [] (List.length ([] : Heap)) H.length [] r []).hh H = H := by simp [callEff, Eff.hh, setAll]
    rw [e1, e2]
    exact hE

/-- A call on a first part of the heap, without new objects, that changes none. -/
theorem CX_read {d : Option Nat} {f : SO} {xs : List SO} {g : FuncId} {first caps args : List AVal} {r : AVal} {Hc T : Heap} (hA : ACalls P g args Hc r Hc) (hf : ev (get s) f = .func g first caps) (hargs : first ++ evs (get s) xs ++ caps = args)
    (hl : ltL Hc.length args = true) (hr : ltv Hc.length r = true) (hHc : Hc.all (ltO Hc.length) = true) (hE : E ⟨d, rt, List.range Hc.length, [], (Hc ++ T).length, 0⟩ (putS d r s) (Hc ++ T)) : CX P n m0 dr d f xs rt E s (Hc ++ T) := by
  have hid : ∀ id, id < Hc.length → rho (List.range Hc.length) Hc.length (Hc ++ T).length id = id := fun id h => by simp [rho, h]
  refine CX_gen (cargs := args) (Hc := Hc) (Hc' := Hc) (rv := r) (List.range Hc.length) [] hf ?_ hl hHc (by simp) List.nodup_range (fun x hx => Nat.lt_of_lt_of_le (by simpa using hx : x < Hc.length) (by simp)) (fun j hj => ?_) hA (Nat.le_refl _) (fun j hj _ => rfl) (by simp) ?_
  · rw [hargs]; exact renL_lt hid args hl
  · rw [renO_lt hid (ltO_get hHc j)]
    simp [getO, List.getD, hj, List.getElem?_append_left hj]
  · have e1 : (callEff d (List.range Hc.length) Hc.length (Hc ++ T).length [] r Hc).ss s = putS d r s := by
      simp only [callEff, Eff.ss]
      rw [ren_lt hid r hr]
    have e2 : (callEff d (List.range Hc.length) Hc.length (Hc ++ T).length [] r Hc).hh (Hc ++ T) = Hc ++ T := by simp [callEff, Eff.hh, setAll]
    rw [e1, e2]
    simpa using hE
end

/-- Less is known, or the same in another way. -/
inductive Wk : AVal → AVal → Prop
  | refl (c : AVal) : Wk c c
  | undef (c : AVal) : Wk c .undef
  | nil (k : Nat) : Wk .nil (.sl k [])
  | emp (k : Nat) : Wk .emp (.sl k [])

theorem Wk.vr {w : World} {G : Gh} {h : Nat → AObj} {c c' : AVal} {v : Value} (k : Wk c c') (hv : VR w G h c v) : VR w G h c' v := by
  cases k with
  | refl => exact hv
  | undef => exact .undef v
  | nil k => rw [hv.nil_inv]; exact .cl _ _ (.slz k none 0)
  | emp k => obtain ⟨a, e⟩ := hv.emp_inv; rw [e]; exact .cl _ _ (.slz k a 0)

section
variable {P : Program} {n m0 : Nat} {s s' : Slots} {H : Heap}

/-- Slots are forgotten, or told in another way. -/
theorem Gs_slots (h : ∀ p ∈ s', Wk (get s p.1) p.2) : Gs n m0 s H s' H := by
  intro w0 G0 h0 hb a w G hr ht
  refine ⟨G, ⟨fun t => ?_, hr.defers, hr.size, hr.heap⟩, ht⟩
  have key : ∀ (l : Slots), (∀ p ∈ l, Wk (get s p.1) p.2) → Wk (get s t) (get l t) := by
    intro l
    induction l with
    | nil => intro _; exact .undef _
    | cons p l ih =>
      intro hl
      obtain ⟨t', v⟩ := p
      simp only [get]
      by_cases e : t' = t
      · rw [if_pos e]; subst e; exact hl (t', v) (List.mem_cons_self ..)
      · rw [if_neg e]; exact ih fun q hq => hl q (List.mem_cons_of_mem _ hq)
  exact (key s' h).vr (hr.slots t)

theorem Gs.trans {s1 s2 s3 : Slots} {H1 H2 H3 : Heap} (a : Gs n m0 s1 H1 s2 H2) (b : Gs n m0 s2 H2 s3 H3) : Gs n m0 s1 H1 s3 H3 := by
  intro w0 G0 h0 hb x w G hr ht
  obtain ⟨G1, h1, t1⟩ := a w0 G0 h0 hb x w G hr ht
  exact b w0 G0 h0 hb x w G1 h1 t1

/-- A round of a loop, its text unfolded once. -/
theorem Lp.of_eq (hmx : P.follows .mixedOrders = true) {Q : St → Prop} {c b : SC} {k : List It} {s : Slots} {H : Heap} (e : c = b) (h : V P n m0 Q (.code b :: .again c :: k) s H) : Lp P n m0 Q c k s H := by
  subst e; exact Lp.of hmx h

theorem wrap_succ {m : Nat} (h : m + 1 < 2 ^ 63) : IntKind.i64.wrap ((m : Int) + 1) = ((m + 1 : Nat) : Int) := by rw [IntKind.wrap_i64]; omega
theorem wrap_pred {m : Nat} (h : m < 2 ^ 63) : IntKind.i64.wrap (((m + 1 : Nat) : Int) - 1) = (m : Int) := by rw [IntKind.wrap_i64]; omega

theorem Lp.gs {Q : St → Prop} {c : SC} {k : List It} {s1 s2 : Slots} {H1 H2 : Heap} (a : Gs n m0 s1 H1 s2 H2) (h : Lp P n m0 Q c k s2 H2) : Lp P n m0 Q c k s1 H1 := by
  intro ks hm w0 G0 h0 hb x w G hr ht
  obtain ⟨G1, h1, t1⟩ := a w0 G0 h0 hb x w G hr ht
  exact h ks hm w0 G0 h0 hb x w G1 h1 t1

theorem Rt.gs {Q : St → Prop} {s1 s2 : Slots} {H1 H2 : Heap} (a : Gs n m0 s1 H1 s2 H2) (h : Rt n m0 Q s2 H2) : Rt n m0 Q s1 H1 := by
  intro w0 G0 h0 hb x w G hr ht
  obtain ⟨G1, h1, t1⟩ := a w0 G0 h0 hb x w G hr ht
  exact h w0 G0 h0 hb x w G1 h1 t1

theorem CX.gs {d : Option Nat} {f : SO} {xs : List SO} {rt : List Nat} {E : Lg → Slots → Heap → Prop} {s1 s2 : Slots} {H1 H2 : Heap} (a : Gs n m0 s1 H1 s2 H2) (h : CX P n m0 false d f xs rt E s2 H2) : CX P n m0 false d f xs rt E s1 H1 := by
  obtain ⟨s', H', _, h2, e, h3, h4, h5⟩ := h
  exact ⟨s', H', fun e => (by cases e), a.trans h2, e, h3, h4, h5⟩

/-- The last objects are let go; those that the function was given stay. -/
theorem Gs_drop {s : Slots} {H T : Heap} (hm : m0 ≤ H.length) (hs : ∀ p ∈ s, ltv H.length p.2 = true) (hH : H.all (ltO H.length) = true) : Gs n m0 s (H ++ T) s H := by
  intro w0 G0 h0 hb a w G hr ht
  have ho : ∀ id, id < H.length → getO (H ++ T) id = renO (fun i => i) (getO H id) := fun id hid => by
    rw [renO_lt (m := H.length) (fun _ _ => rfl) (ltO_get hH id)]
    simp [getO, List.getD, List.getElem?_append_left hid]
  have hd := HR.dn (r := fun i => i) (m := H.length) (hc := getO H) hr.heap (fun i j _ _ h => h) ho (fun id hid => getO_free hid) (fun id hid => ltO_get hH id)
  have hget : ∀ t, ltv H.length (get s t) = true := by
    intro t
    have : ∀ (l : Slots), (∀ p ∈ l, ltv H.length p.2 = true) → ltv H.length (get l t) = true := by
      intro l
      induction l with
      | nil => intro _; simp [get, ltv]
      | cons p l ih =>
        intro hl
        obtain ⟨t', v⟩ := p
        simp only [get]
        split
        · exact hl (t', v) (List.mem_cons_self ..)
        · exact ih fun q hq => hl q (List.mem_cons_of_mem _ hq)
    exact this s hs
  have eM : ∀ id, id < H.length → (if id < H.length then G.M ((fun i => i) id) else none) = G.M id := fun id h => if_pos h
  refine ⟨⟨G.I, fun id => if id < H.length then G.M ((fun i => i) id) else none⟩, ⟨fun t => ?_, hr.defers, hr.size, hd⟩, ⟨ht.size, ht.keep, ht.os, ht.tape, ht.output, ht.I, ht.I', fun k hk => ?_, fun id hid => ?_, fun id st k t fu es' hid hh => ?_, fun id es' hid hh => ?_⟩⟩
  · refine VR.dn (G := G) (h := getO (H ++ T)) (Gc := ⟨G.I, fun id => if id < H.length then G.M ((fun i => i) id) else none⟩) (r := fun i => i) (m := H.length) rfl (fun id hid => if_pos hid) ho _ _ ?_ (hget t)
    have e1 : ren (fun i => i) ((S s H).s t) = get s t := ren_lt (m := H.length) (fun _ _ => rfl) _ (hget t)
    rw [e1]
    exact hr.slots t
  · obtain ⟨id, C, l, hM⟩ := hk
    have hid : id < H.length := lt_of_getO (fun e => by rw [e] at l; cases l)
    simp only [hid, if_true] at hM
    refine ht.own' k ⟨id, C, ?_, hM⟩
    rw [ho id hid, renO_live]; exact l
  · have hlt : id < m0 := by
      rcases Nat.lt_or_ge id m0 with h | h
      · exact h
      · exact absurd (hb id h) hid
    have h1 := ht.ext.free id hid
    rw [ho id (by omega)] at h1
    exact fun e => h1 (renO_free.2 e)
  · have hlt : id < m0 := by
      rcases Nat.lt_or_ge id m0 with h | h
      · exact h
      · exact absurd (hb id h) hid
    obtain ⟨st0, k0, t0, fu0, es, e1, l1, c1⟩ := ht.ext.cells id st k t fu (es'.map (renL fun i => i)) hid (by rw [ho id (by omega), hh]; rfl)
    refine ⟨st0, k0, t0, fu0, es, e1, l1, fun e => ?_⟩
    obtain ⟨p1, p2, p3⟩ := c1 e
    refine ⟨p1, by simpa using p2, ?_⟩
    simp only [show id < H.length by omega, if_true]
    exact p3
  · have hlt : id < m0 := by
      rcases Nat.lt_or_ge id m0 with h | h
      · exact h
      · exact absurd (hb id h) hid
    obtain ⟨es, e1, c1⟩ := ht.ext.map id (es'.map fun p => (p.1, ren (fun i => i) p.2)) hid (by rw [ho id (by omega), hh]; rfl)
    refine ⟨es, e1, ?_⟩
    simp only [show id < H.length by omega, if_true]
    exact c1
end

theorem dstG_mv {d : Nat} {x : SO} : dstG (.mv d x) = some (some d) := by simp only [dstG, dstS]
theorem dstG_pick {d : Nat} {c : SO} {x : SO} {y : SO} : dstG (.pick d c x y) = some (some d) := by simp only [dstG, dstS]
theorem dstG_bin {d : Nat} {op : BinOp} {x : SO} {y : SO} : dstG (.bin d op x y) = some (some d) := by simp only [dstG, dstS]
theorem dstG_binB {d : Nat} {neq : Bool} {x : SO} {y : SO} : dstG (.binB d neq x y) = some (some d) := by simp only [dstG, dstS]
theorem dstG_binS {d : Nat} {op : BinOp} {x : SO} {y : SO} : dstG (.binS d op x y) = some (some d) := by simp only [dstG, dstS]
theorem dstG_binA {d : Nat} {neq : Bool} {ks : List Nat} {x : SO} {y : SO} : dstG (.binA d neq ks x y) = some (some d) := by simp only [dstG, dstS]
theorem dstG_binN {d : Nat} {kd : Nat} {neq : Bool} {x : SO} : dstG (.binN d kd neq x) = some (some d) := by simp only [dstG, dstS]
theorem dstG_binP {d : Nat} {neq : Bool} {x : SO} {y : SO} : dstG (.binP d neq x y) = some (some d) := by simp only [dstG, dstS]
theorem dstG_not {d : Nat} {x : SO} : dstG (.not d x) = some (some d) := by simp only [dstG, dstS]
theorem dstG_neg {d : Nat} {x : SO} : dstG (.neg d x) = some (some d) := by simp only [dstG, dstS]
theorem dstG_conv {d : Nat} {k : IntKind} {x : SO} : dstG (.conv d k x) = some (some d) := by simp only [dstG, dstS]
theorem dstG_strof {d : Nat} {x : SO} : dstG (.strof d x) = some (some d) := by simp only [dstG, dstS]
theorem dstG_fa {d : Nat} {x : SO} {o : Nat} : dstG (.fa d x o) = some (some d) := by simp only [dstG, dstS]
theorem dstG_ia {d : Nat} {x : SO} {i : SO} {k : Nat} : dstG (.ia d x i k) = some (some d) := by simp only [dstG, dstS]
theorem dstG_iaA {d : Nat} {x : SO} {i : SO} {k : Nat} {n : Nat} : dstG (.iaA d x i k n) = some (some d) := by simp only [dstG, dstS]
theorem dstG_ixS {d : Nat} {x : SO} {i : SO} : dstG (.ixS d x i) = some (some d) := by simp only [dstG, dstS]
theorem dstG_ld {d : Nat} {x : SO} {agg : Bool} {n : Nat} : dstG (.ld d x agg n) = some (some d) := by simp only [dstG, dstS]
theorem dstG_st {x : SO} {v : SO} {n : Nat} : dstG (.st x v n) = some none := by simp only [dstG, dstS]
theorem dstG_box {d : Nat} {t : TypeId} {x : SO} : dstG (.box d t x) = some (some d) := by simp only [dstG, dstS]
theorem dstG_alc {d : Nat} {t : TypeId} {zs : List AVal} : dstG (.alc d t zs) = some (some d) := by simp only [dstG, dstS]
theorem dstG_bld {d : Nat} {zs : List AVal} {ps : List (Nat × Nat × SO)} : dstG (.bld d zs ps) = some (some d) := by simp only [dstG, dstS]
theorem dstG_bsl {d : Nat} {t : TypeId} {k : Nat} {zs : List AVal} {n : Nat} {ps : List (Nat × SO)} : dstG (.bsl d t k zs n ps) = some (some d) := by simp only [dstG, dstS]
theorem dstG_slc {d : Nat} {k : Nat} {x : SO} {lo : Option SO} {hi : Option SO} {mx : Option SO} : dstG (.slc d k x lo hi mx) = some (some d) := by simp only [dstG, dstS]
theorem dstG_slS {d : Nat} {x : SO} {lo : Option SO} {hi : Option SO} : dstG (.slS d x lo hi) = some (some d) := by simp only [dstG, dstS]
theorem dstG_len {d : Nat} {str : Bool} {x : SO} : dstG (.len d str x) = some (some d) := by simp only [dstG, dstS]
theorem dstG_mn {d : Nat} {x : SO} {y : SO} : dstG (.mn d x y) = some (some d) := by simp only [dstG, dstS]
theorem dstG_mx {d : Nat} {x : SO} {y : SO} : dstG (.mx d x y) = some (some d) := by simp only [dstG, dstS]
theorem dstG_app {d : Nat} {t : TypeId} {k : Nat} {bytes : Nat} {x : SO} {y : SO} : dstG (.app d t k bytes x y) = some (some d) := by simp only [dstG, dstS]
theorem dstG_apz {d : Nat} {t : TypeId} {k : Nat} {bytes : Nat} {zs : List AVal} {x : SO} {n : SO} : dstG (.apz d t k bytes zs x n) = some (some d) := by simp only [dstG, dstS]
theorem dstG_cpy {d : Option Nat} {k : Nat} {x : SO} {y : SO} : dstG (.cpy d k x y) = some d := by simp only [dstG, dstS]
theorem dstG_clr {d : Option Nat} {zs : List AVal} {x : SO} : dstG (.clr d zs x) = some d := by simp only [dstG, dstS]
theorem dstG_cap {d : Nat} {x : SO} : dstG (.cap d x) = some (some d) := by simp only [dstG, dstS]
theorem dstG_mks {d : Nat} {t : TypeId} {k : Nat} {bytes : Nat} {zs : List AVal} {n : SO} {c : SO} : dstG (.mks d t k bytes zs n c) = some (some d) := by simp only [dstG, dstS]
theorem dstG_ext {d : Nat} {x : SO} {i : Nat} : dstG (.ext d x i) = some (some d) := by simp only [dstG, dstS]
theorem dstG_nck {d : Nat} {x : SO} : dstG (.nck d x) = some (some d) := by simp only [dstG, dstS]
theorem dstG_mkf {d : Nat} {f : FuncId} {as : List SO} {bs : List SO} : dstG (.mkf d f as bs) = some (some d) := by simp only [dstG, dstS]
theorem dstG_mkm {d : Nat} : dstG (.mkm d) = some (some d) := by simp only [dstG, dstS]
theorem dstG_mst {m : SO} {k : SO} {x : SO} : dstG (.mst m k x) = some none := by simp only [dstG, dstS]
theorem dstG_mgt {d : Nat} {m : SO} {k : SO} {z : AVal} {ok : Bool} : dstG (.mgt d m k z ok) = some (some d) := by simp only [dstG, dstS]
theorem dstG_call {d : Option Nat} {f : SO} {xs : List SO} : dstG (.call d f xs) = some d := by simp only [dstG, dstS]

section
variable {P : Program} {n m0 : Nat} {d : Nat} {rt : List Nat} {K : Slots → Heap → Prop} {s : Slots} {H : Heap} {b want dr : Bool}

/-- A guarded value: there where the guard says so. -/
def gk (b want : Bool) (d : Nat) (r : Option (AVal × List Nat)) (K : Slots → Heap → Prop) (s : Slots) (H : Heap) : Prop :=
  (b = want → r.isSome = true) ∧ K ((d, if b = want then (r.map (·.1)).getD .undef else .tup []) :: s) H

theorem gk_some {v : AVal} {rd : List Nat} : gk b want d (some (v, rd)) K s H ↔ K ((d, if b = want then v else .tup []) :: s) H := by simp [gk]
theorem gk_ft {r : Option (AVal × List Nat)} : gk false true d r K s H ↔ K ((d, .tup []) :: s) H := by simp [gk]
theorem gk_tf {r : Option (AVal × List Nat)} : gk true false d r K s H ↔ K ((d, .tup []) :: s) H := by simp [gk]
theorem gk_same {r r' : Option (AVal × List Nat)} : gk b want d (if b = want then r else r') K s H ↔ gk b want d r K s H := by
  unfold gk
  by_cases h : b = want <;> simp [h]
theorem gk_ite {c : Prop} [Decidable c] {r : Option (AVal × List Nat)} : gk b want d (if c then r else none) K s H ↔ (b = want → c) ∧ gk b want d r K s H := by
  unfold gk
  by_cases h : b = want
  · by_cases hc : c <;> simp [h, hc]
  · simp [h]
theorem GX_mrg {o : SOp} {r : Option (AVal × List Nat)} (hX : ∀ rt E, OpX P n m0 dr o rt E s H ↔ ov d rt E s H r) (hd : dstG o = some (some d)) :
    GX P n m0 dr (.bool b) want (some d) o rt (ign K) s H ↔ gk b want d r K s H := by
  unfold GX gk
  rw [hX]
  simp only [hd, true_and, ign_app, putS]
  by_cases h : b = want
  · subst h
    have h1 : ¬ (AVal.bool b = .bool (!b)) := by cases b <;> simp
    cases r with
    | none => simp [ov]
    | some y =>
      obtain ⟨v, rd⟩ := y
      rw [ov_some]
      simp [ign_app]
  · have h1 : want = !b := by cases b <;> cases want <;> simp at h ⊢
    subst h1
    simp

theorem G_mv {x : SO} : GX P n m0 dr (.bool b) want (some d) (.mv d x) rt (ign K) s H ↔ K ((d, if b = want then ev (get s) x else .tup []) :: s) H :=
  (GX_mrg (r := some (ev (get s) x, [])) (fun rt E => X_mv.trans ov_some.symm) rfl).trans gk_some
theorem G_bin {op : BinOp} {x y : SO} : GX P n m0 dr (.bool b) want (some d) (.bin d op x y) rt (ign K) s H ↔ gk b want d (v1 (binI op (ev (get s) x) (ev (get s) y))) K s H := GX_mrg (fun _ _ => X_bin) rfl
theorem G_binB {neq : Bool} {x y : SO} : GX P n m0 dr (.bool b) want (some d) (.binB d neq x y) rt (ign K) s H ↔ gk b want d (v1 (binBool neq (ev (get s) x) (ev (get s) y))) K s H := GX_mrg (fun _ _ => X_binB) rfl
theorem G_binS {op : BinOp} {x y : SO} : GX P n m0 dr (.bool b) want (some d) (.binS d op x y) rt (ign K) s H ↔ gk b want d (v1 (binStr op (ev (get s) x) (ev (get s) y))) K s H := GX_mrg (fun _ _ => X_binS) rfl
theorem G_binA {neq : Bool} {ks : List Nat} {x y : SO} : GX P n m0 dr (.bool b) want (some d) (.binA d neq ks x y) rt (ign K) s H ↔ gk b want d (v1 (binAgg neq ks (ev (get s) x) (ev (get s) y))) K s H := GX_mrg (fun _ _ => X_binA) rfl
theorem G_pick {c x y : SO} : GX P n m0 dr (.bool b) want (some d) (.pick d c x y) rt (ign K) s H ↔ gk b want d (v1 (pickV (ev (get s) c) (ev (get s) x) (ev (get s) y))) K s H := GX_mrg (fun _ _ => X_pick) rfl
theorem G_not {x : SO} : GX P n m0 dr (.bool b) want (some d) (.not d x) rt (ign K) s H ↔ gk b want d (v1 (notV (ev (get s) x))) K s H := GX_mrg (fun _ _ => X_not) rfl
theorem G_conv {k : IntKind} {x : SO} : GX P n m0 dr (.bool b) want (some d) (.conv d k x) rt (ign K) s H ↔ gk b want d (v1 (convV k (ev (get s) x))) K s H := GX_mrg (fun _ _ => X_conv) rfl
theorem G_fa {x : SO} {o : Nat} : GX P n m0 dr (.bool b) want (some d) (.fa d x o) rt (ign K) s H ↔ gk b want d (v1 (faV (ev (get s) x) o)) K s H := GX_mrg (fun _ _ => X_fa) rfl
theorem G_ia {x i : SO} {k : Nat} : GX P n m0 dr (.bool b) want (some d) (.ia d x i k) rt (ign K) s H ↔ gk b want d (iaV (getO H) k (ev (get s) x) (ev (get s) i)) K s H := GX_mrg (fun _ _ => X_ia) rfl
theorem G_iaA {x i : SO} {k len : Nat} : GX P n m0 dr (.bool b) want (some d) (.iaA d x i k len) rt (ign K) s H ↔ gk b want d (v1 (iaAV k len (ev (get s) x) (ev (get s) i))) K s H := GX_mrg (fun _ _ => X_iaA) rfl
theorem G_ixS {x i : SO} : GX P n m0 dr (.bool b) want (some d) (.ixS d x i) rt (ign K) s H ↔ gk b want d (v1 (ixSV (ev (get s) x) (ev (get s) i))) K s H := GX_mrg (fun _ _ => X_ixS) rfl
theorem G_ld {x : SO} {agg : Bool} {m : Nat} : GX P n m0 dr (.bool b) want (some d) (.ld d x agg m) rt (ign K) s H ↔ gk b want d (ldV (getO H) (ev (get s) x) agg m) K s H := GX_mrg (fun _ _ => X_ld) rfl
theorem G_len {str : Bool} {x : SO} : GX P n m0 dr (.bool b) want (some d) (.len d str x) rt (ign K) s H ↔ gk b want d (v1 (lenV str (ev (get s) x))) K s H := GX_mrg (fun _ _ => X_len) rfl
theorem G_ext {x : SO} {i : Nat} : GX P n m0 dr (.bool b) want (some d) (.ext d x i) rt (ign K) s H ↔ gk b want d (v1 (extV (ev (get s) x) i)) K s H := GX_mrg (fun _ _ => X_ext) rfl
theorem G_nck {x : SO} : GX P n m0 dr (.bool b) want (some d) (.nck d x) rt (ign K) s H ↔ gk b want d (v1 (nckV (ev (get s) x))) K s H := GX_mrg (fun _ _ => X_nck) rfl
theorem G_mkf {f : FuncId} {as bs : List SO} : GX P n m0 dr (.bool b) want (some d) (.mkf d f as bs) rt (ign K) s H ↔ K ((d, if b = want then .func f (evs (get s) as) (evs (get s) bs) else .tup []) :: s) H :=
  (GX_mrg (r := some (.func f (evs (get s) as) (evs (get s) bs), [])) (fun rt E => X_mkf.trans ov_some.symm) rfl).trans gk_some

section
variable {c : Prop} [Decidable c]
theorem binI_itel {op : BinOp} {x y z : AVal} : binI op (if c then x else y) z = if c then binI op x z else binI op y z := by split <;> rfl
theorem binI_iter {op : BinOp} {x y z : AVal} : binI op z (if c then x else y) = if c then binI op z x else binI op z y := by split <;> rfl
theorem binBool_itel {neq : Bool} {x y z : AVal} : binBool neq (if c then x else y) z = if c then binBool neq x z else binBool neq y z := by split <;> rfl
theorem binBool_iter {neq : Bool} {x y z : AVal} : binBool neq z (if c then x else y) = if c then binBool neq z x else binBool neq z y := by split <;> rfl
theorem binStr_itel {op : BinOp} {x y z : AVal} : binStr op (if c then x else y) z = if c then binStr op x z else binStr op y z := by split <;> rfl
theorem binStr_iter {op : BinOp} {x y z : AVal} : binStr op z (if c then x else y) = if c then binStr op z x else binStr op z y := by split <;> rfl
theorem binAgg_itel {neq : Bool} {ks : List Nat} {x y z : AVal} : binAgg neq ks (if c then x else y) z = if c then binAgg neq ks x z else binAgg neq ks y z := by split <;> rfl
theorem binAgg_iter {neq : Bool} {ks : List Nat} {x y z : AVal} : binAgg neq ks z (if c then x else y) = if c then binAgg neq ks z x else binAgg neq ks z y := by split <;> rfl
theorem notV_ite {x y : AVal} : notV (if c then x else y) = if c then notV x else notV y := by split <;> rfl
theorem convV_ite {k : IntKind} {x y : AVal} : convV k (if c then x else y) = if c then convV k x else convV k y := by split <;> rfl
theorem faV_ite {x y : AVal} {o : Nat} : faV (if c then x else y) o = if c then faV x o else faV y o := by split <;> rfl
theorem iaV_itel {h : Nat → AObj} {k : Nat} {x y i : AVal} : iaV h k (if c then x else y) i = if c then iaV h k x i else iaV h k y i := by split <;> rfl
theorem iaV_iter {h : Nat → AObj} {k : Nat} {x y i : AVal} : iaV h k i (if c then x else y) = if c then iaV h k i x else iaV h k i y := by split <;> rfl
theorem ldV_ite {h : Nat → AObj} {x y : AVal} {agg : Bool} {m : Nat} : ldV h (if c then x else y) agg m = if c then ldV h x agg m else ldV h y agg m := by split <;> rfl
theorem lenV_ite {str : Bool} {x y : AVal} : lenV str (if c then x else y) = if c then lenV str x else lenV str y := by split <;> rfl
theorem extV_ite {i : Nat} {x y : AVal} : extV (if c then x else y) i = if c then extV x i else extV y i := by split <;> rfl
end

theorem binI_add {k : IntKind} {a c : Int} : binI .add (.int k a) (.int k c) = some (.int k (k.wrap (a + c))) := by simp [binI]
theorem binI_sub {k : IntKind} {a c : Int} : binI .sub (.int k a) (.int k c) = some (.int k (k.wrap (a - c))) := by simp [binI]
theorem binI_mul {k : IntKind} {a c : Int} : binI .mul (.int k a) (.int k c) = some (.int k (k.wrap (a * c))) := by simp [binI]
theorem binI_quo {k : IntKind} {a c : Int} : binI .quo (.int k a) (.int k c) = if c ≠ 0 then some (.int k (k.wrap (a.tdiv c))) else none := by by_cases h : c = 0 <;> simp [binI, h]
theorem binI_rem {k : IntKind} {a c : Int} : binI .rem (.int k a) (.int k c) = if c ≠ 0 then some (.int k (a.tmod c)) else none := by by_cases h : c = 0 <;> simp [binI, h]
theorem binI_eql {k : IntKind} {a c : Int} : binI .eql (.int k a) (.int k c) = some (.bool (decide (a = c))) := by simp [binI]
theorem binI_neq {k : IntKind} {a c : Int} : binI .neq (.int k a) (.int k c) = some (.bool (!decide (a = c))) := by simp [binI]
theorem binI_lss {k : IntKind} {a c : Int} : binI .lss (.int k a) (.int k c) = some (.bool (decide (a < c))) := by simp [binI]
theorem binI_leq {k : IntKind} {a c : Int} : binI .leq (.int k a) (.int k c) = some (.bool (decide (a ≤ c))) := by simp [binI]
theorem binI_gtr {k : IntKind} {a c : Int} : binI .gtr (.int k a) (.int k c) = some (.bool (decide (c < a))) := by simp [binI]
theorem binI_geq {k : IntKind} {a c : Int} : binI .geq (.int k a) (.int k c) = some (.bool (decide (c ≤ a))) := by simp [binI]
theorem binI_shl {k k' : IntKind} {a c : Int} : binI .shl (.int k a) (.int k' c) = if 0 ≤ c then some (.int k (k.wrap (a * 2 ^ (min c.toNat k.bits)))) else none := rfl
theorem binI_shr {k k' : IntKind} {a c : Int} : binI .shr (.int k a) (.int k' c) = if 0 ≤ c then some (.int k (a.fdiv (2 ^ (min c.toNat k.bits)))) else none := rfl
theorem binI_and {k : IntKind} {a c : Int} : binI .and (.int k a) (.int k c) = some (.int k (k.wrap (BitVec.ofInt k.bits a &&& BitVec.ofInt k.bits c).toNat)) := by simp [binI]
theorem binI_or {k : IntKind} {a c : Int} : binI .or (.int k a) (.int k c) = some (.int k (k.wrap (BitVec.ofInt k.bits a ||| BitVec.ofInt k.bits c).toNat)) := by simp [binI]
theorem binI_xor {k : IntKind} {a c : Int} : binI .xor (.int k a) (.int k c) = some (.int k (k.wrap (BitVec.ofInt k.bits a ^^^ BitVec.ofInt k.bits c).toNat)) := by simp [binI]
theorem binB_eql {a c : Bool} : binBool false (.bool a) (.bool c) = some (.bool (a == c)) := rfl
theorem binB_neq {a c : Bool} : binBool true (.bool a) (.bool c) = some (.bool (!(a == c))) := rfl
theorem binS_eql {a c : ByteArray} : binStr .eql (.str a) (.str c) = some (.bool (decide (a = c))) := rfl
theorem binS_neq {a c : ByteArray} : binStr .neq (.str a) (.str c) = some (.bool (!decide (a = c))) := rfl
theorem binA_agg {neq : Bool} {ks : List Nat} {as bs : List AVal} : binAgg neq ks (.agg as) (.agg bs) = (eqCells ks as bs).map fun x => .bool (if neq then !x else x) := by
  cases h : eqCells ks as bs <;> simp [binAgg, h]
theorem eqCells_nil : eqCells [] [] [] = some true := rfl
theorem eqCells_int {ks : List Nat} {q : IntKind} {a c : Int} {as bs : List AVal} : eqCells (1 :: ks) (.int q a :: as) (.int q c :: bs) = (eqCells ks as bs).map (decide (a = c) && ·) := by
  cases h : eqCells ks as bs <;> simp [eqCells, eqCell, h]
theorem eqCells_bool {ks : List Nat} {a c : Bool} {as bs : List AVal} : eqCells (2 :: ks) (.bool a :: as) (.bool c :: bs) = (eqCells ks as bs).map ((a == c) && ·) := by
  cases h : eqCells ks as bs <;> simp [eqCells, eqCell, h]
theorem eqCells_str {ks : List Nat} {a c : ByteArray} {as bs : List AVal} : eqCells (3 :: ks) (.str a :: as) (.str c :: bs) = (eqCells ks as bs).map (decide (a = c) && ·) := by
  cases h : eqCells ks as bs <;> simp [eqCells, eqCell, h]
theorem cells_agg {cs : List AVal} : cellsOf (.agg cs) = cs := rfl
theorem cells_int {k : IntKind} {a : Int} : cellsOf (.int k a) = [.int k a] := rfl
theorem cells_bool {a : Bool} : cellsOf (.bool a) = [.bool a] := rfl
theorem cells_str {a : ByteArray} : cellsOf (.str a) = [.str a] := rfl
theorem cells_nil : cellsOf .nil = [.nil] := rfl
theorem cells_emp : cellsOf .emp = [.emp] := rfl
theorem cells_sl {k : Nat} {xs : List (List AVal)} : cellsOf (.sl k xs) = [.sl k xs] := rfl
theorem cells_row {a q o l : Nat} : cellsOf (.row a q o l) = [.row a q o l] := rfl
theorem cells_ptr {a q o l : Nat} : cellsOf (.ptr a q o l) = [.ptr a q o l] := rfl
theorem cells_iptr {cs : List AVal} {o : Nat} : cellsOf (.iptr cs o) = [.iptr cs o] := rfl
theorem cells_nptr : cellsOf .nptr = [.nptr] := rfl
theorem cells_func {f : FuncId} {as bs : List AVal} : cellsOf (.func f as bs) = [.func f as bs] := rfl
theorem cells_nfunc : cellsOf .nfunc = [.nfunc] := rfl
theorem cells_map {a : Nat} : cellsOf (.map a) = [.map a] := rfl
theorem flat_agg {cs : List AVal} : (AVal.agg cs).flat = true := rfl
theorem flat_int {k : IntKind} {a : Int} : (AVal.int k a).flat = true := rfl
theorem flat_bool {a : Bool} : (AVal.bool a).flat = true := rfl
theorem flat_str {a : ByteArray} : (AVal.str a).flat = true := rfl
theorem flat_nil : AVal.nil.flat = true := rfl
theorem flat_emp : AVal.emp.flat = true := rfl
theorem flat_sl {k : Nat} {xs : List (List AVal)} : (AVal.sl k xs).flat = true := rfl
theorem flat_row {a q o l : Nat} : (AVal.row a q o l).flat = true := rfl
theorem flat_ptr {a q o l : Nat} : (AVal.ptr a q o l).flat = true := rfl
theorem flat_iptr {cs : List AVal} {o : Nat} : (AVal.iptr cs o).flat = true := rfl
theorem flat_nptr : AVal.nptr.flat = true := rfl
theorem flat_func {f : FuncId} {as bs : List AVal} : (AVal.func f as bs).flat = true := rfl
theorem flat_nfunc : AVal.nfunc.flat = true := rfl
theorem flat_map {a : Nat} : (AVal.map a).flat = true := rfl
theorem fillA_nil {s : Nat → AVal} {cs : List AVal} : fillA s cs [] = some cs := rfl
theorem fillA_cons {s : Nat → AVal} {cs : List AVal} {o n : Nat} {x : SO} {ps : List (Nat × Nat × SO)} : fillA s cs ((o, n, x) :: ps) =
    if (ev s x).flat = true ∧ (cellsOf (ev s x)).length = n ∧ o + n ≤ cs.length then fillA s (cs.take o ++ cellsOf (ev s x) ++ cs.drop (o + n)) ps else none := rfl
theorem fillE_nil {s : Nat → AVal} {k : Nat} {es : List (List AVal)} : fillE s k es [] = some es := rfl
theorem fillE_cons {s : Nat → AVal} {k : Nat} {es : List (List AVal)} {i : Nat} {x : SO} {ps : List (Nat × SO)} : fillE s k es ((i, x) :: ps) =
    if (ev s x).flat = true ∧ (cellsOf (ev s x)).length = k ∧ i < es.length then fillE s k (es.set i (cellsOf (ev s x))) ps else none := rfl

section
variable {o : SOp} {od : Option Nat} {E : Lg → Slots → Heap → Prop} {v w : Bool} {z : AVal}
theorem GX_n1 : GX P n m0 dr (if b = true then .bool v else .tup []) true od o rt E s H ↔ GX P n m0 dr (.bool (b && v)) true od o rt E s H := by cases b <;> simp [GX]
theorem GX_n2 : GX P n m0 dr (if b = true then .bool v else .tup []) false od o rt E s H ↔ GX P n m0 dr (.bool (!b || v)) false od o rt E s H := by cases b <;> simp [GX]
theorem GX_n3 : GX P n m0 dr (if b = false then .bool v else .tup []) true od o rt E s H ↔ GX P n m0 dr (.bool (!b && v)) true od o rt E s H := by cases b <;> simp [GX]
theorem GX_n4 : GX P n m0 dr (if b = false then .bool v else .tup []) false od o rt E s H ↔ GX P n m0 dr (.bool (b || v)) false od o rt E s H := by cases b <;> simp [GX]
theorem gk_p1 : gk b true d (v1 (pickV (.bool v) (.bool true) (if (!b || v) = false then .bool w else z))) K s H ↔ K ((d, if b = true then .bool (v || w) else .tup []) :: s) H := by
  cases b <;> cases v <;> simp [gk, pickV, v1]
theorem gk_p2 : gk b true d (v1 (pickV (.bool v) (if (b && v) = true then .bool w else z) (.bool false))) K s H ↔ K ((d, if b = true then .bool (v && w) else .tup []) :: s) H := by
  cases b <;> cases v <;> simp [gk, pickV, v1]
theorem gk_p3 : gk b false d (v1 (pickV (.bool v) (.bool true) (if (b || v) = false then .bool w else z))) K s H ↔ K ((d, if b = false then .bool (v || w) else .tup []) :: s) H := by
  cases b <;> cases v <;> simp [gk, pickV, v1]
theorem gk_p4 : gk b false d (v1 (pickV (.bool v) (if (!b && v) = true then .bool w else z) (.bool false))) K s H ↔ K ((d, if b = false then .bool (v && w) else .tup []) :: s) H := by
  cases b <;> cases v <;> simp [gk, pickV, v1]
theorem pickV_ite {c : Prop} [Decidable c] {x y u t : AVal} : pickV (if c then x else y) u t = if c then pickV x u t else pickV y u t := by split <;> rfl
end

theorem iteite {c : Prop} [Decidable c] {x y z : AVal} : (if c then (if c then x else y) else z) = if c then x else z := by split <;> rfl

theorem pickV_true {x y : AVal} : pickV (.bool true) x y = some x := rfl
theorem pickV_false {x y : AVal} : pickV (.bool false) x y = some y := rfl
theorem pickV_or {v : Bool} {z : AVal} : pickV (.bool b) (.bool true) (if b = false then .bool v else z) = some (.bool (b || v)) := by cases b <;> rfl
theorem pickV_and {v : Bool} {z : AVal} : pickV (.bool b) (if b = true then .bool v else z) (.bool false) = some (.bool (b && v)) := by cases b <;> rfl
end

section
variable {P : Program} {n m0 : Nat} {dr : Bool} {d : Nat} {od : Option Nat} {rt : List Nat} {E : Lg → Slots → Heap → Prop} {s : Slots} {H : Heap}

def cpyV (od : Option Nat) (k : Nat) (h : Nat → AObj) (x : AVal) (c : Option (List (List AVal) × List Nat)) : Option Eff :=
  match c with
  | some (ys, rd) => match x with
    | .nil | .emp => some ⟨od, .int .i64 0, rd, [], []⟩
    | .row id q off len => match obj h id q with
      | some (k', t, fu, es) => if k' = k then
          some ⟨od, .int .i64 (min ys.length len : Nat), id :: rd, [(id, .cells q k t fu (es.take off ++ ys.take (min ys.length len) ++ es.drop (off + min ys.length len)))], []⟩
        else none
      | none => none
    | _ => none
  | none => none
theorem X_cpy {k : Nat} {x y : SO} : OpX P n m0 dr (.cpy od k x y) rt E s H ↔ oe rt E s H (cpyV od k (getO H) (ev (get s) x) (conts (getO H) k (ev (get s) y))) := by
  show (∃ e, astep (.cpy od k x y) (S s H) H.length = some e ∧ _) ↔ _
  have : astep (.cpy od k x y) (S s H) H.length = cpyV od k (getO H) (ev (get s) x) (conts (getO H) k (ev (get s) y)) := by
    simp only [astep, S, cpyV]
    cases conts (getO H) k (ev (get s) y) with
    | none => rfl
    | some p => cases ev (get s) x <;> rfl
  rw [this]
  exact Iff.rfl

def clrV (od : Option Nat) (zs : List AVal) (h : Nat → AObj) (x : AVal) : Option Eff :=
  match x with
  | .nil | .emp => some ⟨od, .tup [], [], [], []⟩
  | .row id q off len => match obj h id q with
    | some (k, t, fu, es) => if zs.length = k then
        some ⟨od, .tup [], [id], [(id, .cells q k t fu (es.take off ++ List.replicate len zs ++ es.drop (off + len)))], []⟩
      else none
    | none => none
  | _ => none
theorem X_clr {zs : List AVal} {x : SO} : OpX P n m0 dr (.clr od zs x) rt E s H ↔ oe rt E s H (clrV od zs (getO H) (ev (get s) x)) := by
  show (∃ e, astep (.clr od zs x) (S s H) H.length = some e ∧ _) ↔ _
  have : astep (.clr od zs x) (S s H) H.length = clrV od zs (getO H) (ev (get s) x) := by
    simp only [astep, S, clrV]
    cases ev (get s) x <;> rfl
  rw [this]
  exact Iff.rfl

def apzV (d : Nat) (t : TypeId) (k bytes : Nat) (zs : List AVal) (h : Nat → AObj) (f : Nat) (x m : AVal) : Option Eff :=
  match m with
  | .int _ m => if 0 ≤ m ∧ m ≤ 140737488355328 ∧ zs.length = k then appOf d t k bytes h f x (List.replicate m.toNat zs) [] else none
  | _ => none
theorem X_apz {t : TypeId} {k bytes : Nat} {zs : List AVal} {x m : SO} : OpX P n m0 dr (.apz d t k bytes zs x m) rt E s H ↔ oe rt E s H (apzV d t k bytes zs (getO H) H.length (ev (get s) x) (ev (get s) m)) := by
  show (∃ e, astep (.apz d t k bytes zs x m) (S s H) H.length = some e ∧ _) ↔ _
  have : astep (.apz d t k bytes zs x m) (S s H) H.length = apzV d t k bytes zs (getO H) H.length (ev (get s) x) (ev (get s) m) := by
    simp only [astep, S, apzV]
    cases ev (get s) m <;> rfl
  rw [this]
  exact Iff.rfl
end
end Go.Av
