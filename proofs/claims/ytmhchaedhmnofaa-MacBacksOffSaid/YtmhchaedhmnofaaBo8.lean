/- The seat: part Bo8. -/
import Derived.Test.YtmhchaedhmnofaaBo7
import Derived.KernelRfl
import Derived.Test.YtmhchaedhmnofaaBo5
set_option maxRecDepth 100000
set_option maxHeartbeats 1000000
set_option linter.unusedSimpArgs false
set_option linter.unusedVariables false
namespace Go.Av.T
open Go Go.Av Go.Av.Sp Go.Proofs.Try
theorem cmp_lt (a n : Int) : cmp a n < 0 ↔ a < n := by grind [cmp]
theorem cmp_eq (a n : Int) : cmp a n = 0 ↔ a = n := by grind [cmp]
theorem bs_srt {α : Type} {f : α → Int} {n : Int} : ∀ {xs : List α}, xs.Pairwise (fun a b => f a ≤ f b) → ∀ i x, xs[i]? = some x → (cmp (f x) n < 0 ↔ i < bsLo (fun x => cmp (f x) n) xs)
  | [], _, i, x, h => by simp at h
  | y :: ys, hp, i, x, h => by
    have hl := (List.pairwise_cons.1 hp).1
    have ih := bs_srt (n := n) (List.pairwise_cons.1 hp).2
    rw [bsLo, List.takeWhile_cons]
    cases i with
    | zero =>
      simp only [List.getElem?_cons_zero, Option.some.injEq] at h
      subst h
      by_cases c : cmp (f y) n < 0 <;> simp [c]
    | succ i =>
      rw [List.getElem?_cons_succ] at h
      have h1 := ih i x h
      by_cases c : cmp (f y) n < 0
      · rw [if_pos (decide_eq_true c), List.length_cons, h1, bsLo]; omega
      · have h2 := hl x (List.mem_of_getElem? h)
        rw [cmp_lt] at c
        rw [if_neg (by simp [cmp_lt]; omega), cmp_lt]
        simp
        omega
theorem bs_find {α : Type} {f : α → Int} {n : Int} : ∀ {xs : List α}, xs.Pairwise (fun a b => f a ≤ f b) → xs.find? (fun x => decide (f x = n)) = match xs[bsLo (fun x => cmp (f x) n) xs]? with | some x => if f x = n then some x else none | none => none
  | [], _ => rfl
  | y :: ys, hp => by
    have hl := (List.pairwise_cons.1 hp).1
    have ih := bs_find (n := n) (List.pairwise_cons.1 hp).2
    by_cases c : f y < n
    · have e : bsLo (fun x => cmp (f x) n) (y :: ys) = bsLo (fun x => cmp (f x) n) ys + 1 := by rw [bsLo, List.takeWhile_cons, if_pos (by simpa [cmp_lt] using c)]; rfl
      rw [e, List.find?_cons_of_neg (by simp; omega), List.getElem?_cons_succ]
      exact ih
    · have e : bsLo (fun x => cmp (f x) n) (y :: ys) = 0 := by rw [bsLo, List.takeWhile_cons, if_neg (by simpa [cmp_lt] using c)]; rfl
      rw [e, List.getElem?_cons_zero]
      by_cases c2 : f y = n
      · rw [List.find?_cons_of_pos (by simpa using c2)]; simp [c2]
      · rw [List.find?_cons_of_neg (by simpa using c2)]
        simp only [c2, if_false]
        exact List.find?_eq_none.2 fun x hx => by have := hl x hx; simp; omega
theorem chainE_srt {α : Type} {err : α → Int} {lt : α → α → Bool} {e : Int} {f : α → Int} (he : e ≠ 0) (hlt : ∀ a b, lt a b = true → f a ≤ f b) : ∀ (xs : List α) (p : Option α), chainE err lt e p xs = 0 → xs.Pairwise (fun a b => f a ≤ f b) ∧ ∀ q, p = some q → ∀ x ∈ xs, f q ≤ f x
  | [], p, _ => ⟨.nil, by simp⟩
  | x :: xs, none, h => by
    simp only [chainE, Bool.false_eq_true, if_false] at h
    split at h
    · rename_i h1; exact absurd h h1
    · obtain ⟨i1, i2⟩ := chainE_srt he hlt xs (some x) h
      exact ⟨List.pairwise_cons.2 ⟨fun y hy => i2 x rfl y hy, i1⟩, by simp⟩
  | x :: xs, some p, h => by
    simp only [chainE] at h
    split at h
    · rename_i h1; exact absurd h h1
    · split at h
      · exact absurd h he
      · rename_i h2
        obtain ⟨i1, i2⟩ := chainE_srt he hlt xs (some x) h
        refine ⟨List.pairwise_cons.2 ⟨fun y hy => i2 x rfl y hy, i1⟩, fun q hq y hy => ?_⟩
        cases hq
        have h3 : f p ≤ f x := hlt p x (by simpa using h2)
        rcases List.mem_cons.1 hy with rfl | hy
        · exact h3
        · exact Int.le_trans h3 (i2 x rfl y hy)
theorem tab_srt {t : Table} (h : tabErr t = 0) : t.cells.Pairwise (fun a b => a.slot ≤ b.slot) := by
  unfold tabErr at h
  split at h
  · cases h
  · split at h
    · cases h
    · exact (chainE_srt (by decide) (fun a b h => by simp only [cellLess, Bool.or_eq_true, Bool.and_eq_true, decide_eq_true_eq] at h; omega) _ _ h).1
/-- A cell and whether there is one. -/
def oCell (o : Option TCell) : AVal := match o with | some c => .tup [.agg c.enc, .bool true] | none => .tup [.agg TCell.zero.enc, .bool false]
theorem tab_len {t : Table} (h : tabErr t = 0) : 1 ≤ t.len := by
  unfold tabErr at h
  split at h
  · cases h
  · rename_i h1
    simp only [Bool.or_eq_true, decide_eq_true_eq, not_or] at h1
    omega
theorem find_at {α : Type} {f : α → Int} {n : Int} {xs : List α} (hp : xs.Pairwise (fun a b => f a ≤ f b)) : (∀ (h : bsLo (fun x => cmp (f x) n) xs < xs.length), xs.find? (fun x => decide (f x = n)) = if f (xs[bsLo (fun x => cmp (f x) n) xs]'h) = n then some (xs[bsLo (fun x => cmp (f x) n) xs]'h) else none) ∧ (xs.length ≤ bsLo (fun x => cmp (f x) n) xs → xs.find? (fun x => decide (f x = n)) = none) := by
  refine ⟨fun h => ?_, fun h => ?_⟩
  · rw [bs_find hp, List.getElem?_eq_getElem h]
  · rw [bs_find hp, List.getElem?_eq_none h]
theorem c191_pf (t : Table) (slot : Int) (hL : t.cells.length < 2 ^ 62) : ACalls prog 43 [.agg [.int .i64 t.node, .int .i64 t.len, .sl 6 (t.cells.map TCell.enc)], .int .i64 slot] [] (oCell (tabAt t slot)) [] := by
  refine calls_of hmx func43 (by kernel_rfl) (c := f43.body.getD .skip) rfl e191 (rs := [(.cell 4 true 6), (.t 5)]) (by kernel_rfl) (by simp [ntmps43]) ?_
  simp only [c191, argS]
  simp only [go_sem, seval]
  repeat' first | refine CX_pure (c80_ok hL) rfl rfl rfl rfl ?_ | refine GX_call (fun _ => (c80_ok hL)) (by rfl) (by intro h; simp only [h]; rfl) (by rfl) (by rfl) ?_ | (with_reducible intro h; try simp only [h]) | (with_reducible refine And.intro ?_ ?_) | (change chk _ _ = true; rfl) | simp only [go_sem, seval, Vc_bool] | refine (GX_split rfl).2 ?_
  · have e : tabAt t slot = none := by
      rw [tabAt, if_pos]
      simpa using h
    rw [e]
    (refine Rt_pure ?_ rfl; simp only [retO, retO1, retOs, S, get_cons, Nat.reduceEqDiff, reduceIte, obj, getO_cons_zero, getO_cons_succ, List.getElem?_cons_zero, List.getElem?_cons_succ, List.drop_zero, List.drop_succ_cons, loadFrom_cell, loadFrom_agg, List.length_cons, List.length_nil, Nat.reduceAdd, Nat.reduceLeDiff, List.take_succ_cons, List.take_zero, List.take_nil])
    rfl
  · simp only [Bool.or_eq_false_iff, Bool.not_eq_false', decide_eq_true_eq] at h
    have := tab_len h.1
    omega
  · simp only [Bool.or_eq_false_iff, Bool.not_eq_false', decide_eq_true_eq, decide_eq_false_iff_not] at h
    have hs := tab_srt h.1
    have e : tabAt t slot = t.cells.find? fun c => decide (c.slot = slot.tmod t.len) := by
      rw [tabAt, if_neg]
      simp [h.1]; omega
    obtain ⟨zf1, zf2⟩ := find_at (n := slot.tmod t.len) hs
    rw [← e] at zf1 zf2
    refine CX_pure (c299_ok hL (bs_srt hs)) rfl rfl rfl rfl ?_
    clear e
    have hlen := tab_len h.1
    generalize hnn : slot.tmod t.len = nn at *
    rcases Nat.lt_or_ge (bsLo (fun x : TCell => cmp x.slot nn) t.cells) t.cells.length with hl | hl
    · have e1 : decide (((bsLo (fun x : TCell => cmp x.slot nn) t.cells : Nat) : Int) < (t.cells.length : Int)) = true := by simp; omega
      have e2 : (t.cells.map TCell.enc)[bsLo (fun x : TCell => cmp x.slot nn) t.cells]? = some (TCell.enc t.cells[bsLo (fun x : TCell => cmp x.slot nn) t.cells]) := by rw [List.getElem?_map, List.getElem?_eq_getElem hl]; rfl
      rw [zf1 hl]
      generalize t.cells[bsLo (fun x : TCell => cmp x.slot nn) t.cells] = c at *
      repeat' first | (with_reducible intro h; try simp only [h]) | (with_reducible refine And.intro ?_ ?_) | (change chk _ _ = true; rfl) | simp only [go_sem, seval, Vc_bool, List.length_map, e1, e2, Int.toNat_natCast, Int.natCast_nonneg, hnn] | refine (GX_split rfl).2 ?_
      · omega
      · rw [if_pos (of_decide_eq_true h)]
        (refine Rt_pure ?_ rfl; simp only [retO, retO1, retOs, S, get_cons, Nat.reduceEqDiff, reduceIte, obj, getO_cons_zero, getO_cons_succ, List.getElem?_cons_zero, List.getElem?_cons_succ, List.drop_zero, List.drop_succ_cons, loadFrom_cell, loadFrom_agg, List.length_cons, List.length_nil, Nat.reduceAdd, Nat.reduceLeDiff, List.take_succ_cons, List.take_zero, List.take_nil])
        rfl
      · rw [if_neg (of_decide_eq_false h)]
        (refine Rt_pure ?_ rfl; simp only [retO, retO1, retOs, S, get_cons, Nat.reduceEqDiff, reduceIte, obj, getO_cons_zero, getO_cons_succ, List.getElem?_cons_zero, List.getElem?_cons_succ, List.drop_zero, List.drop_succ_cons, loadFrom_cell, loadFrom_agg, List.length_cons, List.length_nil, Nat.reduceAdd, Nat.reduceLeDiff, List.take_succ_cons, List.take_zero, List.take_nil])
        rfl
    · have e1 : decide (((bsLo (fun x : TCell => cmp x.slot nn) t.cells : Nat) : Int) < (t.cells.length : Int)) = false := by simp; omega
      rw [zf2 hl]
      repeat' first | (refine Rt_pure ?_ rfl; simp only [retO, retO1, retOs, S, get_cons, Nat.reduceEqDiff, reduceIte, obj, getO_cons_zero, getO_cons_succ, List.getElem?_cons_zero, List.getElem?_cons_succ, List.drop_zero, List.drop_succ_cons, loadFrom_cell, loadFrom_agg, List.length_cons, List.length_nil, Nat.reduceAdd, Nat.reduceLeDiff, List.take_succ_cons, List.take_zero, List.take_nil]) | (with_reducible intro h; try simp only [h]) | (with_reducible refine And.intro ?_ ?_) | (change chk _ _ = true; rfl) | simp only [go_sem, seval, Vc_bool, List.length_map, e1] | refine (GX_split rfl).2 ?_
      rfl
theorem c191_ok {t_node : Int} {t_len : Int} {t_cells : List TCell} {slot : Int} (hL : t_cells.length < 2 ^ 62) : ACalls prog 43 [.agg [.int .i64 t_node, .int .i64 t_len, .sl 6 (t_cells.map TCell.enc)], .int .i64 slot] [] (oCell (tabAt (⟨t_node, t_len, t_cells⟩ : Table) slot)) [] := c191_pf (⟨t_node, t_len, t_cells⟩ : Table) slot hL


def c96 : SC := (.seq (.reg [(.box 2 35 (.t 0)), (.mv 4 (.c .nptr)), (.mv 5 (.c (.int .i64 0)))]) (.seq (.seq (.reg [(.ld 7 (.t 2) true 14), (.call (some 8) (.c (.func 14 [] [])) [(.t 7)]), (.bin 9 .neq (.t 8) (.c (.int .i64 0)))]) (.cond (.t 9) (.seq (.reg [(.mv 4 (.c .nptr)), (.mv 5 (.c (.int .i64 1)))]) .ret) .skip)) (.seq (.seq (.reg [(.mv 10 (.t 1)), (.call (some 11) (.c (.func 26 [] [])) [(.t 10), (.c (.int .i64 109951162))]), (.not 12 (.t 11))]) (.cond (.t 12) (.seq (.reg [(.mv 4 (.c .nptr)), (.mv 5 (.c (.int .i64 2)))]) .ret) .skip)) (.seq (.reg [(.ld 13 (.t 2) true 14), (.call (some 14) (.c (.func 16 [] [])) [(.t 13)]), (.mv 15 (.t 1)), (.bld 16 [(.int .i64 0), (.int .i64 0), .nil, (.int .i64 0), .nil, .nil, .nil, (.int .i64 0), (.int .i64 0), (.int .i64 0), (.int .i64 0), (.int .i64 0), (.int .i64 0), (.int .i64 0), (.int .i64 0), (.int .i64 0), (.int .i64 0), (.int .i64 0), (.bool false), (.int .i64 0), (.int .i64 0)] [(0, 14, (.t 14)), (14, 1, (.t 15))]), (.box 17 77 (.t 16)), (.mv 6 (.t 17))]) (.seq (.reg [(.mv 19 (.t 6)), (.fa 20 (.t 2) 0), (.ld 21 (.t 20) true 3), (.mv 22 (.t 1)), (.call (some 23) (.c (.func 43 [] [])) [(.t 21), (.t 22)]), (.mv 18 (.t 23)), (.ext 24 (.t 18) 0), (.ext 25 (.t 18) 1), (.nck 26 (.t 19)), (.fa 27 (.t 26) 15), (.st (.t 27) (.t 24) 6)]) (.seq (.reg [(.mv 28 (.t 6)), (.mv 4 (.t 28)), (.mv 5 (.c (.int .i64 0)))]) .ret))))))
theorem e96 : compC prog f18.ntmps (f18.body.getD .skip) = c96 := by kernel_rfl
/-- A station at work: the slot, and the cell in force. -/
def wEnc (s : Station) (slot : Int) (c : TCell) : List AVal := [.int .i64 s.tab.node, .int .i64 s.tab.len, .sl 6 (s.tab.cells.map TCell.enc), .int .i64 s.q.limit, .sl 6 (s.q.pk.map Packet.enc), .sl 5 (s.held.map Held.enc), .sl 2 (s.seen.map Seen.enc), .int .i64 s.list, .int .i64 s.seq, .int .i64 s.trying, .int .i64 s.tries, .int .i64 s.back, .int .i64 s.wait, .int .i64 s.seed, .int .i64 slot, .int .i64 c.slot, .int .i64 c.off, .int .i64 c.kind, .bool c.send, .int .i64 c.peer, .int .i64 c.flow]
attribute [go_sem] wEnc
theorem ClBd.st {s : Station} (h : ClBd s) : StBd s := by
  obtain ⟨b1, b2, b3, b4, b5⟩ := h
  exact ⟨by omega, by omega, by omega, fun h hh => by have := b5 h hh; omega, by omega⟩
def cellAt (s : Station) (slot : Int) : TCell := (tabAt s.tab slot).getD TCell.zero
theorem oCell_eq (o : Option TCell) : oCell o = .tup [.agg (o.getD TCell.zero).enc, .bool o.isSome] := by cases o <;> rfl
theorem c191_at {s : Station} {slot : Int} (hL : s.tab.cells.length < 2 ^ 62) : ACalls prog 43 [.agg s.tab.enc, .int .i64 slot] [] (.tup [.agg (cellAt s slot).enc, .bool (tabAt s.tab slot).isSome]) [] := by
  have h := c191_ok (t_node := s.tab.node) (t_len := s.tab.len) (t_cells := s.tab.cells) (slot := slot) hL
  rw [oCell_eq] at h
  exact h
theorem c96_err {s : Station} {slot : Int} (hB : ClBd s) (hE : slotErr s slot ≠ 0) : ACalls prog 18 [.agg s.enc, .int .i64 slot] [] (.tup [.nptr, .int .i64 (slotErr s slot)]) [] := by
  refine calls_of hmx func18 (by kernel_rfl) (c := f18.body.getD .skip) rfl e96 (rs := [(.t 4), (.t 5)]) (by kernel_rfl) (by simp [ntmps18]) ?_
  simp only [c96, argS]
  simp only [go_sem, seval]
  repeat' first | refine CX_pure (c22_pf s hB.st) rfl rfl rfl rfl ?_ | refine CX_pure c81_ok rfl rfl rfl rfl ?_ | refine GX_call (fun _ => (c22_pf s hB.st)) (by rfl) (by intro h; simp only [h]; rfl) (by rfl) (by rfl) ?_ | refine GX_call (fun _ => c81_ok) (by rfl) (by intro h; simp only [h]; rfl) (by rfl) (by rfl) ?_ | (with_reducible intro h; try simp only [h]) | (with_reducible refine And.intro ?_ ?_) | (change chk _ _ = true; rfl) | simp only [go_sem, seval, Vc_bool] | refine (GX_split rfl).2 ?_
  · have e : slotErr s slot = 1 := by grind [slotErr, stErr]
    rw [e]
    (refine Rt_pure ?_ rfl; simp only [retO, retO1, retOs, S, get_cons, Nat.reduceEqDiff, reduceIte, obj, getO_cons_zero, getO_cons_succ, List.getElem?_cons_zero, List.getElem?_cons_succ, List.drop_zero, List.drop_succ_cons, loadFrom_cell, loadFrom_agg, List.length_cons, List.length_nil, Nat.reduceAdd, Nat.reduceLeDiff, List.take_succ_cons, List.take_zero, List.take_nil])
  · have e : slotErr s slot = 2 := by grind [slotErr, stErr, wi]
    rw [e]
    (refine Rt_pure ?_ rfl; simp only [retO, retO1, retOs, S, get_cons, Nat.reduceEqDiff, reduceIte, obj, getO_cons_zero, getO_cons_succ, List.getElem?_cons_zero, List.getElem?_cons_succ, List.drop_zero, List.drop_succ_cons, loadFrom_cell, loadFrom_agg, List.length_cons, List.length_nil, Nat.reduceAdd, Nat.reduceLeDiff, List.take_succ_cons, List.take_zero, List.take_nil])
  · exact absurd (by grind [slotErr, stErr, wi]) hE
theorem c96_ok {s : Station} {slot : Int} (hB : ClBd s) (hE : slotErr s slot = 0) : ACalls prog 18 [.agg s.enc, .int .i64 slot] [] (.tup [.ptr 0 0 0 0, .int .i64 0]) [.cells 0 21 77 true [wEnc s slot (cellAt s slot)]] := by
  refine calls_of hmx func18 (by kernel_rfl) (c := f18.body.getD .skip) rfl e96 (rs := [(.t 4), (.t 5)]) (by kernel_rfl) (by simp [ntmps18]) ?_
  simp only [c96, argS]
  simp only [go_sem, seval]
  repeat' first | refine CX_pure (c22_pf s hB.st) rfl rfl rfl rfl ?_ | refine CX_pure c81_ok rfl rfl rfl rfl ?_ | refine CX_pure (c152_pf s hB) rfl rfl rfl rfl ?_ | refine CX_pure (c191_at hB.st.1) rfl rfl rfl rfl ?_ | refine GX_call (fun _ => (c22_pf s hB.st)) (by rfl) (by intro h; simp only [h]; rfl) (by rfl) (by rfl) ?_ | refine GX_call (fun _ => c81_ok) (by rfl) (by intro h; simp only [h]; rfl) (by rfl) (by rfl) ?_ | refine GX_call (fun _ => (c152_pf s hB)) (by rfl) (by intro h; simp only [h]; rfl) (by rfl) (by rfl) ?_ | refine GX_call (fun _ => (c191_at hB.st.1)) (by rfl) (by intro h; simp only [h]; rfl) (by rfl) (by rfl) ?_ | (with_reducible intro h; try simp only [h]) | (with_reducible refine And.intro ?_ ?_) | (change chk _ _ = true; rfl) | simp only [go_sem, seval, Vc_bool] | refine (GX_split rfl).2 ?_
  · exact absurd hE (by grind [slotErr, stErr])
  · exact absurd hE (by grind [slotErr, stErr, wi])
  · refine Rt_sel [1] (r0 := .tup [.ptr 1 0 0 0, .int .i64 0]) ?_ (by rfl) rfl (by rfl) rfl (by decide) ?_ (Nat.zero_le _) rfl
    · simp only [retO, retO1, retOs, S, get_cons, Nat.reduceEqDiff, reduceIte, obj, getO_cons_zero, getO_cons_succ, List.getElem?_cons_zero, List.getElem?_cons_succ, List.drop_zero, List.drop_succ_cons, loadFrom_cell, loadFrom_agg, List.length_cons, List.length_nil, Nat.reduceAdd, Nat.reduceLeDiff, List.take_succ_cons, List.take_zero, List.take_nil]
    · rfl

def c301 : SC := (.seq (.reg [(.box 2 31 (.t 0)), (.alc 4 42 [(.int .i64 0), (.int .i64 0), (.int .i64 0), (.int .i64 0), (.int .i64 0), (.str (ByteArray.mk #[]))]), (.mv 5 (.c (.bool false)))]) (.seq (.seq (.reg [(.ld 7 (.t 2) true 2), (.call (some 8) (.c (.func 33 [] [])) [(.t 7)]), (.bin 9 .neq (.t 8) (.c (.int .i64 0)))]) (.cond (.t 9) (.seq (.reg [(.bld 10 [(.int .i64 0), (.int .i64 0), (.int .i64 0), (.int .i64 0), (.int .i64 0), (.str (ByteArray.mk #[]))] []), (.st (.t 4) (.t 10) 6), (.mv 5 (.c (.bool false)))]) .ret) .skip)) (.seq (.seq (.reg [(.fa 11 (.t 2) 1), (.ld 12 (.t 11) false 1), (.mv 13 (.t 1)), (.call (some 14) (.c (.func 94 [] [])) [(.t 12), (.t 13)]), (.mv 6 (.t 14))]) (.seq (.reg [(.mv 15 (.t 6)), (.bin 16 .geq (.t 15) (.c (.int .i64 0)))]) (.cond (.t 16) (.seq (.reg [(.fa 17 (.t 2) 1), (.ld 18 (.t 17) false 1), (.mv 19 (.t 6)), (.ia 20 (.t 18) (.t 19) 6), (.ld 21 (.t 20) true 6), (.st (.t 4) (.t 21) 6), (.mv 5 (.c (.bool true)))]) .ret) .skip))) (.seq (.reg [(.bld 22 [(.int .i64 0), (.int .i64 0), (.int .i64 0), (.int .i64 0), (.int .i64 0), (.str (ByteArray.mk #[]))] []), (.st (.t 4) (.t 22) 6), (.mv 5 (.c (.bool false)))]) .ret))))
theorem e301 : compC prog f76.ntmps (f76.body.getD .skip) = c301 := by kernel_rfl
def c302 : SC := (.seq (.reg [(.box 3 42 (.t 1)), (.alc 4 46 [(.int .i64 0), (.int .i64 0), (.int .i64 0), (.int .i64 0), (.int .i64 0), (.int .i64 0), (.int .i64 0), (.int .i64 0), (.int .i64 0), (.int .i64 0), (.int .i64 0), (.int .i64 0), (.int .i64 0), (.str (ByteArray.mk #[]))])]) (.seq (.regD [(.mv 5 (.t 0)), (.nck 6 (.t 5)), (.fa 7 (.t 6) 0), (.fa 8 (.t 7) 0), (.fa 9 (.t 8) 0), (.ld 10 (.t 9) false 1), (.fa 11 (.t 3) 1), (.ld 12 (.t 11) false 1), (.mv 13 (.t 0)), (.nck 14 (.t 13)), (.fa 15 (.t 14) 0), (.fa 16 (.t 15) 7), (.ld 17 (.t 16) false 1), (.mv 18 (.t 0)), (.nck 19 (.t 18)), (.fa 20 (.t 19) 0), (.fa 21 (.t 20) 8), (.ld 22 (.t 21) false 1), (.fa 23 (.t 3) 5), (.ld 24 (.t 23) false 1), (.bld 25 [(.int .i64 0), (.int .i64 0), (.int .i64 0), (.int .i64 0), (.int .i64 0), (.int .i64 0), (.int .i64 0), (.int .i64 0), (.int .i64 0), (.int .i64 0), (.int .i64 0), (.str (ByteArray.mk #[]))] [(0, 1, (.c (.int .i64 4))), (1, 1, (.t 10)), (2, 1, (.t 12)), (3, 1, (.t 17)), (4, 1, (.t 22)), (11, 1, (.t 24))]), (.bld 26 [(.int .i64 0), (.int .i64 0), (.int .i64 0), (.int .i64 0), (.int .i64 0), (.int .i64 0), (.int .i64 0), (.int .i64 0), (.int .i64 0), (.int .i64 0), (.int .i64 0), (.int .i64 0), (.int .i64 0), (.str (ByteArray.mk #[]))] [(0, 1, (.c (.int .i64 1))), (2, 12, (.t 25))]), (.st (.t 4) (.t 26) 14)] []) .ret))
theorem e302 : compC prog f77.ntmps (f77.body.getD .skip) = c302 := by kernel_rfl
def c193 : SC := (.seq (.reg [(.alc 2 46 [(.int .i64 0), (.int .i64 0), (.int .i64 0), (.int .i64 0), (.int .i64 0), (.int .i64 0), (.int .i64 0), (.int .i64 0), (.int .i64 0), (.int .i64 0), (.int .i64 0), (.int .i64 0), (.int .i64 0), (.str (ByteArray.mk #[]))])]) (.seq (.seq (.reg [(.mv 5 (.t 0)), (.nck 6 (.t 5)), (.fa 7 (.t 6) 15), (.fa 8 (.t 7) 3), (.ld 9 (.t 8) false 1), (.not 10 (.t 9))]) (.cond (.t 10) (.seq (.reg [(.bld 11 [(.int .i64 0), (.int .i64 0), (.int .i64 0), (.int .i64 0), (.int .i64 0), (.int .i64 0), (.int .i64 0), (.int .i64 0), (.int .i64 0), (.int .i64 0), (.int .i64 0), (.int .i64 0), (.int .i64 0), (.str (ByteArray.mk #[]))] [(0, 1, (.c (.int .i64 2)))]), (.st (.t 2) (.t 11) 14)]) .ret) .skip)) (.seq (.seq (.regD [(.mv 13 (.t 0)), (.nck 14 (.t 13)), (.fa 15 (.t 14) 0), (.fa 16 (.t 15) 3), (.ld 17 (.t 16) true 2), (.mv 18 (.t 0)), (.nck 19 (.t 18)), (.fa 20 (.t 19) 15), (.fa 21 (.t 20) 4), (.ld 22 (.t 21) false 1), (.call (some 23) (.c (.func 76 [] [])) [(.t 17), (.t 22)]), (.mv 12 (.t 23)), (.ext 24 (.t 12) 0), (.ext 25 (.t 12) 1), (.alc 3 42 [(.int .i64 0), (.int .i64 0), (.int .i64 0), (.int .i64 0), (.int .i64 0), (.str (ByteArray.mk #[]))]), (.st (.t 3) (.t 24) 6), (.mv 4 (.t 25))] [(4, 14), (9, 14), (10, 14)]) (.seq (.reg [(.mv 26 (.t 4))]) (.cond (.t 26) (.seq (.reg [(.mv 27 (.t 0)), (.ld 28 (.t 3) true 6), (.call (some 29) (.c (.func 77 [] [])) [(.t 27), (.t 28)]), (.st (.t 2) (.t 29) 14)]) .ret) .skip))) (.seq (.reg [(.bld 30 [(.int .i64 0), (.int .i64 0), (.int .i64 0), (.int .i64 0), (.int .i64 0), (.int .i64 0), (.int .i64 0), (.int .i64 0), (.int .i64 0), (.int .i64 0), (.int .i64 0), (.int .i64 0), (.int .i64 0), (.str (ByteArray.mk #[]))] []), (.st (.t 2) (.t 30) 14)]) .ret))))
theorem e193 : compC prog f45.ntmps (f45.body.getD .skip) = c193 := by kernel_rfl
/-- A packet and whether there is one. -/
def oPk (o : Option Packet) : AVal := .tup [.agg (o.getD Packet.zero).enc, .bool o.isSome]
theorem oPk_some {p : Packet} : oPk (some p) = .tup [.agg p.enc, .bool true] := rfl
theorem oPk_none : oPk none = .tup [.agg Packet.zero.enc, .bool false] := rfl
attribute [go_sem] oPk_some oPk_none
theorem c301_pf (q : Queue) (to : Int) (hL : q.pk.length < 2 ^ 62) : ACalls prog 76 [.agg [.int .i64 q.limit, .sl 6 (q.pk.map Packet.enc)], .int .i64 to] [] (oPk (qFirst q to)) [] := by
  refine calls_of hmx func76 (by kernel_rfl) (c := f76.body.getD .skip) rfl e301 (rs := [(.cell 4 true 6), (.t 5)]) (by kernel_rfl) (by simp [ntmps76]) ?_
  simp only [c301, argS]
  have e0 : qErr q ≠ 0 → qFirst q to = none := fun h => by rw [qFirst, if_pos h]
  have e1 : qErr q = 0 → qFirst q to = q.pk.find? fun p => decide (p.to = to) := fun h => by rw [qFirst, if_neg (by simpa using h)]
  rcases idxFrom_find (fun p : Packet => decide (p.to = to)) q.pk with ⟨h1, h2⟩ | ⟨i, x, h1, h2, h3, h4, h5⟩
  · simp only [go_sem, seval]
    repeat' first | refine CX_pure (c188_ok hL) rfl rfl rfl rfl ?_ | refine CX_pure (c365_ok hL) rfl rfl rfl rfl ?_ | refine GX_call (fun _ => (c188_ok hL)) (by rfl) (by intro h; simp only [h]; rfl) (by rfl) (by rfl) ?_ | refine GX_call (fun _ => (c365_ok hL)) (by rfl) (by intro h; simp only [h]; rfl) (by rfl) (by rfl) ?_ | (with_reducible intro h; try simp only [h]) | (with_reducible refine And.intro ?_ ?_) | (change chk _ _ = true; rfl) | simp only [go_sem, seval, Vc_bool, h1] | refine (GX_split rfl).2 ?_
    · rw [e0 (by simpa using h)]
      (refine Rt_pure ?_ rfl; simp only [retO, retO1, retOs, S, get_cons, Nat.reduceEqDiff, reduceIte, obj, getO_cons_zero, getO_cons_succ, List.getElem?_cons_zero, List.getElem?_cons_succ, List.drop_zero, List.drop_succ_cons, loadFrom_cell, loadFrom_agg, List.length_cons, List.length_nil, Nat.reduceAdd, Nat.reduceLeDiff, List.take_succ_cons, List.take_zero, List.take_nil])
      rfl
    · rw [e1 (by simpa using h), h2]
      (refine Rt_pure ?_ rfl; simp only [retO, retO1, retOs, S, get_cons, Nat.reduceEqDiff, reduceIte, obj, getO_cons_zero, getO_cons_succ, List.getElem?_cons_zero, List.getElem?_cons_succ, List.drop_zero, List.drop_succ_cons, loadFrom_cell, loadFrom_agg, List.length_cons, List.length_nil, Nat.reduceAdd, Nat.reduceLeDiff, List.take_succ_cons, List.take_zero, List.take_nil])
      rfl
  · have e2 : (q.pk.map Packet.enc)[i]? = some x.enc := by rw [List.getElem?_map, h1]; rfl
    have e3 : decide ((0 : Int) ≤ (i : Int)) = true := by simp
    simp only [go_sem, seval]
    repeat' first | refine CX_pure (c188_ok hL) rfl rfl rfl rfl ?_ | refine CX_pure (c365_ok hL) rfl rfl rfl rfl ?_ | refine GX_call (fun _ => (c188_ok hL)) (by rfl) (by intro h; simp only [h]; rfl) (by rfl) (by rfl) ?_ | refine GX_call (fun _ => (c365_ok hL)) (by rfl) (by intro h; simp only [h]; rfl) (by rfl) (by rfl) ?_ | (with_reducible intro h; try simp only [h]) | (with_reducible refine And.intro ?_ ?_) | (change chk _ _ = true; rfl) | simp only [go_sem, seval, Vc_bool, h3, e2, e3, Int.toNat_natCast, Int.natCast_nonneg] | refine (GX_split rfl).2 ?_
    · rw [e0 (by simpa using h)]
      (refine Rt_pure ?_ rfl; simp only [retO, retO1, retOs, S, get_cons, Nat.reduceEqDiff, reduceIte, obj, getO_cons_zero, getO_cons_succ, List.getElem?_cons_zero, List.getElem?_cons_succ, List.drop_zero, List.drop_succ_cons, loadFrom_cell, loadFrom_agg, List.length_cons, List.length_nil, Nat.reduceAdd, Nat.reduceLeDiff, List.take_succ_cons, List.take_zero, List.take_nil])
      rfl
    · rw [e1 (by simpa using h), h4]
      (refine Rt_pure ?_ rfl; simp only [retO, retO1, retOs, S, get_cons, Nat.reduceEqDiff, reduceIte, obj, getO_cons_zero, getO_cons_succ, List.getElem?_cons_zero, List.getElem?_cons_succ, List.drop_zero, List.drop_succ_cons, loadFrom_cell, loadFrom_agg, List.length_cons, List.length_nil, Nat.reduceAdd, Nat.reduceLeDiff, List.take_succ_cons, List.take_zero, List.take_nil])
      rfl
theorem c302_ok {s : Station} {slot : Int} {c : TCell} {p : Packet} : ACalls prog 77 [.ptr 0 0 0 0, .agg p.enc] [.cells 0 21 77 true [wEnc s slot c]] (.agg (Action.enc ⟨1, 0, msgOf s p⟩)) [.cells 0 21 77 true [wEnc s slot c]] := by
  refine calls_of hmx func77 (by kernel_rfl) (c := f77.body.getD .skip) rfl e302 (rs := [(.cell 4 true 14)]) (by kernel_rfl) (by simp [ntmps77]) ?_
  simp only [c302, argS]
  simp only [go_sem, seval]
  exact Rt_T (H := [_]) _ (by rfl) (by rfl) (by rfl) (Nat.le_refl _)
def agSt (s : Station) (c : TCell) : Action := if c.send = false then ⟨2, 0, Frame.zero⟩ else match qFirst s.q c.peer with | some p => ⟨1, 0, msgOf s p⟩ | none => Action.zero
theorem c193_ok {s : Station} {slot : Int} {c : TCell} (hL : s.q.pk.length < 2 ^ 62) : ACalls prog 45 [.ptr 0 0 0 0] [.cells 0 21 77 true [wEnc s slot c]] (.agg (agSt s c).enc) [.cells 0 21 77 true [wEnc s slot c]] := by
  have h301 := c301_pf s.q c.peer hL
  refine calls_of hmx func45 (by kernel_rfl) (c := f45.body.getD .skip) rfl e193 (rs := [(.cell 2 true 14)]) (by kernel_rfl) (by simp [ntmps45]) ?_
  simp only [c193, argS]
  cases hq : qFirst s.q c.peer with
  | none =>
    rw [hq] at h301
    simp only [go_sem, seval]
    repeat' first | refine CX_pure (h301) rfl rfl rfl rfl ?_ | refine GX_call (fun _ => (h301)) (by rfl) (by intro h; simp only [h]; rfl) (by rfl) (by rfl) ?_ | (with_reducible intro h; try simp only [h]) | (with_reducible refine And.intro ?_ ?_) | (change chk _ _ = true; rfl) | simp only [go_sem, seval, Vc_bool, oPk_none] | refine (GX_split rfl).2 ?_
    · have e : agSt s c = ⟨2, 0, Frame.zero⟩ := by rw [agSt, if_pos (by simpa using h)]
      rw [e]
      exact Rt_T (H := [_]) _ (by rfl) (by rfl) (by rfl) (Nat.le_refl _)
    · have e : agSt s c = Action.zero := by rw [agSt, if_neg (by simpa using h), hq]
      rw [e]
      exact Rt_T (H := [_]) _ (by rfl) (by rfl) (by rfl) (Nat.le_refl _)
  | some p =>
    rw [hq] at h301
    simp only [go_sem, seval]
    repeat' first | refine CX_pure (h301) rfl rfl rfl rfl ?_ | refine CX_rd [0] (c302_ok) (by rfl) (by rfl) (by rfl) (by rfl) (by rfl) (by decide) (by rfl) (by rfl) (by rfl) ?_ | refine GX_call (fun _ => (h301)) (by rfl) (by intro h; simp only [h]; rfl) (by rfl) (by rfl) ?_ | (with_reducible intro h; try simp only [h]) | (with_reducible refine And.intro ?_ ?_) | (change chk _ _ = true; rfl) | simp only [go_sem, seval, Vc_bool, oPk_some] | refine (GX_split rfl).2 ?_
    · have e : agSt s c = ⟨2, 0, Frame.zero⟩ := by rw [agSt, if_pos (by simpa using h)]
      rw [e]
      exact Rt_T (H := [_]) _ (by rfl) (by rfl) (by rfl) (Nat.le_refl _)
    · have e : agSt s c = ⟨1, 0, msgOf s p⟩ := by rw [agSt, if_neg (by simpa using h), hq]
      rw [e]
      exact Rt_T (H := [_]) _ (by rfl) (by rfl) (by rfl) (Nat.le_refl _)

def c97 : SC := (.seq (.reg [(.alc 2 46 [(.int .i64 0), (.int .i64 0), (.int .i64 0), (.int .i64 0), (.int .i64 0), (.int .i64 0), (.int .i64 0), (.int .i64 0), (.int .i64 0), (.int .i64 0), (.int .i64 0), (.int .i64 0), (.int .i64 0), (.str (ByteArray.mk #[]))])]) (.seq (.reg [(.mkm 5), (.mv 6 (.t 0)), (.mkf 7 44 [(.t 6)] []), (.mst (.t 5) (.c (.int .i64 1)) (.t 7)), (.mv 8 (.t 0)), (.mkf 9 45 [(.t 8)] []), (.mst (.t 5) (.c (.int .i64 2)) (.t 9)), (.mv 10 (.t 0)), (.mkf 11 46 [(.t 10)] []), (.mst (.t 5) (.c (.int .i64 3)) (.t 11)), (.mv 12 (.t 5)), (.mv 13 (.t 0)), (.nck 14 (.t 13)), (.fa 15 (.t 14) 15), (.fa 16 (.t 15) 2), (.ld 17 (.t 16) false 1), (.mgt 18 (.t 12) (.t 17) .nfunc false), (.mv 3 (.t 18))]) (.seq (.seq (.reg [(.mv 19 (.t 3)), (.binN 20 2 false (.t 19))]) (.cond (.t 20) (.seq (.reg [(.bld 21 [(.int .i64 0), (.int .i64 0), (.int .i64 0), (.int .i64 0), (.int .i64 0), (.int .i64 0), (.int .i64 0), (.int .i64 0), (.int .i64 0), (.int .i64 0), (.int .i64 0), (.int .i64 0), (.int .i64 0), (.str (ByteArray.mk #[]))] []), (.st (.t 2) (.t 21) 14)]) .ret) .skip)) (.seq (.reg [(.mv 22 (.t 3)), (.call (some 23) (.t 22) []), (.alc 4 46 [(.int .i64 0), (.int .i64 0), (.int .i64 0), (.int .i64 0), (.int .i64 0), (.int .i64 0), (.int .i64 0), (.int .i64 0), (.int .i64 0), (.int .i64 0), (.int .i64 0), (.int .i64 0), (.int .i64 0), (.str (ByteArray.mk #[]))]), (.st (.t 4) (.t 23) 14)]) (.seq (.seq (.reg [(.fa 24 (.t 4) 0), (.ld 25 (.t 24) false 1), (.bin 26 .neq (.t 25) (.c (.int .i64 0)))]) (.cond (.t 26) (.reg [(.mv 27 (.t 0)), (.nck 28 (.t 27)), (.fa 29 (.t 28) 15), (.fa 30 (.t 29) 1), (.ld 31 (.t 30) false 1), (.fa 32 (.t 4) 1), (.st (.t 32) (.t 31) 1)]) .skip)) (.seq (.reg [(.ld 33 (.t 4) true 14), (.st (.t 2) (.t 33) 14)]) .ret))))))
theorem e97 : compC prog f19.ntmps (f19.body.getD .skip) = c97 := by kernel_rfl
def offd (a : Action) (c : TCell) : Action := if a.kind = 0 then a else { a with off := c.off }
theorem c97_2 {s : Station} {slot : Int} {c : TCell} {a : Action} (hk : c.kind = 2) (hg : ACalls prog 45 [.ptr 0 0 0 0] [.cells 0 21 77 true [wEnc s slot c]] (.agg a.enc) [.cells 0 21 77 true [wEnc s slot c]]) :
    ACalls prog 19 [.ptr 0 0 0 0] [.cells 0 21 77 true [wEnc s slot c]] (.agg (offd a c).enc) [.cells 0 21 77 true [wEnc s slot c]] := by
  rcases c with ⟨cs, co, ck, cd, cp, cf⟩
  obtain rfl : ck = 2 := hk
  refine calls_of hmx func19 (by kernel_rfl) (c := f19.body.getD .skip) rfl e97 (rs := [(.cell 2 true 14)]) (by kernel_rfl) (by simp [ntmps19]) ?_
  simp only [c97, argS]
  simp only [go_sem, seval]
  repeat' first | refine CX_rd [0] (hg) (by rfl) (by rfl) (by rfl) (by rfl) (by rfl) (by decide) (by rfl) (by rfl) (by rfl) ?_ | (with_reducible intro h; try simp only [h]) | (with_reducible refine And.intro ?_ ?_) | (change chk _ _ = true; rfl) | simp only [go_sem, seval, Vc_bool, mapSet_cons, mapSet_nil, mapAt_cons, mapAt_nil] | refine (GX_split rfl).2 ?_
  · have e : offd a ⟨cs, co, 2, cd, cp, cf⟩ = { a with off := co } := by rw [offd, if_neg (by simpa using h)]
    rw [e]
    exact Rt_T (H := [_]) _ (by rfl) (by rfl) (by rfl) (Nat.le_refl _)
  · have e : offd a ⟨cs, co, 2, cd, cp, cf⟩ = a := by rw [offd, if_pos (by simpa using h)]
    rw [e]
    exact Rt_T (H := [_]) _ (by rfl) (by rfl) (by rfl) (Nat.le_refl _)

def c25 : SC := (.seq (.reg [(.box 2 35 (.t 0)), (.alc 4 46 [(.int .i64 0), (.int .i64 0), (.int .i64 0), (.int .i64 0), (.int .i64 0), (.int .i64 0), (.int .i64 0), (.int .i64 0), (.int .i64 0), (.int .i64 0), (.int .i64 0), (.int .i64 0), (.int .i64 0), (.str (ByteArray.mk #[]))]), (.mv 5 (.c (.int .i64 0)))]) (.seq (.reg [(.ld 9 (.t 2) true 14), (.mv 10 (.t 1)), (.call (some 11) (.c (.func 18 [] [])) [(.t 9), (.t 10)]), (.mv 8 (.t 11)), (.ext 12 (.t 8) 0), (.ext 13 (.t 8) 1), (.mv 6 (.t 12)), (.mv 7 (.t 13))]) (.seq (.seq (.reg [(.mv 14 (.t 7)), (.bin 15 .neq (.t 14) (.c (.int .i64 0)))]) (.cond (.t 15) (.seq (.reg [(.bld 16 [(.int .i64 0), (.int .i64 0), (.int .i64 0), (.int .i64 0), (.int .i64 0), (.int .i64 0), (.int .i64 0), (.int .i64 0), (.int .i64 0), (.int .i64 0), (.int .i64 0), (.int .i64 0), (.int .i64 0), (.str (ByteArray.mk #[]))] []), (.mv 17 (.t 7)), (.st (.t 4) (.t 16) 14), (.mv 5 (.t 17))]) .ret) .skip)) (.seq (.reg [(.mv 18 (.t 6)), (.call (some 19) (.c (.func 19 [] [])) [(.t 18)]), (.st (.t 4) (.t 19) 14), (.mv 5 (.c (.int .i64 0)))]) .ret))))
theorem e25 : compC prog f9.ntmps (f9.body.getD .skip) = c25 := by kernel_rfl
def c367 : SC := (.seq (.reg [(.mv 6 (.c .nil))]) (.seq (.reg [(.mv 8 (.t 0)), (.mv 9 (.t 1)), (.mv 10 (.t 2)), (.mv 11 (.t 0)), (.len 12 false (.t 11)), (.slc 13 6 (.t 8) (some (.t 9)) (some (.t 10)) (some (.t 12)))]) (.seq (.seq (.reg [(.mv 14 (.t 1)), (.mv 15 (.t 2)), (.bin 16 .eql (.t 14) (.t 15))]) (.cond (.t 16) (.seq (.reg [(.mv 17 (.t 0)), (.mv 6 (.t 17))]) .ret) .skip)) (.seq (.reg [(.mv 18 (.t 0)), (.len 19 false (.t 18)), (.mv 7 (.t 19))]) (.seq (.regD [(.mv 20 (.t 0)), (.mv 21 (.t 1)), (.slc 22 6 (.t 20) none (some (.t 21)) none), (.mv 23 (.t 0)), (.mv 24 (.t 2)), (.slc 25 6 (.t 23) (some (.t 24)) none none), (.app 26 42 6 56 (.t 22) (.t 25)), (.mv 0 (.t 26))] []) (.seq (.reg [(.mv 27 (.t 0)), (.mv 28 (.t 0)), (.len 29 false (.t 28)), (.mv 30 (.t 7)), (.slc 31 6 (.t 27) (some (.t 29)) (some (.t 30)) none), (.clr none [(.int .i64 0), (.int .i64 0), (.int .i64 0), (.int .i64 0), (.int .i64 0), (.str (ByteArray.mk #[]))] (.t 31))]) (.seq (.reg [(.mv 32 (.t 0)), (.mv 6 (.t 32))]) .ret)))))))
theorem e367 : compC prog f96.ntmps (f96.body.getD .skip) = c367 := by kernel_rfl
def c308 : SC := (.seq (.reg [(.box 2 31 (.t 0)), (.alc 4 31 [(.int .i64 0), .nil]), (.alc 5 42 [(.int .i64 0), (.int .i64 0), (.int .i64 0), (.int .i64 0), (.int .i64 0), (.str (ByteArray.mk #[]))]), (.mv 6 (.c (.int .i64 0)))]) (.seq (.seq (.reg [(.ld 8 (.t 2) true 2), (.call (some 9) (.c (.func 33 [] [])) [(.t 8)]), (.bin 10 .neq (.t 9) (.c (.int .i64 0)))]) (.cond (.t 10) (.seq (.reg [(.bld 11 [(.int .i64 0), .nil] []), (.bld 12 [(.int .i64 0), (.int .i64 0), (.int .i64 0), (.int .i64 0), (.int .i64 0), (.str (ByteArray.mk #[]))] []), (.st (.t 4) (.t 11) 2), (.st (.t 5) (.t 12) 6), (.mv 6 (.c (.int .i64 1)))]) .ret) .skip)) (.seq (.reg [(.ld 13 (.t 2) true 2), (.mv 14 (.t 1)), (.call (some 15) (.c (.func 35 [] [])) [(.t 13), (.t 14)]), (.mv 7 (.t 15))]) (.seq (.seq (.reg [(.mv 16 (.t 7)), (.bin 17 .lss (.t 16) (.c (.int .i64 0)))]) (.cond (.t 17) (.seq (.reg [(.bld 18 [(.int .i64 0), .nil] []), (.bld 19 [(.int .i64 0), (.int .i64 0), (.int .i64 0), (.int .i64 0), (.int .i64 0), (.str (ByteArray.mk #[]))] []), (.st (.t 4) (.t 18) 2), (.st (.t 5) (.t 19) 6), (.mv 6 (.c (.int .i64 7)))]) .ret) .skip)) (.seq (.regD [(.fa 20 (.t 2) 0), (.ld 21 (.t 20) false 1), (.fa 22 (.t 2) 1), (.ld 23 (.t 22) false 1), (.call (some 24) (.c (.func 36 [] [])) [(.t 23)]), (.mv 25 (.t 7)), (.mv 26 (.t 7)), (.bin 27 .add (.t 26) (.c (.int .i64 1))), (.call (some 28) (.c (.func 96 [] [])) [(.t 24), (.t 25), (.t 27)]), (.bld 29 [(.int .i64 0), .nil] [(0, 1, (.t 21)), (1, 1, (.t 28))]), (.fa 30 (.t 2) 1), (.ld 31 (.t 30) false 1), (.mv 32 (.t 7)), (.ia 33 (.t 31) (.t 32) 6), (.ld 34 (.t 33) true 6), (.st (.t 4) (.t 29) 2), (.st (.t 5) (.t 34) 6), (.mv 6 (.c (.int .i64 0)))] [(1, 4), (1, 8), (4, 11), (8, 11), (4, 13), (8, 13), (4, 14), (8, 14), (11, 15), (13, 15), (14, 15)]) .ret)))))
theorem e308 : compC prog f82.ntmps (f82.body.getD .skip) = c308 := by kernel_rfl
def c205 : SC := (.seq (.reg [(.mv 5 (.t 0)), (.mv 6 (.t 0)), (.nck 7 (.t 6)), (.fa 8 (.t 7) 0), (.fa 9 (.t 8) 3), (.ld 10 (.t 9) true 2), (.mv 11 (.t 1)), (.call (some 12) (.c (.func 82 [] [])) [(.t 10), (.t 11)]), (.mv 4 (.t 12)), (.ext 13 (.t 4) 0), (.ext 14 (.t 4) 1), (.ext 15 (.t 4) 2), (.nck 16 (.t 5)), (.fa 17 (.t 16) 0), (.fa 18 (.t 17) 3), (.st (.t 18) (.t 13) 2)]) (.seq (.reg [(.mv 19 (.t 0)), (.mv 20 (.t 0)), (.nck 21 (.t 20)), (.fa 22 (.t 21) 0), (.fa 23 (.t 22) 8), (.ld 24 (.t 23) false 1), (.bin 25 .add (.t 24) (.c (.int .i64 1))), (.bin 26 .rem (.t 25) (.c (.int .i64 256))), (.nck 27 (.t 19)), (.fa 28 (.t 27) 0), (.fa 29 (.t 28) 8), (.st (.t 29) (.t 26) 1)]) (.reg [(.mv 30 (.t 0)), (.mv 31 (.t 0)), (.nck 32 (.t 30)), (.fa 33 (.t 32) 0), (.fa 34 (.t 33) 9), (.st (.t 34) (.c (.int .i64 (-1))) 1), (.nck 35 (.t 31)), (.fa 36 (.t 35) 0), (.fa 37 (.t 36) 10), (.st (.t 37) (.c (.int .i64 0)) 1)])))
theorem e205 : compC prog f52.ntmps (f52.body.getD .skip) = c205 := by kernel_rfl
theorem c25_of {s : Station} {slot : Int} {a : Action} (hB : ClBd s) (hA : slotErr s slot = 0 → ACalls prog 19 [.ptr 0 0 0 0] [.cells 0 21 77 true [wEnc s slot (cellAt s slot)]] (.agg a.enc) [.cells 0 21 77 true [wEnc s slot (cellAt s slot)]]) :
    ACalls prog 9 [.agg s.enc, .int .i64 slot] [] (.tup [.agg (if slotErr s slot = 0 then a else Action.zero).enc, .int .i64 (slotErr s slot)]) [] := by
  refine calls_of hmx func9 (by kernel_rfl) (c := f9.body.getD .skip) rfl e25 (rs := [(.cell 4 true 14), (.t 5)]) (by kernel_rfl) (by simp [ntmps9]) ?_
  simp only [c25, argS]
  by_cases h0 : slotErr s slot = 0
  · rw [if_pos h0, h0]
    simp only [go_sem, seval]
    refine CX_new (r1 := .tup [.ptr 2 0 0 0, .int .i64 0]) (c96_ok hB h0) rfl rfl rfl (by rfl) (by rfl) ?_
    repeat' first | (refine Rt_pure ?_ rfl; simp only [retO, retO1, retOs, S, get_cons, Nat.reduceEqDiff, reduceIte, obj, getO_cons_zero, getO_cons_succ, List.getElem?_cons_zero, List.getElem?_cons_succ, List.drop_zero, List.drop_succ_cons, loadFrom_cell, loadFrom_agg, List.length_cons, List.length_nil, Nat.reduceAdd, Nat.reduceLeDiff, List.take_succ_cons, List.take_zero, List.take_nil]) | refine CX_rd [2] (hA h0) (by rfl) (by rfl) (by rfl) (by rfl) (by rfl) (by decide) (by rfl) (by rfl) (by rfl) ?_ | (with_reducible intro h; try simp only [h]) | (with_reducible refine And.intro ?_ ?_) | (change chk _ _ = true; rfl) | simp only [go_sem, seval, Vc_bool] | refine (GX_split rfl).2 ?_
  · rw [if_neg h0]
    simp only [go_sem, seval]
    refine CX_pure (c96_err hB h0) rfl rfl rfl rfl ?_
    have e : decide (slotErr s slot = 0) = false := by simpa using h0
    repeat' first | (refine Rt_pure ?_ rfl; simp only [retO, retO1, retOs, S, get_cons, Nat.reduceEqDiff, reduceIte, obj, getO_cons_zero, getO_cons_succ, List.getElem?_cons_zero, List.getElem?_cons_succ, List.drop_zero, List.drop_succ_cons, loadFrom_cell, loadFrom_agg, List.length_cons, List.length_nil, Nat.reduceAdd, Nat.reduceLeDiff, List.take_succ_cons, List.take_zero, List.take_nil]) | (with_reducible intro h; try simp only [h]) | (with_reducible refine And.intro ?_ ?_) | (change chk _ _ = true; rfl) | simp only [go_sem, seval, Vc_bool, e] | refine (GX_split rfl).2 ?_
    rfl
theorem c367_ok {xs : List Packet} {i q : Nat} (hi : i < xs.length) (hL : xs.length * 56 ≤ 140737488355328) : ACalls prog 96 [.row 0 q 0 xs.length, .int .i64 i, .int .i64 (i + 1)] [.cells q 6 42 false (xs.map Packet.enc)] (.sl 6 ((xs.eraseIdx i).map Packet.enc)) [.dead] := by
  refine calls_of hmx func96 (by kernel_rfl) (c := f96.body.getD .skip) rfl e367 (rs := [(.t 6)]) (by kernel_rfl) (by simp [ntmps96]) ?_
  simp only [c367, argS]
  simp only [go_sem, seval]
  refine ⟨⟨by omega, by omega, by omega, by simp⟩, ?_⟩
  have e : decide ((i : Int) = (i : Int) + 1) = false := by simp; omega
  have e1 : ((i : Int) + 1).toNat = i + 1 := by omega
  have e2 : (i : Int).toNat = i := by omega
  have e3 : ((xs.length : Int)).toNat = xs.length := by omega
  have t1 : i ≤ xs.length := by omega
  have t2 : i + 1 ≤ xs.length := by omega
  have e4 : List.take (xs.length - (i + 1)) (List.drop (i + 1) (xs.map Packet.enc)) = List.drop (i + 1) (xs.map Packet.enc) := List.take_of_length_le (by simp)
  have e5 : (List.drop (i + 1) (xs.map Packet.enc)).length = xs.length - (i + 1) := by simp
  have e6 : ¬ i = xs.length := by omega
  have e7 : i + (xs.length - (i + 1)) = xs.length - 1 := by omega
  have e8 : xs.length - 1 ≤ xs.length := by omega
  simp only [go_sem, seval, e, e1, e2, e3, e4, e5, e6, e7, e8, Nat.sub_zero, List.length_map]
  refine ⟨⟨by omega, by omega⟩, ⟨by omega, by omega, by omega⟩, ⟨t1, by omega⟩, ?_⟩
  generalize hes : List.take i (xs.map Packet.enc) ++ List.drop (i + 1) (xs.map Packet.enc) ++ List.drop (xs.length - 1) (xs.map Packet.enc) = es
  have zf1 : es.length = xs.length := by rw [← hes]; simp; omega
  have zf2 : ((xs.length - 1 : Nat) : Int).toNat = xs.length - 1 := by omega
  simp only [go_sem, seval, zf1, zf2, e3]
  refine ⟨⟨by omega, by omega, by omega⟩, ?_⟩
  have hx : (xs.eraseIdx i).map Packet.enc = List.take i (xs.map Packet.enc) ++ List.drop (i + 1) (xs.map Packet.enc) := by rw [List.eraseIdx_eq_take_drop_succ, List.map_append, List.map_take, List.map_drop]
  have hl : (List.take i (xs.map Packet.enc) ++ List.drop (i + 1) (xs.map Packet.enc)).length = xs.length - 1 := by simp; omega
  have hes' : List.take (xs.length - 1) es = List.take i (xs.map Packet.enc) ++ List.drop (i + 1) (xs.map Packet.enc) := by rw [← hes, List.take_append_of_le_length (by omega)]; exact List.take_of_length_le (by omega)
  refine Rt.gs (Gs_freeze 0 (s' := [(6, .sl 6 ((xs.eraseIdx i).map Packet.enc))]) (H' := [.dead]) rfl ?_ ?_) (Rt_all (by rfl) (by rfl) (by rfl) (Nat.le_refl _))
  · refine List.forall_mem_cons.2 ⟨?_, by simp⟩
    refine Fz.row 0 (xs.length - 1) ?_ (cloE_map fun _ => by rfl)
    rw [List.drop_zero, List.append_assoc, List.take_append_of_le_length (by simp; omega), hes', List.take_of_length_le (by omega), hx]
  · repeat' (first | exact FzL.nil | refine FzL.cons ?_ ?_ | exact Fz.wk (Wk.refl _) | exact Fz.wk (Wk.nil _) | exact Fz.wk (Wk.emp _) | exact Fz.row0 _ _ _ _ | exact FzH.nil _ | exact FzO.refl _ | refine FzO.one ?_ | refine FzH.cons (by decide) ?_ ?_ | refine FzH.this rfl ?_ | exact FzO.dead (by simp) | (simp only [List.forall_mem_cons, List.not_mem_nil, false_implies, implies_true, and_true, go_sem, seval]) | refine And.intro ?_ ?_)

theorem c260o {xs : List Packet} (h0 : xs ≠ []) (hb : xs.length * 56 ≤ 140737488355328) : ACalls prog 36 [.sl 6 (xs.map Packet.enc)] [] (.row 0 1 0 xs.length) [.cells 1 6 42 false (xs.map Packet.enc)] := by
  cases xs with
  | nil => exact absurd rfl h0
  | cons x xs => exact c260r_ok hb
theorem c308_ok {q : Queue} {id : Int} {i : Nat} {p : Packet} (hb : q.pk.length * 56 ≤ 140737488355328) (h0 : qErr q = 0) (hi : q.pk[i]? = some p) (hx : pkIdx q.pk id = i) :
    ACalls prog 82 [.agg q.enc, .int .i64 id] [] (.tup [.agg (Queue.enc ⟨q.limit, q.pk.eraseIdx i⟩), .agg p.enc, .int .i64 0]) [] := by
  obtain ⟨hil, hip⟩ := List.getElem?_eq_some_iff.1 hi
  have hne : q.pk ≠ [] := by intro h; rw [h] at hil; simp at hil
  have e2 : (q.pk.map Packet.enc)[i]? = some p.enc := by rw [List.getElem?_map, hi]; rfl
  have e3 : decide ((i : Int) < 0) = false := by simp
  have e4 : IntKind.i64.wrap ((i : Int) + 1) = (i : Int) + 1 := wrap_ok (by omega) (by omega)
  refine calls_of hmx func82 (by kernel_rfl) (c := f82.body.getD .skip) rfl e308 (rs := [(.cell 4 true 2), (.cell 5 true 6), (.t 6)]) (by kernel_rfl) (by simp [ntmps82]) ?_
  simp only [c308, argS]
  simp only [go_sem, seval]
  repeat' first | refine CX_pure (c188_ok (by omega)) rfl rfl rfl rfl ?_ | refine CX_pure (c266_ok (by omega)) rfl rfl rfl rfl ?_ | refine GX_call (fun _ => (c188_ok (by omega))) (by rfl) (by intro h; simp only [h]; rfl) (by rfl) (by rfl) ?_ | refine GX_call (fun _ => (c266_ok (by omega))) (by rfl) (by intro h; simp only [h]; rfl) (by rfl) (by rfl) ?_ | (with_reducible intro h; try simp only [h]) | (with_reducible refine And.intro ?_ ?_) | (change chk _ _ = true; rfl) | simp only [go_sem, seval, Vc_bool, h0, hx, e3, e4] | refine (GX_split rfl).2 ?_
  refine CX_new (r1 := .row 3 1 0 q.pk.length) (c260o hne hb) rfl rfl rfl (by rw [List.all_cons, List.all_nil, Bool.and_true]; exact lt_map fun _ => by rfl) (by rfl) ?_
  repeat' first | (with_reducible intro h; try simp only [h]) | (with_reducible refine And.intro ?_ ?_) | (change chk _ _ = true; rfl) | simp only [go_sem, seval, Vc_bool, e4] | refine (GX_split rfl).2 ?_
  refine CX_eat 3 (c367_ok hil hb) (by rfl) (by rfl) (by rfl) (lt_map fun _ => by rfl) (by rfl) (by rfl) (by rfl) ?_
  repeat' first | (refine Rt_pure ?_ rfl; simp only [retO, retO1, retOs, S, get_cons, Nat.reduceEqDiff, reduceIte, obj, getO_cons_zero, getO_cons_succ, List.getElem?_cons_zero, List.getElem?_cons_succ, List.drop_zero, List.drop_succ_cons, loadFrom_cell, loadFrom_agg, List.length_cons, List.length_nil, Nat.reduceAdd, Nat.reduceLeDiff, List.take_succ_cons, List.take_zero, List.take_nil]) | (with_reducible intro h; try simp only [h]) | (with_reducible refine And.intro ?_ ?_) | (change chk _ _ = true; rfl) | simp only [go_sem, seval, Vc_bool, e2, Int.toNat_natCast, Int.natCast_nonneg] | refine (GX_split rfl).2 ?_
/-- The station behind a packet's leaving: at place i. -/
def leaveAt (s : Station) (i : Nat) : Station := { s with q := ⟨s.q.limit, s.q.pk.eraseIdx i⟩, seq := (s.seq + 1).tmod 256, trying := -1, tries := 0 }
theorem c205_ok {s : Station} {slot : Int} {c : TCell} {id : Int} {i : Nat} {p : Packet} (hb : s.q.pk.length * 56 ≤ 140737488355328) (h0 : qErr s.q = 0) (hi : s.q.pk[i]? = some p) (hx : pkIdx s.q.pk id = i) (hs : 0 ≤ s.seq ∧ s.seq ≤ 255) :
    ACalls prog 52 [.ptr 0 0 0 0, .int .i64 id] [.cells 0 21 77 true [wEnc s slot c]] (.tup []) [.cells 0 21 77 true [wEnc (leaveAt s i) slot c]] := by
  have e4 : IntKind.i64.wrap (s.seq + 1) = s.seq + 1 := wrap_ok (by omega) (by omega)
  refine calls_of hmx func52 (by kernel_rfl) (c := f52.body.getD .skip) rfl e205 (rs := []) (by kernel_rfl) (by simp [ntmps52]) ?_
  simp only [c205, argS]
  simp only [go_sem, seval]
  repeat' first | refine CX_pure (c308_ok hb h0 hi hx) rfl rfl rfl rfl ?_ | refine GX_call (fun _ => (c308_ok hb h0 hi hx)) (by rfl) (by intro h; simp only [h]; rfl) (by rfl) (by rfl) ?_ | (with_reducible intro h; try simp only [h]) | (with_reducible refine And.intro ?_ ?_) | (change chk _ _ = true; rfl) | simp only [go_sem, seval, Vc_bool, e4] | refine (GX_split rfl).2 ?_
  exact Rt_all (by rfl) (by rfl) (by rfl) (Nat.le_refl _)

def c204 : SC := (.seq (.reg [(.alc 2 42 [(.int .i64 0), (.int .i64 0), (.int .i64 0), (.int .i64 0), (.int .i64 0), (.str (ByteArray.mk #[]))])]) (.seq (.seq (.reg [(.mv 7 (.t 0)), (.nck 8 (.t 7)), (.fa 9 (.t 8) 15), (.fa 10 (.t 9) 2), (.ld 11 (.t 10) false 1), (.bin 12 .eql (.t 11) (.c (.int .i64 3)))]) (.cond (.t 12) (.seq (.reg [(.mv 14 (.t 0)), (.call (some 15) (.c (.func 23 [] [])) [(.t 14)]), (.mv 13 (.t 15)), (.ext 16 (.t 13) 0), (.ext 17 (.t 13) 1), (.alc 3 42 [(.int .i64 0), (.int .i64 0), (.int .i64 0), (.int .i64 0), (.int .i64 0), (.str (ByteArray.mk #[]))]), (.st (.t 3) (.t 16) 6), (.mv 4 (.t 17))]) (.seq (.reg [(.ld 18 (.t 3) true 6), (.st (.t 2) (.t 18) 6)]) .ret)) .skip)) (.seq (.regD [(.mv 20 (.t 0)), (.nck 21 (.t 20)), (.fa 22 (.t 21) 0), (.fa 23 (.t 22) 3), (.ld 24 (.t 23) true 2), (.mv 25 (.t 0)), (.nck 26 (.t 25)), (.fa 27 (.t 26) 15), (.fa 28 (.t 27) 4), (.ld 29 (.t 28) false 1), (.call (some 30) (.c (.func 76 [] [])) [(.t 24), (.t 29)]), (.mv 19 (.t 30)), (.ext 31 (.t 19) 0), (.ext 32 (.t 19) 1), (.alc 5 42 [(.int .i64 0), (.int .i64 0), (.int .i64 0), (.int .i64 0), (.int .i64 0), (.str (ByteArray.mk #[]))]), (.st (.t 5) (.t 31) 6), (.mv 6 (.t 32))] [(4, 14), (9, 14), (10, 14)]) (.seq (.reg [(.ld 33 (.t 5) true 6), (.st (.t 2) (.t 33) 6)]) .ret))))
theorem e204 : compC prog f51.ntmps (f51.body.getD .skip) = c204 := by kernel_rfl
def c103 : SC := (.seq (.reg [(.mv 7 (.t 0)), (.call (some 8) (.c (.func 51 [] [])) [(.t 7)]), (.alc 4 42 [(.int .i64 0), (.int .i64 0), (.int .i64 0), (.int .i64 0), (.int .i64 0), (.str (ByteArray.mk #[]))]), (.st (.t 4) (.t 8) 6)]) (.seq (.seq (.reg [(.fa 9 (.t 4) 1), (.ld 10 (.t 9) false 1), (.bin 11 .eql (.t 10) (.c (.int .i64 (-1))))]) (.cond (.t 11) (.seq (.reg [(.mv 12 (.t 0)), (.fa 13 (.t 4) 0), (.ld 14 (.t 13) false 1), (.call (some 15) (.c (.func 52 [] [])) [(.t 12), (.t 14)])]) .ret) .skip)) (.seq (.reg [(.mv 5 (.c (.int .i64 1)))]) (.seq (.seq (.regD [(.mv 16 (.t 0)), (.nck 17 (.t 16)), (.fa 18 (.t 17) 0), (.fa 19 (.t 18) 9), (.ld 20 (.t 19) false 1), (.fa 21 (.t 4) 0), (.ld 22 (.t 21) false 1), (.bin 23 .eql (.t 20) (.t 22))] []) (.cond (.t 23) (.reg [(.mv 24 (.t 0)), (.nck 25 (.t 24)), (.fa 26 (.t 25) 0), (.fa 27 (.t 26) 10), (.ld 28 (.t 27) false 1), (.bin 29 .add (.t 28) (.c (.int .i64 1))), (.mv 5 (.t 29))]) .skip)) (.seq (.reg [(.mv 30 (.t 1)), (.mv 31 (.t 30)), (.g 31 false (some 32) (.mv 32 (.t 5))), (.g 31 false (some 33) (.bin 33 .geq (.t 32) (.c (.int .i64 4)))), (.pick 34 (.t 31) (.c (.bool true)) (.t 33)), (.mv 6 (.t 34))]) (.seq (.seq (.reg [(.mv 35 (.t 6))]) (.cond (.t 35) (.reg [(.mv 36 (.t 0)), (.fa 37 (.t 4) 0), (.ld 38 (.t 37) false 1), (.call (some 39) (.c (.func 52 [] [])) [(.t 36), (.t 38)])]) (.reg [(.mv 40 (.t 0)), (.mv 41 (.t 0)), (.fa 42 (.t 4) 0), (.ld 43 (.t 42) false 1), (.mv 44 (.t 5)), (.nck 45 (.t 40)), (.fa 46 (.t 45) 0), (.fa 47 (.t 46) 9), (.st (.t 47) (.t 43) 1), (.nck 48 (.t 41)), (.fa 49 (.t 48) 0), (.fa 50 (.t 49) 10), (.st (.t 50) (.t 44) 1)]))) (.seq (.seq (.reg [(.mv 51 (.t 0)), (.nck 52 (.t 51)), (.fa 53 (.t 52) 15), (.fa 54 (.t 53) 2), (.ld 55 (.t 54) false 1), (.bin 56 .neq (.t 55) (.c (.int .i64 3)))]) (.cond (.t 56) .ret .skip)) (.seq (.seq (.reg [(.mv 57 (.t 6))]) (.cond (.t 57) (.seq (.reg [(.mv 58 (.t 0)), (.mv 59 (.t 0)), (.nck 60 (.t 58)), (.fa 61 (.t 60) 0), (.fa 62 (.t 61) 11), (.st (.t 62) (.c (.int .i64 0)) 1), (.nck 63 (.t 59)), (.fa 64 (.t 63) 0), (.fa 65 (.t 64) 12), (.st (.t 65) (.c (.int .i64 0)) 1)]) .ret) .skip)) (.seq (.reg [(.mv 66 (.t 0)), (.mv 67 (.t 0)), (.nck 68 (.t 67)), (.fa 69 (.t 68) 0), (.fa 70 (.t 69) 11), (.ld 71 (.t 70) false 1), (.bin 72 .add (.t 71) (.c (.int .i64 1))), (.mn 73 (.t 72) (.c (.int .i64 5))), (.nck 74 (.t 66)), (.fa 75 (.t 74) 0), (.fa 76 (.t 75) 11), (.st (.t 76) (.t 73) 1)]) (.seq (.reg [(.mv 77 (.t 0)), (.mv 78 (.t 0)), (.nck 79 (.t 78)), (.fa 80 (.t 79) 0), (.fa 81 (.t 80) 13), (.ld 82 (.t 81) false 1), (.bin 83 .mul (.c (.int .i64 1103515245)) (.t 82)), (.bin 84 .add (.t 83) (.c (.int .i64 12345))), (.bin 85 .rem (.t 84) (.c (.int .i64 2147483648))), (.nck 86 (.t 77)), (.fa 87 (.t 86) 0), (.fa 88 (.t 87) 13), (.st (.t 88) (.t 85) 1)]) (.regD [(.mv 89 (.t 0)), (.mv 90 (.t 0)), (.nck 91 (.t 90)), (.fa 92 (.t 91) 0), (.fa 93 (.t 92) 13), (.ld 94 (.t 93) false 1), (.bin 95 .quo (.t 94) (.c (.int .i64 65536))), (.mv 96 (.t 0)), (.nck 97 (.t 96)), (.fa 98 (.t 97) 0), (.fa 99 (.t 98) 11), (.ld 100 (.t 99) false 1), (.bin 101 .shl (.c (.int .i64 1)) (.t 100)), (.bin 102 .rem (.t 95) (.t 101)), (.nck 103 (.t 89)), (.fa 104 (.t 103) 0), (.fa 105 (.t 104) 12), (.st (.t 105) (.t 102) 1)] [])))))))))))
theorem e103 : compC prog f22.ntmps (f22.body.getD .skip) = c103 := by kernel_rfl
theorem minOf_int {k : IntKind} {a b : Int} : minOf (.int k a) (.int k b) = some (.int k (min a b)) := by simp [minOf]
attribute [go_sem] minOf_int
theorem c204_2 {s : Station} {slot : Int} {c : TCell} {p : Packet} (hL : s.q.pk.length < 2 ^ 62) (hk : c.kind = 2) (hq : qFirst s.q c.peer = some p) : ACalls prog 51 [.ptr 0 0 0 0] [.cells 0 21 77 true [wEnc s slot c]] (.agg p.enc) [.cells 0 21 77 true [wEnc s slot c]] := by
  have h301 := c301_pf s.q c.peer hL
  rw [hq, oPk_some] at h301
  rcases c with ⟨cs, co, ck, cd, cp, cf⟩
  obtain rfl : ck = 2 := hk
  refine calls_of hmx func51 (by kernel_rfl) (c := f51.body.getD .skip) rfl e204 (rs := [(.cell 2 true 6)]) (by kernel_rfl) (by simp [ntmps51]) ?_
  simp only [c204, argS]
  simp only [go_sem, seval]
  repeat' first | refine CX_pure (h301) rfl rfl rfl rfl ?_ | refine GX_call (fun _ => (h301)) (by rfl) (by intro h; simp only [h]; rfl) (by rfl) (by rfl) ?_ | (with_reducible intro h; try simp only [h]) | (with_reducible refine And.intro ?_ ?_) | (change chk _ _ = true; rfl) | simp only [go_sem, seval, Vc_bool] | refine (GX_split rfl).2 ?_
  exact Rt_T (H := [_]) _ (by rfl) (by rfl) (by rfl) (Nat.le_refl _)
/-- What becomes of a station whose packet was sent. -/
def sentAt (s : Station) (shared : Bool) (p : Packet) (i : Nat) (acked : Bool) : Station :=
  if p.to = -1 then leaveAt s i
  else
    let n := if s.trying = p.id then s.tries + 1 else 1
    if acked = true ∨ 4 ≤ n then
      let s' := leaveAt s i
      if shared then { s' with back := 0, wait := 0 } else s'
    else
      let s' := { s with trying := p.id, tries := n }
      if shared then
        let b := min (s.back + 1) 5
        { s' with back := b, seed := nextSeed s.seed, wait := ((nextSeed s.seed).tdiv 65536).tmod (2 ^ b.toNat) }
      else s'
theorem c103_ok {s : Station} {slot : Int} {c : TCell} {i : Nat} {p : Packet} {acked : Bool} (hb : s.q.pk.length * 56 ≤ 140737488355328) (h0 : qErr s.q = 0) (hi : s.q.pk[i]? = some p) (hx : pkIdx s.q.pk p.id = i) (hs : 0 ≤ s.seq ∧ s.seq ≤ 255)
    (ht : 0 ≤ s.tries ∧ s.tries ≤ 3) (hk : 0 ≤ s.back ∧ s.back ≤ 5) (hd : 0 ≤ s.seed ∧ s.seed ≤ 2147483647) (h204 : ACalls prog 51 [.ptr 0 0 0 0] [.cells 0 21 77 true [wEnc s slot c]] (.agg p.enc) [.cells 0 21 77 true [wEnc s slot c]]) :
    ACalls prog 22 [.ptr 0 0 0 0, .bool acked] [.cells 0 21 77 true [wEnc s slot c]] (.tup []) [.cells 0 21 77 true [wEnc (sentAt s (decide (c.kind = 3)) p i acked) slot c]] := by
  have w1 : IntKind.i64.wrap (s.tries + 1) = s.tries + 1 := wrap_ok (by omega) (by omega)
  have w2 : IntKind.i64.wrap (s.back + 1) = s.back + 1 := wrap_ok (by omega) (by omega)
  have w3 : IntKind.i64.wrap (1103515245 * s.seed) = 1103515245 * s.seed := wrap_ok (by omega) (by omega)
  have w4 : IntKind.i64.wrap (1103515245 * s.seed + 12345) = 1103515245 * s.seed + 12345 := wrap_ok (by omega) (by omega)
  have w5 : IntKind.i64.wrap (1 * 2 ^ min (min (s.back + 1) 5).toNat 64) = 2 ^ (min (s.back + 1) 5).toNat := by
    have hk' : s.back = 0 ∨ s.back = 1 ∨ s.back = 2 ∨ s.back = 3 ∨ s.back = 4 ∨ s.back = 5 := by omega
    rcases hk' with h | h | h | h | h | h <;> rw [h] <;> decide
  have w6 : IntKind.i64.wrap (((1103515245 * s.seed + 12345).tmod 2147483648).tdiv 65536) = ((1103515245 * s.seed + 12345).tmod 2147483648).tdiv 65536 := by
    rw [Int.tmod_eq_emod_of_nonneg (by omega), Int.tdiv_eq_ediv_of_nonneg (by omega)]
    exact wrap_ok (by omega) (by omega)
  refine calls_of hmx func22 (by kernel_rfl) (c := f22.body.getD .skip) rfl e103 (rs := []) (by kernel_rfl) (by simp [ntmps22]) ?_
  simp only [c103, argS]
  simp only [go_sem, seval]
  repeat' first | refine CX_rd [0] (h204) (by rfl) (by rfl) (by rfl) (by rfl) (by rfl) (by decide) (by rfl) (by rfl) (by rfl) ?_ | refine CX_put 0 (c205_ok hb h0 hi hx hs) (by rfl) (by rfl) (by rfl) (by rfl) (by rfl) (by rfl) (by rfl) (by rfl) ?_ | (with_reducible intro h; try simp only [h]) | (with_reducible refine And.intro ?_ ?_) | (change chk _ _ = true; rfl) | simp only [go_sem, seval, Vc_bool, w1, w2, w3, w4, w5, w6] | refine (GX_split rfl).2 ?_
  all_goals first
    | (cases h; done)
    | decide
    | omega
    | exact Int.ne_of_gt (Int.pow_pos (by decide))
    | skip
  all_goals clear h204 w1 w2 w3 w4 w5 w6 hi hx h0 hb hs ht hk hd
  all_goals simp only [decide_eq_true_eq, decide_eq_false_iff_not, Bool.or_eq_true, Bool.or_eq_false_iff, Bool.not_eq_true', Bool.not_eq_false'] at *
  all_goals first
    | (generalize hz : sentAt s (decide (c.kind = 3)) p i acked = z; simp [sentAt, *] at hz; subst hz; exact Rt_T (H := [_]) _ (by rfl) (by rfl) (by rfl) (Nat.le_refl _))
    | (generalize hz : sentAt s (decide (c.kind = 3)) p i true = z; simp [sentAt, *] at hz; subst hz; exact Rt_T (H := [_]) _ (by rfl) (by rfl) (by rfl) (Nat.le_refl _))
    | (generalize hz : sentAt s (decide (c.kind = 3)) p i false = z; simp [sentAt, *] at hz; subst hz; exact Rt_T (H := [_]) _ (by rfl) (by rfl) (by rfl) (Nat.le_refl _))

def c381 : SC := (.seq (.reg [(.box 1 44 (.t 0)), (.mv 2 (.c (.bool false)))]) (.seq (.reg [(.fa 3 (.t 1) 2), (.ld 4 (.t 3) false 1), (.call (some 5) (.c (.func 85 [] [])) [(.t 4), (.c (.int .i64 31))]), (.mv 6 (.t 5)), (.g 6 true (some 7) (.fa 7 (.t 1) 2)), (.g 6 true (some 8) (.ld 8 (.t 7) false 1)), (.g 6 true (some 9) (.fa 9 (.t 1) 1)), (.g 6 true (some 10) (.ld 10 (.t 9) false 1)), (.g 6 true (some 11) (.bin 11 .neq (.t 8) (.t 10))), (.pick 12 (.t 6) (.t 11) (.c (.bool false))), (.mv 2 (.t 12))]) .ret))
theorem e381 : compC prog f102.ntmps (f102.body.getD .skip) = c381 := by kernel_rfl
def c382 : SC := (.seq (.reg [(.mv 2 (.c (.bool false)))]) (.seq (.reg [(.mv 3 (.t 0)), (.bin 4 .geq (.t 3) (.c (.int .i64 (-32768)))), (.mv 5 (.t 4)), (.g 5 true (some 6) (.mv 6 (.t 0))), (.g 5 true (some 7) (.bin 7 .leq (.t 6) (.c (.int .i64 32767)))), (.pick 8 (.t 5) (.t 7) (.c (.bool false))), (.mv 2 (.t 8))]) .ret))
theorem e382 : compC prog f103.ntmps (f103.body.getD .skip) = c382 := by kernel_rfl
def c330 : SC := (.seq (.reg [(.box 1 44 (.t 0)), (.alc 2 44 [(.int .i64 0), (.int .i64 0), (.int .i64 0), (.int .i64 0), (.int .i64 0), (.int .i64 0), (.int .i64 0), (.int .i64 0), (.int .i64 0), (.int .i64 0), (.int .i64 0), (.str (ByteArray.mk #[]))]), (.mv 3 (.c (.bool false)))]) (.seq (.reg [(.ld 6 (.t 1) true 12), (.alc 4 44 [(.int .i64 0), (.int .i64 0), (.int .i64 0), (.int .i64 0), (.int .i64 0), (.int .i64 0), (.int .i64 0), (.int .i64 0), (.int .i64 0), (.int .i64 0), (.int .i64 0), (.str (ByteArray.mk #[]))]), (.st (.t 4) (.t 6) 12), (.mv 5 (.c (.bool false)))]) (.seq (.seq (.reg [(.fa 7 (.t 1) 0), (.ld 8 (.t 7) false 1)]) (.block 0 (.seq (.reg [(.bin 10 .eql (.t 8) (.c (.int .i64 1))), (.mv 9 (.t 10))]) (.cond (.t 9) (.seq (.reg [(.ld 11 (.t 1) true 12), (.call (some 12) (.c (.func 102 [] [])) [(.t 11)]), (.mv 13 (.t 12)), (.g 13 true (some 14) (.fa 14 (.t 1) 5)), (.g 13 true (some 15) (.ld 15 (.t 14) false 1)), (.g 13 true (some 16) (.call (some 16) (.c (.func 85 [] [])) [(.t 15), (.c (.int .i64 255))])), (.pick 17 (.t 13) (.t 16) (.c (.bool false))), (.mv 18 (.t 17)), (.g 18 true (some 19) (.fa 19 (.t 1) 6)), (.g 18 true (some 20) (.ld 20 (.t 19) false 1)), (.g 18 true (some 21) (.call (some 21) (.c (.func 85 [] [])) [(.t 20), (.c (.int .i64 65535))])), (.pick 22 (.t 18) (.t 21) (.c (.bool false))), (.mv 5 (.t 22))]) (.reg [(.fa 23 (.t 4) 5), (.st (.t 23) (.c (.int .i64 0)) 1), (.fa 24 (.t 4) 6), (.st (.t 24) (.c (.int .i64 0)) 1), (.fa 25 (.t 4) 11), (.st (.t 25) (.c (.str (ByteArray.mk #[]))) 1)])) (.seq (.reg [(.bin 27 .eql (.t 8) (.c (.int .i64 2))), (.mv 26 (.t 27))]) (.cond (.t 26) (.seq (.reg [(.ld 28 (.t 1) true 12), (.call (some 29) (.c (.func 102 [] [])) [(.t 28)]), (.mv 30 (.t 29)), (.g 30 true (some 31) (.fa 31 (.t 1) 7)), (.g 30 true (some 32) (.ld 32 (.t 31) false 1)), (.g 30 true (some 33) (.call (some 33) (.c (.func 103 [] [])) [(.t 32)])), (.pick 34 (.t 30) (.t 33) (.c (.bool false))), (.mv 5 (.t 34))]) (.reg [(.fa 35 (.t 4) 7), (.st (.t 35) (.c (.int .i64 0)) 1)])) (.seq (.reg [(.bin 37 .eql (.t 8) (.c (.int .i64 3))), (.mv 36 (.t 37))]) (.cond (.t 36) (.seq (.reg [(.fa 38 (.t 1) 2), (.ld 39 (.t 38) false 1), (.bin 40 .eql (.t 39) (.c (.int .i64 (-1)))), (.mv 41 (.t 40)), (.g 41 true (some 42) (.fa 42 (.t 1) 8)), (.g 41 true (some 43) (.ld 43 (.t 42) false 1)), (.g 41 true (some 44) (.call (some 44) (.c (.func 85 [] [])) [(.t 43), (.c (.int .i64 109951162))])), (.pick 45 (.t 41) (.t 44) (.c (.bool false))), (.mv 46 (.t 45)), (.g 46 true (some 47) (.fa 47 (.t 1) 9)), (.g 46 true (some 48) (.ld 48 (.t 47) false 1)), (.g 46 true (some 49) (.call (some 49) (.c (.func 85 [] [])) [(.t 48), (.c (.int .i64 65535))])), (.pick 50 (.t 46) (.t 49) (.c (.bool false))), (.mv 51 (.t 50)), (.g 51 true (some 52) (.fa 52 (.t 1) 10)), (.g 51 true (some 53) (.ld 53 (.t 52) false 1)), (.g 51 true (some 54) (.call (some 54) (.c (.func 85 [] [])) [(.t 53), (.c (.int .i64 65535))])), (.pick 55 (.t 51) (.t 54) (.c (.bool false))), (.mv 5 (.t 55))]) (.reg [(.fa 56 (.t 4) 8), (.st (.t 56) (.c (.int .i64 0)) 1), (.fa 57 (.t 4) 9), (.st (.t 57) (.c (.int .i64 0)) 1), (.fa 58 (.t 4) 10), (.st (.t 58) (.c (.int .i64 0)) 1), (.fa 59 (.t 4) 11), (.st (.t 59) (.c (.str (ByteArray.mk #[]))) 1)])) (.seq (.reg [(.bin 61 .eql (.t 8) (.c (.int .i64 4))), (.mv 60 (.t 61))]) (.cond (.t 60) (.seq (.reg [(.fa 62 (.t 1) 2), (.ld 63 (.t 62) false 1), (.bin 64 .eql (.t 63) (.c (.int .i64 (-1)))), (.mv 65 (.t 64)), (.g 65 false (some 66) (.ld 66 (.t 1) true 12)), (.g 65 false (some 67) (.call (some 67) (.c (.func 102 [] [])) [(.t 66)])), (.pick 68 (.t 65) (.c (.bool true)) (.t 67)), (.mv 5 (.t 68))]) (.reg [(.fa 69 (.t 4) 11), (.st (.t 69) (.c (.str (ByteArray.mk #[]))) 1)])) .skip)))))))))) (.seq (.reg [(.ld 70 (.t 4) true 12), (.mv 71 (.t 5)), (.st (.t 2) (.t 70) 12), (.mv 3 (.t 71))]) .ret))))
theorem e330 : compC prog f97.ntmps (f97.body.getD .skip) = c330 := by kernel_rfl
def c227 : SC := (.seq (.reg [(.box 1 44 (.t 0)), (.mv 2 (.c (.int .i64 0)))]) (.seq (.reg [(.ld 7 (.t 1) true 12), (.call (some 8) (.c (.func 97 [] [])) [(.t 7)]), (.mv 6 (.t 8)), (.ext 9 (.t 6) 0), (.ext 10 (.t 6) 1), (.alc 3 44 [(.int .i64 0), (.int .i64 0), (.int .i64 0), (.int .i64 0), (.int .i64 0), (.int .i64 0), (.int .i64 0), (.int .i64 0), (.int .i64 0), (.int .i64 0), (.int .i64 0), (.str (ByteArray.mk #[]))]), (.st (.t 3) (.t 9) 12), (.mv 4 (.t 10))]) (.seq (.reg [(.fa 11 (.t 1) 0), (.ld 12 (.t 11) false 1), (.fa 13 (.t 1) 1), (.ld 14 (.t 13) false 1), (.fa 15 (.t 1) 2), (.ld 16 (.t 15) false 1), (.fa 17 (.t 1) 3), (.ld 18 (.t 17) false 1), (.fa 19 (.t 1) 4), (.ld 20 (.t 19) false 1), (.bld 21 [(.int .i64 0), (.int .i64 0), (.int .i64 0), (.int .i64 0), (.int .i64 0), (.int .i64 0), (.int .i64 0), (.int .i64 0), (.int .i64 0), (.int .i64 0), (.int .i64 0), (.str (ByteArray.mk #[]))] [(0, 1, (.t 12)), (1, 1, (.t 14)), (2, 1, (.t 16)), (3, 1, (.t 18)), (4, 1, (.t 20))]), (.alc 5 44 [(.int .i64 0), (.int .i64 0), (.int .i64 0), (.int .i64 0), (.int .i64 0), (.int .i64 0), (.int .i64 0), (.int .i64 0), (.int .i64 0), (.int .i64 0), (.int .i64 0), (.str (ByteArray.mk #[]))]), (.st (.t 5) (.t 21) 12)]) (.seq (.seq (.reg [(.mv 22 (.t 4)), (.not 23 (.t 22)), (.mv 24 (.t 23)), (.g 24 false (some 25) (.ld 25 (.t 3) true 12)), (.g 24 false (some 26) (.ld 26 (.t 5) true 12)), (.g 24 false (some 27) (.binA 27 true [1, 1, 1, 1, 1, 1, 1, 1, 1, 1, 1, 3] (.t 25) (.t 26))), (.pick 28 (.t 24) (.c (.bool true)) (.t 27)), (.mv 29 (.t 28)), (.g 29 false (some 30) (.fa 30 (.t 1) 1)), (.g 29 false (some 31) (.ld 31 (.t 30) false 1)), (.g 29 false (some 32) (.call (some 32) (.c (.func 85 [] [])) [(.t 31), (.c (.int .i64 31))])), (.g 29 false (some 33) (.not 33 (.t 32))), (.pick 34 (.t 29) (.c (.bool true)) (.t 33)), (.mv 35 (.t 34)), (.g 35 false (some 36) (.fa 36 (.t 1) 3)), (.g 35 false (some 37) (.ld 37 (.t 36) false 1)), (.g 35 false (some 38) (.call (some 38) (.c (.func 85 [] [])) [(.t 37), (.c (.int .i64 255))])), (.g 35 false (some 39) (.not 39 (.t 38))), (.pick 40 (.t 35) (.c (.bool true)) (.t 39)), (.mv 41 (.t 40)), (.g 41 false (some 42) (.fa 42 (.t 1) 4)), (.g 41 false (some 43) (.ld 43 (.t 42) false 1)), (.g 41 false (some 44) (.call (some 44) (.c (.func 85 [] [])) [(.t 43), (.c (.int .i64 255))])), (.g 41 false (some 45) (.not 45 (.t 44))), (.pick 46 (.t 41) (.c (.bool true)) (.t 45))]) (.cond (.t 46) (.seq (.reg [(.mv 2 (.c (.int .i64 1)))]) .ret) .skip)) (.seq (.reg [(.mv 2 (.c (.int .i64 0)))]) .ret)))))
theorem e227 : compC prog f84.ntmps (f84.body.getD .skip) = c227 := by kernel_rfl
def c210 : SC := (.seq (.reg [(.box 2 44 (.t 0)), (.mv 4 (.c (.bool false)))]) (.seq (.reg [(.ld 5 (.t 2) true 12), (.call (some 6) (.c (.func 84 [] [])) [(.t 5)]), (.bin 7 .eql (.t 6) (.c (.int .i64 0))), (.mv 8 (.t 7)), (.g 8 true (some 9) (.mv 9 (.t 1))), (.g 8 true (some 10) (.call (some 10) (.c (.func 85 [] [])) [(.t 9), (.c (.int .i64 31))])), (.pick 11 (.t 8) (.t 10) (.c (.bool false))), (.mv 12 (.t 11)), (.g 12 true (some 13) (.fa 13 (.t 2) 2)), (.g 12 true (some 14) (.ld 14 (.t 13) false 1)), (.g 12 true (some 15) (.mv 15 (.t 1))), (.g 12 true (some 16) (.bin 16 .eql (.t 14) (.t 15))), (.g 12 true (some 17) (.mv 17 (.t 16))), (.g 17 false (some 18) (.fa 18 (.t 2) 2)), (.g 17 false (some 19) (.ld 19 (.t 18) false 1)), (.g 17 false (some 20) (.bin 20 .eql (.t 19) (.c (.int .i64 (-1))))), (.g 17 false (some 21) (.mv 21 (.t 20))), (.g 21 true (some 22) (.fa 22 (.t 2) 1)), (.g 21 true (some 23) (.ld 23 (.t 22) false 1)), (.g 21 true (some 24) (.mv 24 (.t 1))), (.g 21 true (some 25) (.bin 25 .neq (.t 23) (.t 24))), (.g 17 false (some 26) (.pick 26 (.t 21) (.t 25) (.c (.bool false)))), (.g 12 true (some 27) (.pick 27 (.t 17) (.c (.bool true)) (.t 26))), (.pick 28 (.t 12) (.t 27) (.c (.bool false))), (.mv 4 (.t 28))]) .ret))
theorem e210 : compC prog f56.ntmps (f56.body.getD .skip) = c210 := by kernel_rfl
theorem c382_pf (a : Int)  : ACalls prog 103 [.int .i64 a] [] (.bool (wi3 a (-32768) 32767)) [] := by
  refine calls_of hmx func103 (by kernel_rfl) (c := f103.body.getD .skip) rfl e382 (rs := [(.t 2)]) (by kernel_rfl) (by simp [ntmps103]) ?_
  simp only [c382, argS]
  simp only [go_sem, seval]
  repeat' first | (refine Rt_pure ?_ rfl; simp only [retO, retO1, retOs, S, get_cons, Nat.reduceEqDiff, reduceIte, obj, getO_cons_zero, getO_cons_succ, List.getElem?_cons_zero, List.getElem?_cons_succ, List.drop_zero, List.drop_succ_cons, loadFrom_cell, loadFrom_agg, List.length_cons, List.length_nil, Nat.reduceAdd, Nat.reduceLeDiff, List.take_succ_cons, List.take_zero, List.take_nil]) | (with_reducible intro h; try simp only [h]) | (with_reducible refine And.intro ?_ ?_) | (change chk _ _ = true; rfl) | simp only [go_sem, seval, Vc_bool] | refine (GX_split rfl).2 ?_
  all_goals simp [wi3]
theorem c382_ok {a : Int}  : ACalls prog 103 [.int .i64 a] [] (.bool (wi3 a (-32768) 32767)) [] := c382_pf a 

theorem c381_pf (f : Sp.Frame)  : ACalls prog 102 [.agg [.int .i64 f.kind, .int .i64 f.src, .int .i64 f.tgt, .int .i64 f.list, .int .i64 f.seq, .int .i64 f.flow, .int .i64 f.num, .int .i64 f.err, .int .i64 f.slot, .int .i64 f.rank, .int .i64 f.epoch, .str f.data]] [] (.bool (isTgt f)) [] := by
  refine calls_of hmx func102 (by kernel_rfl) (c := f102.body.getD .skip) rfl e381 (rs := [(.t 2)]) (by kernel_rfl) (by simp [ntmps102]) ?_
  simp only [c381, argS]
  simp only [go_sem, seval]
  repeat' first | (refine Rt_pure ?_ rfl; simp only [retO, retO1, retOs, S, get_cons, Nat.reduceEqDiff, reduceIte, obj, getO_cons_zero, getO_cons_succ, List.getElem?_cons_zero, List.getElem?_cons_succ, List.drop_zero, List.drop_succ_cons, loadFrom_cell, loadFrom_agg, List.length_cons, List.length_nil, Nat.reduceAdd, Nat.reduceLeDiff, List.take_succ_cons, List.take_zero, List.take_nil]) | refine CX_pure c310_ok rfl rfl rfl rfl ?_ | refine GX_call (fun _ => c310_ok) (by rfl) (by intro h; simp only [h]; rfl) (by rfl) (by rfl) ?_ | (with_reducible intro h; try simp only [h]) | (with_reducible refine And.intro ?_ ?_) | (change chk _ _ = true; rfl) | simp only [go_sem, seval, Vc_bool] | refine (GX_split rfl).2 ?_
  all_goals simp [isTgt]
theorem c381_ok {f_kind : Int} {f_src : Int} {f_tgt : Int} {f_list : Int} {f_seq : Int} {f_flow : Int} {f_num : Int} {f_err : Int} {f_slot : Int} {f_rank : Int} {f_epoch : Int} {f_data : ByteArray}  : ACalls prog 102 [.agg [.int .i64 f_kind, .int .i64 f_src, .int .i64 f_tgt, .int .i64 f_list, .int .i64 f_seq, .int .i64 f_flow, .int .i64 f_num, .int .i64 f_err, .int .i64 f_slot, .int .i64 f_rank, .int .i64 f_epoch, .str f_data]] [] (.bool (isTgt (⟨f_kind, f_src, f_tgt, f_list, f_seq, f_flow, f_num, f_err, f_slot, f_rank, f_epoch, f_data⟩ : Sp.Frame))) [] := c381_pf (⟨f_kind, f_src, f_tgt, f_list, f_seq, f_flow, f_num, f_err, f_slot, f_rank, f_epoch, f_data⟩ : Sp.Frame) 

def frFields (f : Sp.Frame) : Sp.Frame × Bool :=
  if f.kind = 1 then ({ f with flow := 0, num := 0, data := ByteArray.mk #[] }, isTgt f && wi f.flow 255 && wi f.num 65535)
  else if f.kind = 2 then ({ f with err := 0 }, isTgt f && wi3 f.err (-32768) 32767)
  else if f.kind = 3 then ({ f with slot := 0, rank := 0, epoch := 0, data := ByteArray.mk #[] }, decide (f.tgt = -1) && wi f.slot 109951162 && wi f.rank 65535 && wi f.epoch 65535)
  else if f.kind = 4 then ({ f with data := ByteArray.mk #[] }, decide (f.tgt = -1) || isTgt f)
  else (f, false)
theorem c330_pf (f : Sp.Frame)  : ACalls prog 97 [.agg [.int .i64 f.kind, .int .i64 f.src, .int .i64 f.tgt, .int .i64 f.list, .int .i64 f.seq, .int .i64 f.flow, .int .i64 f.num, .int .i64 f.err, .int .i64 f.slot, .int .i64 f.rank, .int .i64 f.epoch, .str f.data]] [] (.tup [.agg (frFields f).1.enc, .bool (frFields f).2]) [] := by
  refine calls_of hmx func97 (by kernel_rfl) (c := f97.body.getD .skip) rfl e330 (rs := [(.cell 2 true 12), (.t 3)]) (by kernel_rfl) (by simp [ntmps97]) ?_
  simp only [c330, argS]
  simp only [go_sem, seval]
  repeat' first | refine CX_pure c310_ok rfl rfl rfl rfl ?_ | refine CX_pure c381_ok rfl rfl rfl rfl ?_ | refine CX_pure c382_ok rfl rfl rfl rfl ?_ | refine GX_call (fun _ => c310_ok) (by rfl) (by intro h; simp only [h]; rfl) (by rfl) (by rfl) ?_ | refine GX_call (fun _ => c381_ok) (by rfl) (by intro h; simp only [h]; rfl) (by rfl) (by rfl) ?_ | refine GX_call (fun _ => c382_ok) (by rfl) (by intro h; simp only [h]; rfl) (by rfl) (by rfl) ?_ | (with_reducible intro h; try simp only [h]) | (with_reducible refine And.intro ?_ ?_) | (change chk _ _ = true; rfl) | simp only [go_sem, seval, Vc_bool] | refine (GX_split rfl).2 ?_
  · have e : frFields f = ({ f with flow := 0, num := 0, data := ByteArray.mk #[] }, isTgt f && wi f.flow 255 && wi f.num 65535) := by
      simp only [decide_eq_true_eq, decide_eq_false_iff_not] at *
      rw [frFields]
      simp only [*, if_true, if_false, not_false_eq_true, reduceIte, Int.reduceEq]
    rw [e]
    (refine Rt_pure ?_ rfl; simp only [retO, retO1, retOs, S, get_cons, Nat.reduceEqDiff, reduceIte, obj, getO_cons_zero, getO_cons_succ, List.getElem?_cons_zero, List.getElem?_cons_succ, List.drop_zero, List.drop_succ_cons, loadFrom_cell, loadFrom_agg, List.length_cons, List.length_nil, Nat.reduceAdd, Nat.reduceLeDiff, List.take_succ_cons, List.take_zero, List.take_nil])
  · have e : frFields f = ({ f with err := 0 }, isTgt f && wi3 f.err (-32768) 32767) := by
      simp only [decide_eq_true_eq, decide_eq_false_iff_not] at *
      rw [frFields]
      simp only [*, if_true, if_false, not_false_eq_true, reduceIte, Int.reduceEq]
    rw [e]
    (refine Rt_pure ?_ rfl; simp only [retO, retO1, retOs, S, get_cons, Nat.reduceEqDiff, reduceIte, obj, getO_cons_zero, getO_cons_succ, List.getElem?_cons_zero, List.getElem?_cons_succ, List.drop_zero, List.drop_succ_cons, loadFrom_cell, loadFrom_agg, List.length_cons, List.length_nil, Nat.reduceAdd, Nat.reduceLeDiff, List.take_succ_cons, List.take_zero, List.take_nil])
  · have e : frFields f = ({ f with slot := 0, rank := 0, epoch := 0, data := ByteArray.mk #[] }, decide (f.tgt = -1) && wi f.slot 109951162 && wi f.rank 65535 && wi f.epoch 65535) := by
      simp only [decide_eq_true_eq, decide_eq_false_iff_not] at *
      rw [frFields]
      simp only [*, if_true, if_false, not_false_eq_true, reduceIte, Int.reduceEq]
    rw [e]
    (refine Rt_pure ?_ rfl; simp only [retO, retO1, retOs, S, get_cons, Nat.reduceEqDiff, reduceIte, obj, getO_cons_zero, getO_cons_succ, List.getElem?_cons_zero, List.getElem?_cons_succ, List.drop_zero, List.drop_succ_cons, loadFrom_cell, loadFrom_agg, List.length_cons, List.length_nil, Nat.reduceAdd, Nat.reduceLeDiff, List.take_succ_cons, List.take_zero, List.take_nil])
  · have e : frFields f = ({ f with data := ByteArray.mk #[] }, decide (f.tgt = -1) || isTgt f) := by
      simp only [decide_eq_true_eq, decide_eq_false_iff_not] at *
      rw [frFields]
      simp only [*, if_true, if_false, not_false_eq_true, reduceIte, Int.reduceEq]
    rw [e]
    (refine Rt_pure ?_ rfl; simp only [retO, retO1, retOs, S, get_cons, Nat.reduceEqDiff, reduceIte, obj, getO_cons_zero, getO_cons_succ, List.getElem?_cons_zero, List.getElem?_cons_succ, List.drop_zero, List.drop_succ_cons, loadFrom_cell, loadFrom_agg, List.length_cons, List.length_nil, Nat.reduceAdd, Nat.reduceLeDiff, List.take_succ_cons, List.take_zero, List.take_nil])
  · have e : frFields f = (f, false) := by
      simp only [decide_eq_true_eq, decide_eq_false_iff_not] at *
      rw [frFields]
      simp only [*, if_true, if_false, not_false_eq_true, reduceIte, Int.reduceEq]
    rw [e]
    (refine Rt_pure ?_ rfl; simp only [retO, retO1, retOs, S, get_cons, Nat.reduceEqDiff, reduceIte, obj, getO_cons_zero, getO_cons_succ, List.getElem?_cons_zero, List.getElem?_cons_succ, List.drop_zero, List.drop_succ_cons, loadFrom_cell, loadFrom_agg, List.length_cons, List.length_nil, Nat.reduceAdd, Nat.reduceLeDiff, List.take_succ_cons, List.take_zero, List.take_nil])
theorem c330_ok {f_kind : Int} {f_src : Int} {f_tgt : Int} {f_list : Int} {f_seq : Int} {f_flow : Int} {f_num : Int} {f_err : Int} {f_slot : Int} {f_rank : Int} {f_epoch : Int} {f_data : ByteArray}  : ACalls prog 97 [.agg [.int .i64 f_kind, .int .i64 f_src, .int .i64 f_tgt, .int .i64 f_list, .int .i64 f_seq, .int .i64 f_flow, .int .i64 f_num, .int .i64 f_err, .int .i64 f_slot, .int .i64 f_rank, .int .i64 f_epoch, .str f_data]] [] (.tup [.agg (frFields (⟨f_kind, f_src, f_tgt, f_list, f_seq, f_flow, f_num, f_err, f_slot, f_rank, f_epoch, f_data⟩ : Sp.Frame)).1.enc, .bool (frFields (⟨f_kind, f_src, f_tgt, f_list, f_seq, f_flow, f_num, f_err, f_slot, f_rank, f_epoch, f_data⟩ : Sp.Frame)).2]) [] := c330_pf (⟨f_kind, f_src, f_tgt, f_list, f_seq, f_flow, f_num, f_err, f_slot, f_rank, f_epoch, f_data⟩ : Sp.Frame) 

theorem bytes_mk : ByteArray.mk #[] = ByteArray.empty := rfl
theorem frErr_fields (f : Sp.Frame) : frErr f = if ((frFields f).2 && decide ((frFields f).1 = (⟨f.kind, f.src, f.tgt, f.list, f.seq, 0, 0, 0, 0, 0, 0, ByteArray.mk #[]⟩ : Sp.Frame)) && wi f.src 31 && wi f.list 255 && wi f.seq 255) = true then 0 else 1 := by
  rcases f with ⟨kind, src, tgt, list, seq, flow, num, err, slot, rank, epoch, data⟩
  simp only [frErr, frFields, bytes_mk]
  by_cases h1 : kind = 1
  · simp only [h1, if_true, Sp.Frame.mk.injEq]; congr 1; simp; grind
  · by_cases h2 : kind = 2
    · simp only [h2, if_true, Sp.Frame.mk.injEq, Int.reduceEq, if_false]; congr 1; simp; grind
    · by_cases h3 : kind = 3
      · simp only [h3, if_true, Sp.Frame.mk.injEq, Int.reduceEq, if_false]; congr 1; simp; grind
      · by_cases h4 : kind = 4
        · simp only [h4, if_true, Sp.Frame.mk.injEq, Int.reduceEq, if_false]; congr 1; simp; grind
        · simp [h1, h2, h3, h4]
theorem c227_pf (f : Sp.Frame)  : ACalls prog 84 [.agg [.int .i64 f.kind, .int .i64 f.src, .int .i64 f.tgt, .int .i64 f.list, .int .i64 f.seq, .int .i64 f.flow, .int .i64 f.num, .int .i64 f.err, .int .i64 f.slot, .int .i64 f.rank, .int .i64 f.epoch, .str f.data]] [] (.int .i64 (frErr f)) [] := by
  refine calls_of hmx func84 (by kernel_rfl) (c := f84.body.getD .skip) rfl e227 (rs := [(.t 2)]) (by kernel_rfl) (by simp [ntmps84]) ?_
  simp only [c227, argS]
  simp only [go_sem, seval]
  repeat' first | refine CX_pure c330_ok rfl rfl rfl rfl ?_ | refine CX_pure c310_ok rfl rfl rfl rfl ?_ | refine GX_call (fun _ => c330_ok) (by rfl) (by intro h; simp only [h]; rfl) (by rfl) (by rfl) ?_ | refine GX_call (fun _ => c310_ok) (by rfl) (by intro h; simp only [h]; rfl) (by rfl) (by rfl) ?_ | (with_reducible intro h; try simp only [h]) | (with_reducible refine And.intro ?_ ?_) | (change chk _ _ = true; rfl) | simp only [go_sem, seval, Vc_bool] | refine (GX_split rfl).2 ?_
  · have e : frErr f = 1 := by
      rw [frErr_fields, if_neg]
      intro hc
      revert h hc
      generalize frFields f = g
      rcases g with ⟨⟨a1, a2, a3, a4, a5, a6, a7, a8, a9, a10, a11, a12⟩, b⟩
      simp only [Sp.Frame.mk.injEq, Bool.and_eq_true, decide_eq_true_eq, Bool.or_eq_true, Bool.not_eq_true', Bool.and_eq_false_iff, decide_eq_false_iff_not]
      grind
    rw [e]
    (refine Rt_pure ?_ rfl; simp only [retO, retO1, retOs, S, get_cons, Nat.reduceEqDiff, reduceIte, obj, getO_cons_zero, getO_cons_succ, List.getElem?_cons_zero, List.getElem?_cons_succ, List.drop_zero, List.drop_succ_cons, loadFrom_cell, loadFrom_agg, List.length_cons, List.length_nil, Nat.reduceAdd, Nat.reduceLeDiff, List.take_succ_cons, List.take_zero, List.take_nil])
  · have e : frErr f = 0 := by
      rw [frErr_fields, if_pos]
      revert h
      generalize frFields f = g
      rcases g with ⟨⟨a1, a2, a3, a4, a5, a6, a7, a8, a9, a10, a11, a12⟩, b⟩
      simp only [Sp.Frame.mk.injEq, Bool.and_eq_true, decide_eq_true_eq, Bool.or_eq_false_iff, Bool.not_eq_false']
      grind
    rw [e]
    (refine Rt_pure ?_ rfl; simp only [retO, retO1, retOs, S, get_cons, Nat.reduceEqDiff, reduceIte, obj, getO_cons_zero, getO_cons_succ, List.getElem?_cons_zero, List.getElem?_cons_succ, List.drop_zero, List.drop_succ_cons, loadFrom_cell, loadFrom_agg, List.length_cons, List.length_nil, Nat.reduceAdd, Nat.reduceLeDiff, List.take_succ_cons, List.take_zero, List.take_nil])
theorem c227_ok {f_kind : Int} {f_src : Int} {f_tgt : Int} {f_list : Int} {f_seq : Int} {f_flow : Int} {f_num : Int} {f_err : Int} {f_slot : Int} {f_rank : Int} {f_epoch : Int} {f_data : ByteArray}  : ACalls prog 84 [.agg [.int .i64 f_kind, .int .i64 f_src, .int .i64 f_tgt, .int .i64 f_list, .int .i64 f_seq, .int .i64 f_flow, .int .i64 f_num, .int .i64 f_err, .int .i64 f_slot, .int .i64 f_rank, .int .i64 f_epoch, .str f_data]] [] (.int .i64 (frErr (⟨f_kind, f_src, f_tgt, f_list, f_seq, f_flow, f_num, f_err, f_slot, f_rank, f_epoch, f_data⟩ : Sp.Frame))) [] := c227_pf (⟨f_kind, f_src, f_tgt, f_list, f_seq, f_flow, f_num, f_err, f_slot, f_rank, f_epoch, f_data⟩ : Sp.Frame) 

theorem c210_pf (f : Sp.Frame) (node : Int)  : ACalls prog 56 [.agg [.int .i64 f.kind, .int .i64 f.src, .int .i64 f.tgt, .int .i64 f.list, .int .i64 f.seq, .int .i64 f.flow, .int .i64 f.num, .int .i64 f.err, .int .i64 f.slot, .int .i64 f.rank, .int .i64 f.epoch, .str f.data], .int .i64 node] [] (.bool (frFor f node)) [] := by
  refine calls_of hmx func56 (by kernel_rfl) (c := f56.body.getD .skip) rfl e210 (rs := [(.t 4)]) (by kernel_rfl) (by simp [ntmps56]) ?_
  simp only [c210, argS]
  simp only [go_sem, seval]
  repeat' first | (refine Rt_pure ?_ rfl; simp only [retO, retO1, retOs, S, get_cons, Nat.reduceEqDiff, reduceIte, obj, getO_cons_zero, getO_cons_succ, List.getElem?_cons_zero, List.getElem?_cons_succ, List.drop_zero, List.drop_succ_cons, loadFrom_cell, loadFrom_agg, List.length_cons, List.length_nil, Nat.reduceAdd, Nat.reduceLeDiff, List.take_succ_cons, List.take_zero, List.take_nil]) | refine CX_pure c227_ok rfl rfl rfl rfl ?_ | refine CX_pure c310_ok rfl rfl rfl rfl ?_ | refine GX_call (fun _ => c227_ok) (by rfl) (by intro h; simp only [h]; rfl) (by rfl) (by rfl) ?_ | refine GX_call (fun _ => c310_ok) (by rfl) (by intro h; simp only [h]; rfl) (by rfl) (by rfl) ?_ | (with_reducible intro h; try simp only [h]) | (with_reducible refine And.intro ?_ ?_) | (change chk _ _ = true; rfl) | simp only [go_sem, seval, Vc_bool] | refine (GX_split rfl).2 ?_
  all_goals simp [frFor, Bool.and_assoc]
theorem c210_ok {f_kind : Int} {f_src : Int} {f_tgt : Int} {f_list : Int} {f_seq : Int} {f_flow : Int} {f_num : Int} {f_err : Int} {f_slot : Int} {f_rank : Int} {f_epoch : Int} {f_data : ByteArray} {node : Int}  : ACalls prog 56 [.agg [.int .i64 f_kind, .int .i64 f_src, .int .i64 f_tgt, .int .i64 f_list, .int .i64 f_seq, .int .i64 f_flow, .int .i64 f_num, .int .i64 f_err, .int .i64 f_slot, .int .i64 f_rank, .int .i64 f_epoch, .str f_data], .int .i64 node] [] (.bool (frFor (⟨f_kind, f_src, f_tgt, f_list, f_seq, f_flow, f_num, f_err, f_slot, f_rank, f_epoch, f_data⟩ : Sp.Frame) node)) [] := c210_pf (⟨f_kind, f_src, f_tgt, f_list, f_seq, f_flow, f_num, f_err, f_slot, f_rank, f_epoch, f_data⟩ : Sp.Frame) node 


def c311L1 : SC := (.seq (.reg [(.bin 9 .lss (.t 8) (.t 7))]) (.seq (.cond (.t 9) .skip (.exit 0)) (.seq (.block 1 (.seq (.reg [(.mv 10 (.t 8)), (.mv 5 (.t 10))]) (.seq (.regD [(.ld 11 (.t 3) true 2), (.mv 12 (.t 0)), (.mv 13 (.t 5)), (.ia 14 (.t 12) (.t 13) 2), (.ld 15 (.t 14) true 2), (.binA 16 false [1, 1] (.t 11) (.t 15))] []) (.cond (.t 16) (.seq (.reg [(.mv 17 (.t 5)), (.mv 4 (.t 17))]) .ret) .skip)))) (.reg [(.bin 18 .add (.t 8) (.c (.int .i64 1))), (.mv 8 (.t 18))]))))
def c311 : SC := (.seq (.reg [(.box 3 102 (.t 1)), (.mv 4 (.c (.int .i64 0)))]) (.seq (.seq (.reg [(.mv 6 (.t 0)), (.len 7 false (.t 6)), (.mv 8 (.c (.int .i64 0)))]) (.block 0 (.loop c311L1))) (.seq (.reg [(.mv 4 (.c (.int .i64 (-1))))]) .ret)))
theorem e311 : compC prog f86.ntmps (f86.body.getD .skip) = c311 := by kernel_rfl
def c211 : SC := (.seq (.reg [(.box 3 102 (.t 1)), (.mv 4 (.c (.bool false)))]) (.seq (.reg [(.mv 5 (.t 0)), (.ld 6 (.t 3) true 2), (.call (some 7) (.c (.func 86 [] [])) [(.t 5), (.t 6)]), (.bin 8 .geq (.t 7) (.c (.int .i64 0))), (.mv 4 (.t 8))]) .ret))
theorem e211 : compC prog f57.ntmps (f57.body.getD .skip) = c211 := by kernel_rfl
def c213 : SC := (.seq (.reg [(.box 2 102 (.t 0)), (.box 3 102 (.t 1)), (.mv 4 (.c (.int .i64 0)))]) (.seq (.reg [(.fa 5 (.t 2) 0), (.ld 6 (.t 5) false 1), (.fa 7 (.t 3) 0), (.ld 8 (.t 7) false 1), (.call (some 9) (.c (.func 60 [] [])) [(.t 6), (.t 8)]), (.mv 4 (.t 9))]) .ret))
theorem e213 : compC prog f59.ntmps (f59.body.getD .skip) = c213 := by kernel_rfl
def c212L1 : SC := (.seq (.seq (.reg [(.mv 15 (.t 9)), (.mv 16 (.t 10)), (.bin 17 .lss (.t 15) (.t 16))]) (.cond (.t 17) .skip (.exit 0))) (.block 1 (.seq (.reg [(.mv 18 (.t 9)), (.mv 19 (.t 10)), (.bin 20 .add (.t 18) (.t 19)), (.conv 21 .u64 (.t 20)), (.bin 22 .shr (.t 21) (.c (.int .u64 1))), (.conv 23 .i64 (.t 22)), (.mv 11 (.t 23))]) (.seq (.regD [(.mv 24 (.t 2)), (.mv 25 (.t 0)), (.mv 26 (.t 11)), (.ia 27 (.t 25) (.t 26) 2), (.ld 28 (.t 27) true 2), (.ld 29 (.t 4) true 2), (.call (some 30) (.t 24) [(.t 28), (.t 29)]), (.bin 31 .lss (.t 30) (.c (.int .i64 0)))] []) (.cond (.t 31) (.reg [(.mv 32 (.t 11)), (.bin 33 .add (.t 32) (.c (.int .i64 1))), (.mv 9 (.t 33))]) (.reg [(.mv 34 (.t 11)), (.mv 10 (.t 34))]))))))
def c212 : SC := (.seq (.reg [(.box 4 102 (.t 1)), (.mv 6 (.c (.int .i64 0))), (.mv 7 (.c (.bool false)))]) (.seq (.reg [(.mv 12 (.t 0)), (.len 13 false (.t 12)), (.mv 8 (.t 13))]) (.seq (.reg [(.mv 14 (.t 8)), (.mv 9 (.c (.int .i64 0))), (.mv 10 (.t 14))]) (.seq (.block 0 (.loop c212L1)) (.seq (.regD [(.mv 35 (.t 9)), (.mv 36 (.t 9)), (.mv 37 (.t 8)), (.bin 38 .lss (.t 36) (.t 37)), (.mv 39 (.t 38)), (.g 39 true (some 40) (.mv 40 (.t 2))), (.g 39 true (some 41) (.mv 41 (.t 0))), (.g 39 true (some 42) (.mv 42 (.t 9))), (.g 39 true (some 43) (.ia 43 (.t 41) (.t 42) 2)), (.g 39 true (some 44) (.ld 44 (.t 43) true 2)), (.g 39 true (some 45) (.ld 45 (.t 4) true 2)), (.g 39 true (some 46) (.call (some 46) (.t 40) [(.t 44), (.t 45)])), (.g 39 true (some 47) (.bin 47 .eql (.t 46) (.c (.int .i64 0)))), (.pick 48 (.t 39) (.t 47) (.c (.bool false))), (.mv 6 (.t 35)), (.mv 7 (.t 48))] []) .ret)))))
theorem e212 : compC prog f58.ntmps (f58.body.getD .skip) = c212 := by kernel_rfl
theorem seen_eq (a b : Seen) : (decide (a.node = b.node) && decide (a.seq = b.seq)) = decide (a = b) := by
  rcases a with ⟨a1, a2⟩; rcases b with ⟨b1, b2⟩
  simp [Seen.mk.injEq]
theorem c213_pf (a : Seen) (b : Seen)  : ACalls prog 59 [.agg [.int .i64 a.node, .int .i64 a.seq], .agg [.int .i64 b.node, .int .i64 b.seq]] [] (.int .i64 (cmp a.node b.node)) [] := by
  refine calls_of hmx func59 (by kernel_rfl) (c := f59.body.getD .skip) rfl e213 (rs := [(.t 4)]) (by kernel_rfl) (by simp [ntmps59]) ?_
  simp only [c213, argS]
  simp only [go_sem, seval]
  repeat' first | (refine Rt_pure ?_ rfl; simp only [retO, retO1, retOs, S, get_cons, Nat.reduceEqDiff, reduceIte, obj, getO_cons_zero, getO_cons_succ, List.getElem?_cons_zero, List.getElem?_cons_succ, List.drop_zero, List.drop_succ_cons, loadFrom_cell, loadFrom_agg, List.length_cons, List.length_nil, Nat.reduceAdd, Nat.reduceLeDiff, List.take_succ_cons, List.take_zero, List.take_nil]) | refine CX_pure c151_ok rfl rfl rfl rfl ?_ | refine GX_call (fun _ => c151_ok) (by rfl) (by intro h; simp only [h]; rfl) (by rfl) (by rfl) ?_ | (with_reducible intro h; try simp only [h]) | (with_reducible refine And.intro ?_ ?_) | (change chk _ _ = true; rfl) | simp only [go_sem, seval, Vc_bool] | refine (GX_split rfl).2 ?_
theorem c213_ok {a_node : Int} {a_seq : Int} {b_node : Int} {b_seq : Int}  : ACalls prog 59 [.agg [.int .i64 a_node, .int .i64 a_seq], .agg [.int .i64 b_node, .int .i64 b_seq]] [] (.int .i64 (cmp a_node b_node)) [] := c213_pf (⟨a_node, a_seq⟩ : Seen) (⟨b_node, b_seq⟩ : Seen) 

section
variable {xs : List Seen} {t : Seen}
end
/-- The code of slices.Insert. -/
def cIns (t k bytes : Nat) (zs : List AVal) (fo fr : Nat) : SC := (.seq (.reg [(.mv 6 (.c .nil))]) (.seq (.reg [(.mv 10 (.t 0)), (.mv 11 (.t 1)), (.slc 12 k (.t 10) (some (.t 11)) none none)]) (.seq (.reg [(.mv 13 (.t 2)), (.len 14 false (.t 13)), (.mv 7 (.t 14))]) (.seq (.seq (.reg [(.mv 15 (.t 7)), (.bin 16 .eql (.t 15) (.c (.int .i64 0)))]) (.cond (.t 16) (.seq (.reg [(.mv 17 (.t 0)), (.mv 6 (.t 17))]) .ret) .skip)) (.seq (.reg [(.mv 18 (.t 0)), (.len 19 false (.t 18)), (.mv 8 (.t 19))]) (.seq (.seq (.reg [(.mv 20 (.t 1)), (.mv 21 (.t 8)), (.bin 22 .eql (.t 20) (.t 21))]) (.cond (.t 22) (.seq (.reg [(.mv 23 (.t 0)), (.mv 24 (.t 2)), (.app 25 t k bytes (.t 23) (.t 24)), (.mv 6 (.t 25))]) .ret) .skip)) (.seq (.seq (.reg [(.mv 26 (.t 8)), (.mv 27 (.t 7)), (.bin 28 .add (.t 26) (.t 27)), (.mv 29 (.t 0)), (.cap 30 (.t 29)), (.bin 31 .gtr (.t 28) (.t 30))]) (.cond (.t 31) (.seq (.reg [(.mv 32 (.t 0)), (.mv 33 (.t 1)), (.slc 34 k (.t 32) none (some (.t 33)) none), (.mv 35 (.t 8)), (.mv 36 (.t 7)), (.bin 37 .add (.t 35) (.t 36)), (.mv 38 (.t 1)), (.bin 39 .sub (.t 37) (.t 38)), (.apz 40 t k bytes zs (.t 34) (.t 39)), (.mv 9 (.t 40))]) (.seq (.reg [(.mv 41 (.t 9)), (.mv 42 (.t 1)), (.slc 43 k (.t 41) (some (.t 42)) none none), (.mv 44 (.t 2)), (.cpy (some 45) k (.t 43) (.t 44))]) (.seq (.regD [(.mv 46 (.t 9)), (.mv 47 (.t 1)), (.mv 48 (.t 7)), (.bin 49 .add (.t 47) (.t 48)), (.slc 50 k (.t 46) (some (.t 49)) none none), (.mv 51 (.t 0)), (.mv 52 (.t 1)), (.slc 53 k (.t 51) (some (.t 52)) none none), (.cpy (some 54) k (.t 50) (.t 53))] []) (.seq (.reg [(.mv 55 (.t 9)), (.mv 6 (.t 55))]) .ret)))) .skip)) (.seq (.reg [(.mv 56 (.t 0)), (.mv 57 (.t 8)), (.mv 58 (.t 7)), (.bin 59 .add (.t 57) (.t 58)), (.slc 60 k (.t 56) none (some (.t 59)) none), (.mv 0 (.t 60))]) (.seq (.seq (.reg [(.mv 61 (.t 2)), (.mv 62 (.t 0)), (.mv 63 (.t 1)), (.mv 64 (.t 7)), (.bin 65 .add (.t 63) (.t 64)), (.slc 66 k (.t 62) (some (.t 65)) none none), (.call (some 67) (.c (.func fo [] [])) [(.t 61), (.t 66)]), (.not 68 (.t 67))]) (.cond (.t 68) (.seq (.regD [(.mv 69 (.t 0)), (.mv 70 (.t 1)), (.mv 71 (.t 7)), (.bin 72 .add (.t 70) (.t 71)), (.slc 73 k (.t 69) (some (.t 72)) none none), (.mv 74 (.t 0)), (.mv 75 (.t 1)), (.slc 76 k (.t 74) (some (.t 75)) none none), (.cpy (some 77) k (.t 73) (.t 76))] []) (.seq (.reg [(.mv 78 (.t 0)), (.mv 79 (.t 1)), (.slc 80 k (.t 78) (some (.t 79)) none none), (.mv 81 (.t 2)), (.cpy (some 82) k (.t 80) (.t 81))]) (.seq (.reg [(.mv 83 (.t 0)), (.mv 6 (.t 83))]) .ret))) .skip)) (.seq (.reg [(.mv 84 (.t 0)), (.mv 85 (.t 8)), (.slc 86 k (.t 84) (some (.t 85)) none none), (.mv 87 (.t 2)), (.cpy (some 88) k (.t 86) (.t 87))]) (.seq (.reg [(.mv 89 (.t 0)), (.mv 90 (.t 1)), (.slc 91 k (.t 89) (some (.t 90)) none none), (.mv 92 (.t 7)), (.call (some 93) (.c (.func fr [] [])) [(.t 91), (.t 92)])]) (.seq (.reg [(.mv 94 (.t 0)), (.mv 6 (.t 94))]) .ret))))))))))))
theorem e268 : compC prog f39.ntmps (f39.body.getD .skip) = cIns 42 6 56 [(.int .i64 0), (.int .i64 0), (.int .i64 0), (.int .i64 0), (.int .i64 0), (.str (ByteArray.mk #[]))] 71 72 := by kernel_rfl
theorem e214 : compC prog f61.ntmps (f61.body.getD .skip) = cIns 102 2 16 [(.int .i64 0), (.int .i64 0)] 88 89 := by kernel_rfl
theorem e203 : compC prog f50.ntmps (f50.body.getD .skip) = cIns 3 1 8 [(.int .i64 0)] 80 81 := by kernel_rfl
theorem clo_ltv {c : AVal} (h : clo c = true) : ltv 0 c = true := by cases c <;> first | rfl | cases h
theorem clo_ltL : ∀ {cs : List AVal}, (∀ c ∈ cs, clo c = true) → ltL 0 cs = true
  | [], _ => rfl
  | c :: cs, h => by
    simp only [ltL, Bool.and_eq_true]
    exact ⟨clo_ltv (h c (by simp)), clo_ltL fun c hc => h c (by simp [hc])⟩
theorem clo_lt {es : List (List AVal)} (h : cloE es) : es.all (ltL 0) = true := List.all_eq_true.2 fun e he => clo_ltL (h e he)
theorem cloE_ins {xs : List (List AVal)} {v : List AVal} {i : Nat} (hc : cloE xs) (hcv : cloE [v]) : cloE (xs.take i ++ v :: xs.drop i) := by
  intro e he
  rcases List.mem_append.1 he with h | h
  · exact hc e (List.mem_of_mem_take h)
  · rcases List.mem_cons.1 h with h | h
    · exact hcv e (by simp [h])
    · exact hc e (List.mem_of_mem_drop h)
theorem lt_ins {v : List AVal} {k : Nat} {t : TypeId} {fv : Bool} (hcv : cloE [v]) : ([AObj.dead, AObj.cells 0 k t fv [v]] : Heap).all (ltO 2) = true := by
  have := clo_lt hcv
  simp only [List.all_cons, List.all_nil, ltO, Bool.and_true, Bool.true_and] at this ⊢
  exact ltL_mono (Nat.zero_le _) v this
theorem ins_V {t k bytes fo fr q i : Nat} {zs v : List AVal} {fv : Bool} {xs : List (List AVal)} (hk : 0 < k) (hzs : zs.length = k) (hv : v.length = k) (hc : cloE xs) (hcv : cloE [v]) (hb : (xs.length + 1) * bytes ≤ 140737488355328) (hn : xs.length + 1 ≤ 140737488355328) (hi : i ≤ xs.length)
    (hov : ∀ {qA qB oB lB : Nat} {fa fb : Bool} {v : List AVal} {es : List (List AVal)}, 1 ≤ lB → ACalls prog fo [.row 0 qA 0 1, .row 1 qB oB lB] [.cells qA k t fa [v], .cells qB k t fb es] (.bool false) [.cells qA k t fa [v], .cells qB k t fb es]) :
    V prog 95 2 (Ret [.t 6] 2 (.sl k (xs.take i ++ v :: xs.drop i)) [.dead, .cells 0 k t fv [v]]) [.code (cIns t k bytes zs fo fr)] (argS [.row 0 q 0 xs.length, .int .i64 i, .row 1 0 0 1] 0) [.cells q k t false xs, .cells 0 k t fv [v]] := by
  simp only [cIns, argS]
  have n1 : (xs.length : Int).toNat = xs.length := by omega
  have i1 : (i : Int).toNat = i := by omega
  simp only [go_sem, Nat.reduceEqDiff, Nat.reduceAdd, Nat.reduceLeDiff, Nat.reduceLT, reduceIte, Int.reduceEq, Int.reduceLE, Int.reduceLT, Int.reduceNeg, Int.reduceToNat, Int.reduceAdd, Int.reduceSub, Int.reduceMul, Int.reduceNegSucc, List.reduceReplicate, reduceCtorEq, n1, i1, Nat.zero_add]
  refine ⟨⟨by omega, by omega, by omega⟩, ?_⟩
  rcases Nat.lt_or_ge i xs.length with hlt | hge
  · have d1 : decide ((i : Int) = (xs.length : Int)) = false := by simp; omega
    have w1 : IntKind.i64.wrap ((xs.length : Int) + 1) = ((xs.length + 1 : Nat) : Int) := by rw [wrap_ok (by omega) (by omega)]; omega
    simp only [go_sem, Nat.reduceEqDiff, Nat.reduceAdd, Nat.reduceLeDiff, Nat.reduceLT, reduceIte, Int.reduceEq, Int.reduceLE, Int.reduceLT, Int.reduceNeg, Int.reduceToNat, Int.reduceAdd, Int.reduceSub, Int.reduceMul, Int.reduceNegSucc, List.reduceReplicate, reduceCtorEq, d1]
    rw [CPX_row rfl]
    intro m _
    have hl : (xs ++ List.replicate m (List.replicate k AVal.undef)).length = xs.length + m := by simp
    have w2 : IntKind.i64.wrap (((xs.length + 1 : Nat) : Int) - (i : Int)) = ((xs.length + 1 - i : Nat) : Int) := by rw [wrap_ok (by omega) (by omega)]; omega
    have w3 : IntKind.i64.wrap ((i : Int) + 1) = ((i + 1 : Nat) : Int) := by rw [wrap_ok (by omega) (by omega)]; omega
    have c1 : ((xs.length + 1 - i : Nat) : Int).toNat = xs.length + 1 - i := by omega
    have c2 : ((xs.length + 1 : Nat) : Int).toNat = xs.length + 1 := by omega
    have c3 : ((i + 1 : Nat) : Int).toNat = i + 1 := by omega
    have r1 : i + (xs.length + 1 - i) = xs.length + 1 := by omega
    rcases Nat.eq_zero_or_pos m with hm | hm
    · subst hm
      have d2 : decide ((xs.length : Int) + 0 - 0 < ((xs.length + 1 : Nat) : Int)) = true := by simp; omega
      have r2 : ¬ i = xs.length := by omega
      have r3 : ¬ xs.length + 1 ≤ xs.length := by omega
      have m1 : min 1 (xs.length + 1 - i) = 1 := by omega
      have t1 : List.take 1 [v] = [v] := rfl
      have t2 : List.take (xs.length - i) (List.drop i xs) = List.drop i xs := List.take_of_length_le (by simp)
      have t3 : (List.drop i xs).length = xs.length - i := by simp
      have m2 : min (xs.length - i) (xs.length + 1 - (i + 1)) = xs.length - i := by omega
      have t4 : List.take (xs.length - i) (List.drop i xs) = List.drop i xs := List.take_of_length_le (by simp)
      have r4 : i + 1 + (xs.length - i) = xs.length + 1 := by omega
      have hlA : (List.take i xs).length = i := by simp; omega
      have hA1 : (List.take i xs ++ List.replicate (xs.length + 1 - i) zs).length = xs.length + 1 := by rw [List.length_append, hlA, List.length_replicate]; omega
      have hA2 : List.take i (List.take i xs ++ List.replicate (xs.length + 1 - i) zs) = List.take i xs := by
        have h := List.take_left (l₁ := List.take i xs) (l₂ := List.replicate (xs.length + 1 - i) zs)
        rwa [hlA] at h
      have hA3 : List.drop (i + 1) (List.take i xs ++ List.replicate (xs.length + 1 - i) zs) = List.replicate (xs.length - i) zs := by
        have h1 : List.drop (i + 1) (List.take i xs) = [] := List.drop_eq_nil_of_le (by omega)
        rw [List.drop_append, h1, hlA, List.drop_replicate, show xs.length + 1 - i - (i + 1 - i) = xs.length - i by omega]; rfl
      have hB : List.take i (List.take i xs ++ List.replicate (xs.length + 1 - i) zs) ++ [v] ++ List.drop (i + 1) (List.take i xs ++ List.replicate (xs.length + 1 - i) zs) = List.take i xs ++ v :: List.replicate (xs.length - i) zs := by
        rw [hA2, hA3, List.append_assoc]; rfl
      have hl2 : (List.take i xs ++ v :: List.replicate (xs.length - i) zs).length = xs.length + 1 := by
        rw [List.length_append, hlA, List.length_cons, List.length_replicate]; omega
      have hC : List.take (i + 1) (List.take i xs ++ v :: List.replicate (xs.length - i) zs) ++ List.drop i xs ++ List.drop (xs.length + 1) (List.take i xs ++ v :: List.replicate (xs.length - i) zs) = List.take i xs ++ v :: List.drop i xs := by
        have h1 : List.drop (xs.length + 1) (List.take i xs ++ v :: List.replicate (xs.length - i) zs) = [] := List.drop_eq_nil_of_le (by omega)
        have h2 : List.take (i + 1) (List.take i xs) = List.take i xs := List.take_of_length_le (by omega)
        rw [h1, List.append_nil, List.take_append, h2, hlA, show i + 1 - i = 1 by omega]
        simp
      have hl3 : (List.take i xs ++ v :: List.drop i xs).length = xs.length + 1 := by rw [List.length_append, hlA, List.length_cons, List.length_drop]; omega
      simp only [go_sem, Nat.reduceEqDiff, Nat.reduceAdd, Nat.reduceLeDiff, Nat.reduceLT, reduceIte, Int.reduceEq, Int.reduceLE, Int.reduceLT, Int.reduceNeg, Int.reduceToNat, Int.reduceAdd, Int.reduceSub, Int.reduceMul, Int.reduceNegSucc, List.reduceReplicate, reduceCtorEq, hl, w1, w2, w3, n1, i1, c1, c2, c3, d2, r1, r2, r3, List.replicate_zero, List.append_nil, Nat.sub_zero, List.length_replicate, m1, t1, t2, t3, m2, r4, hB, hC]
      refine ⟨⟨by omega, by omega⟩, ⟨by omega, by omega, hzs⟩, ⟨by omega, hb⟩, ⟨by omega, by omega, by omega⟩, ⟨by omega, by omega, by omega⟩, ⟨by omega, by omega, by omega⟩, ?_⟩
      refine Rt.gs (Gs_freeze 2 (s' := [(6, .sl k (xs.take i ++ v :: xs.drop i))]) (H' := [.dead, .cells 0 k t fv [v], .dead]) rfl ?_ ?_) (Rt_T (H := [_, _]) _ (by rfl) (by rfl) ?_ (Nat.le_refl _))
      · refine List.forall_mem_cons.2 ⟨?_, by simp⟩
        refine Fz.row 0 (xs.length + 1) ?_ ?_
        · rw [List.drop_zero]; exact List.take_of_length_le (by omega)
        · exact cloE_ins hc hcv
      · repeat' (first | exact FzL.nil | refine FzL.cons ?_ ?_ | exact Fz.wk (Wk.refl _) | exact Fz.wk (Wk.nil _) | exact Fz.wk (Wk.emp _) | exact Fz.row0 _ _ _ _ | exact FzH.nil _ | exact FzO.refl _ | refine FzO.one ?_ | refine FzH.cons (by decide) ?_ ?_ | refine FzH.this rfl ?_ | exact FzO.dead (by simp) | (simp only [List.forall_mem_cons, List.not_mem_nil, false_implies, implies_true, and_true, go_sem, Nat.reduceEqDiff, Nat.reduceAdd, Nat.reduceLeDiff, Nat.reduceLT, reduceIte, Int.reduceEq, Int.reduceLE, Int.reduceLT, Int.reduceNeg, Int.reduceToNat, Int.reduceAdd, Int.reduceSub, Int.reduceMul, Int.reduceNegSucc, List.reduceReplicate, reduceCtorEq]) | refine And.intro ?_ ?_)
      · exact lt_ins hcv
    · have d2 : decide ((xs.length : Int) + (m : Int) - 0 < ((xs.length + 1 : Nat) : Int)) = false := by simp; omega
      have r5 : ((xs.length + 1 : Nat) : Int) ≤ ((xs.length + m : Nat) : Int) := by omega
      simp only [go_sem, Nat.reduceEqDiff, Nat.reduceAdd, Nat.reduceLeDiff, Nat.reduceLT, reduceIte, Int.reduceEq, Int.reduceLE, Int.reduceLT, Int.reduceNeg, Int.reduceToNat, Int.reduceAdd, Int.reduceSub, Int.reduceMul, Int.reduceNegSucc, List.reduceReplicate, reduceCtorEq, hl, w1, w2, w3, n1, i1, c1, c2, c3, d2, r1, Nat.sub_zero]
      refine ⟨⟨by omega, by omega⟩, ⟨by omega, by omega, by omega⟩, ?_⟩
      have lt0 : (xs ++ List.replicate m (List.replicate k AVal.undef)).all (ltL 0) = true := by
        rw [List.all_append, clo_lt hc, Bool.true_and]
        refine List.all_eq_true.2 fun e he => ?_
        rw [List.eq_of_mem_replicate he]
        have : ∀ k, ltL 0 (List.replicate k AVal.undef) = true := by intro k; induction k <;> simp_all [ltL, ltv, List.replicate_succ]
        exact this k
      have lv0 : ([v] : List (List AVal)).all (ltL 0) = true := clo_lt hcv
      have lo0 : ∀ {q : Nat} {f : Bool}, ltO 0 (.cells q k t f (xs ++ List.replicate m (List.replicate k AVal.undef))) = true := lt0
      have lo1 : ∀ {q : Nat} {f : Bool}, ltO 0 (.cells q k t f [v]) = true := lv0
      refine CX_rd [1, 0] (hov (qA := 0) (qB := q) (oB := i + 1) (lB := xs.length + 1 - (i + 1)) (fa := fv) (fb := true) (v := v) (es := xs ++ List.replicate m (List.replicate k AVal.undef)) (by omega)) (by rfl) (by rfl) (by rfl) ?_ (by rfl) (by decide) (by rfl) ?_ (by rfl) ?_
      · rw [List.all_cons, List.all_cons, List.all_nil, ltO_mono (Nat.zero_le _) lo0, ltO_mono (Nat.zero_le _) lo1]; rfl
      · rw [List.map_cons, List.map_cons, List.map_nil, List.map_cons, List.map_cons, List.map_nil, renO_lt (m := 0) (fun id h => by omega) lo0, renO_lt (m := 0) (fun id h => by omega) lo1]; rfl
      have m1 : min 1 (xs.length + 1 - i) = 1 := by omega
      have t1 : List.take 1 [v] = [v] := rfl
      have hlA : (List.take i xs).length = i := by simp; omega
      have hU : (List.replicate m (List.replicate k AVal.undef)).length = m := List.length_replicate
      generalize List.replicate m (List.replicate k AVal.undef) = U at *
      have s2 : (List.take (xs.length + 1 - i) (List.drop i (xs ++ U))).length = xs.length + 1 - i := by rw [List.length_take, List.length_drop, hl]; omega
      have s3 : List.take (xs.length - i) (List.take (xs.length + 1 - i) (List.drop i (xs ++ U))) = List.drop i xs := by
        have h1 : (List.drop i xs).length = xs.length - i := List.length_drop
        have h2 := List.take_left (l₁ := List.drop i xs) (l₂ := U)
        rw [List.take_take, show min (xs.length - i) (xs.length + 1 - i) = xs.length - i by omega, List.drop_append, show i - xs.length = 0 by omega, List.drop_zero]
        rwa [h1] at h2
      have m3 : min (xs.length + 1 - i) (xs.length + 1 - (i + 1)) = xs.length - i := by omega
      have r4 : i + 1 + (xs.length - i) = xs.length + 1 := by omega
      have l1 : (List.take (i + 1) (xs ++ U)).length = i + 1 := by rw [List.length_take, hl]; omega
      have l2 : (List.take (i + 1) (xs ++ U) ++ List.drop i xs ++ List.drop (xs.length + 1) (xs ++ U)).length = xs.length + m := by
        rw [List.length_append, List.length_append, l1, List.length_drop, List.length_drop, hl]; omega
      simp only [go_sem, Nat.reduceEqDiff, Nat.reduceAdd, Nat.reduceLeDiff, Nat.reduceLT, reduceIte, Int.reduceEq, Int.reduceLE, Int.reduceLT, Int.reduceNeg, Int.reduceToNat, Int.reduceAdd, Int.reduceSub, Int.reduceMul, Int.reduceNegSucc, List.reduceReplicate, reduceCtorEq, hl, w1, w2, w3, n1, i1, c1, c2, c3, d2, r1, Nat.sub_zero, m1, t1, s2, m3, s3, r4, l2]
      refine ⟨⟨by omega, by omega, by omega⟩, ⟨by omega, by omega, by omega⟩, ⟨by omega, by omega, by omega⟩, ?_⟩
      refine Rt.gs (Gs_freeze 0 (s' := [(6, .sl k (xs.take i ++ v :: xs.drop i))]) (H' := [.dead, .cells 0 k t fv [v]]) rfl ?_ ?_) (Rt_all (by rfl) (by rfl) ?_ (Nat.le_refl _))
      · refine List.forall_mem_cons.2 ⟨?_, by simp⟩
        refine Fz.row 0 (xs.length + 1) ?_ (cloE_ins hc hcv)
        have e1 : List.take i (List.take (i + 1) (xs ++ U) ++ List.drop i xs ++ List.drop (xs.length + 1) (xs ++ U)) = List.take i xs := by
          rw [List.append_assoc, List.take_append_of_le_length (by omega), List.take_take, show min i (i + 1) = i by omega, List.take_append_of_le_length (by omega)]
        have e2 : List.drop (i + 1) (List.take (i + 1) (xs ++ U) ++ List.drop i xs ++ List.drop (xs.length + 1) (xs ++ U)) = List.drop i xs ++ List.drop (xs.length + 1) (xs ++ U) := by
          have h := List.drop_left (l₁ := List.take (i + 1) (xs ++ U)) (l₂ := List.drop i xs ++ List.drop (xs.length + 1) (xs ++ U))
          rw [l1] at h
          rw [List.append_assoc, h]
        rw [List.drop_zero, e1, e2]
        have h4 : (List.take i xs ++ [v] ++ List.drop i xs).length = xs.length + 1 := by rw [List.length_append, List.length_append, hlA, List.length_drop, List.length_singleton]; omega
        have h5 := List.take_left (l₁ := List.take i xs ++ [v] ++ List.drop i xs) (l₂ := List.drop (xs.length + 1) (xs ++ U))
        rw [h4] at h5
        rw [← List.append_assoc, h5, List.append_assoc]
        rfl
      · repeat' (first | exact FzL.nil | refine FzL.cons ?_ ?_ | exact Fz.wk (Wk.refl _) | exact Fz.wk (Wk.nil _) | exact Fz.wk (Wk.emp _) | exact Fz.row0 _ _ _ _ | exact FzH.nil _ | exact FzO.refl _ | refine FzO.one ?_ | refine FzH.cons (by decide) ?_ ?_ | refine FzH.this rfl ?_ | exact FzO.dead (by simp) | (simp only [List.forall_mem_cons, List.not_mem_nil, false_implies, implies_true, and_true, go_sem, Nat.reduceEqDiff, Nat.reduceAdd, Nat.reduceLeDiff, Nat.reduceLT, reduceIte, Int.reduceEq, Int.reduceLE, Int.reduceLT, Int.reduceNeg, Int.reduceToNat, Int.reduceAdd, Int.reduceSub, Int.reduceMul, Int.reduceNegSucc, List.reduceReplicate, reduceCtorEq]) | refine And.intro ?_ ?_)
      · exact lt_ins hcv
  · have d1 : decide ((i : Int) = (xs.length : Int)) = true := by simp; omega
    have hi2 : i = xs.length := by omega
    simp only [go_sem, Nat.reduceEqDiff, Nat.reduceAdd, Nat.reduceLeDiff, Nat.reduceLT, reduceIte, Int.reduceEq, Int.reduceLE, Int.reduceLT, Int.reduceNeg, Int.reduceToNat, Int.reduceAdd, Int.reduceSub, Int.reduceMul, Int.reduceNegSucc, List.reduceReplicate, reduceCtorEq, d1]
    refine ⟨hb, ?_⟩
    refine Rt.gs (Gs_freeze 0 (s' := [(6, .sl k (xs.take i ++ v :: xs.drop i))]) (H' := [.dead, .cells 0 k t fv [v]]) rfl ?_ ?_) (Rt_all (by rfl) (by rfl) ?_ (Nat.le_refl _))
    · refine List.forall_mem_cons.2 ⟨?_, by simp⟩
      refine Fz.row 0 (xs.length + 1) ?_ ?_
      · rw [List.drop_zero, hi2, List.take_length, List.drop_length, List.take_of_length_le (by simp)]
      · rw [hi2, List.take_length, List.drop_length]
        intro e he
        rcases List.mem_append.1 he with h | h
        · exact hc e h
        · exact hcv e h
    · repeat' (first | exact FzL.nil | refine FzL.cons ?_ ?_ | exact Fz.wk (Wk.refl _) | exact Fz.wk (Wk.nil _) | exact Fz.wk (Wk.emp _) | exact Fz.row0 _ _ _ _ | exact FzH.nil _ | exact FzO.refl _ | refine FzO.one ?_ | refine FzH.cons (by decide) ?_ ?_ | refine FzH.this rfl ?_ | exact FzO.dead (by simp) | (simp only [List.forall_mem_cons, List.not_mem_nil, false_implies, implies_true, and_true, go_sem, Nat.reduceEqDiff, Nat.reduceAdd, Nat.reduceLeDiff, Nat.reduceLT, reduceIte, Int.reduceEq, Int.reduceLE, Int.reduceLT, Int.reduceNeg, Int.reduceToNat, Int.reduceAdd, Int.reduceSub, Int.reduceMul, Int.reduceNegSucc, List.reduceReplicate, reduceCtorEq]) | refine And.intro ?_ ?_)
    · have := clo_lt hcv
      simp only [List.all_cons, List.all_nil, ltO, Bool.and_true, Bool.true_and] at this ⊢
      exact ltL_mono (Nat.zero_le _) v this

theorem clone_O {t k bytes : Nat} {zs : List AVal} {xs : List (List AVal)} (hk : 0 < k) (hzs : zs.length = k) (hc : xs.all (ltL 1) = true) (hb : xs.length * bytes ≤ 140737488355328) :
    V prog 8 0 (Ret [.t 2] 0 (.row 0 1 0 xs.length) [.cells 1 k t false xs]) [.code (cClone t k bytes zs)] (argS [.sl k xs] 0) [] := by
  cases xs with
  | nil =>
    simp only [cClone, argS]
    simp only [go_sem, seval, hk]
    intro b
    cases b
    · simp only [go_sem, seval, hk, Nat.zero_mul]
      exact Rt_all (by rfl) (by rfl) (by rfl) (Nat.zero_le _)
    · simp only [go_sem, seval]
      exact Rt.gs (Gs_virt 2 t false hk (by rfl)) (Rt_all (by rfl) (by rfl) (by rfl) (Nat.zero_le _))
  | cons x xs => exact clone_R hk hzs hc hb
theorem c153w_ok {xs : List Int} (hb : xs.length * 8 ≤ 140737488355328) : ACalls prog 42 [.sl 1 (xs.map eI)] [] (.row 0 1 0 xs.length) [.cells 1 1 3 false (xs.map eI)] := by
  refine calls_of hmx func42 (by kernel_rfl) (c := f42.body.getD .skip) rfl e153 (rs := [.t 2]) (by kernel_rfl) (show (1:Nat) ≤ 8 by decide) ?_
  have h := clone_O (t := 3) (k := 1) (bytes := 8) (zs := [.int .i64 0]) (xs := xs.map eI) (by decide) rfl (lt_map fun _ => by rfl) (by simpa using hb)
  rw [List.length_map] at h
  exact h
theorem c260w_ok {xs : List Packet} (hb : xs.length * 56 ≤ 140737488355328) : ACalls prog 36 [.sl 6 (xs.map Packet.enc)] [] (.row 0 1 0 xs.length) [.cells 1 6 42 false (xs.map Packet.enc)] := by
  refine calls_of hmx func36 (by kernel_rfl) (c := f36.body.getD .skip) rfl e260 (rs := [.t 2]) (by kernel_rfl) (show (1:Nat) ≤ 8 by decide) ?_
  have h := clone_O (t := 42) (k := 6) (bytes := 56) (zs := [(.int .i64 0), (.int .i64 0), (.int .i64 0), (.int .i64 0), (.int .i64 0), (.str (ByteArray.mk #[]))]) (xs := xs.map Packet.enc) (by decide) rfl (lt_map fun _ => by rfl) (by simpa using hb)
  rw [List.length_map] at h
  exact h
theorem c261w_ok {xs : List Held} (hb : xs.length * 64 ≤ 140737488355328) : ACalls prog 40 [.sl 5 (xs.map Held.enc)] [] (.row 0 1 0 xs.length) [.cells 1 5 75 false (xs.map Held.enc)] := by
  refine calls_of hmx func40 (by kernel_rfl) (c := f40.body.getD .skip) rfl e261 (rs := [.t 2]) (by kernel_rfl) (show (1:Nat) ≤ 8 by decide) ?_
  have h := clone_O (t := 75) (k := 5) (bytes := 64) (zs := [(.int .i64 0), (.int .i64 0), (.int .i64 0), (.str (ByteArray.mk #[])), .nil]) (xs := xs.map Held.enc) (by decide) rfl (lt_map fun _ => by rfl) (by simpa using hb)
  rw [List.length_map] at h
  exact h
theorem c262w_ok {xs : List Seen} (hb : xs.length * 16 ≤ 140737488355328) : ACalls prog 41 [.sl 2 (xs.map Seen.enc)] [] (.row 0 1 0 xs.length) [.cells 1 2 102 false (xs.map Seen.enc)] := by
  refine calls_of hmx func41 (by kernel_rfl) (c := f41.body.getD .skip) rfl e262 (rs := [.t 2]) (by kernel_rfl) (show (1:Nat) ≤ 8 by decide) ?_
  have h := clone_O (t := 102) (k := 2) (bytes := 16) (zs := [(.int .i64 0), (.int .i64 0)]) (xs := xs.map Seen.enc) (by decide) rfl (lt_map fun _ => by rfl) (by simpa using hb)
  rw [List.length_map] at h
  exact h
theorem ov350 {qA qB oB lB : Nat} {fa fb : Bool} {v : List AVal} {es : List (List AVal)} (h : 1 ≤ lB) : ACalls prog 71 [.row 0 qA 0 1, .row 1 qB oB lB] [.cells qA 6 42 fa [v], .cells qB 6 42 fb es] (.bool false) [.cells qA 6 42 fa [v], .cells qB 6 42 fb es] :=
  overlaps_ok (tS := 29) (tR := 4) (e := 42) func71 (by kernel_rfl) (by kernel_rfl) (by kernel_rfl) (by kernel_rfl) (by kernel_rfl) (fun w => by rfl) h
theorem c268_ok {xs : List Packet} {v : Packet} {i q : Nat} {fv : Bool} (hi : i ≤ xs.length) (hb : (xs.length + 1) * 56 ≤ 140737488355328) : ACalls prog 39 [.row 0 q 0 xs.length, .int .i64 i, .row 1 0 0 1] [.cells q 6 42 false (xs.map Packet.enc), .cells 0 6 42 fv [Packet.enc v]] (.sl 6 ((xs.take i ++ v :: xs.drop i).map Packet.enc)) [.dead, .cells 0 6 42 fv [Packet.enc v]] := by
  refine calls_of hmx func39 (by kernel_rfl) (c := f39.body.getD .skip) rfl e268 (rs := [.t 6]) (by kernel_rfl) (show (3:Nat) ≤ 95 by decide) ?_
  have h := ins_V (t := 42) (k := 6) (bytes := 56) (zs := [(.int .i64 0), (.int .i64 0), (.int .i64 0), (.int .i64 0), (.int .i64 0), (.str (ByteArray.mk #[]))]) (fo := 71) (fr := 72) (q := q) (i := i) (v := Packet.enc v) (fv := fv) (xs := xs.map Packet.enc) (by decide) rfl rfl (cloE_map fun _ => by rfl) (cloE_map (f := Packet.enc) (xs := [v]) fun _ => by rfl) (by simpa using hb) (by rw [List.length_map]; omega) (by simpa using hi) ov350
  rw [List.length_map] at h
  rw [List.map_append, List.map_take, List.map_cons, List.map_drop]
  exact h
theorem ov312 {qA qB oB lB : Nat} {fa fb : Bool} {v : List AVal} {es : List (List AVal)} (h : 1 ≤ lB) : ACalls prog 88 [.row 0 qA 0 1, .row 1 qB oB lB] [.cells qA 2 102 fa [v], .cells qB 2 102 fb es] (.bool false) [.cells qA 2 102 fa [v], .cells qB 2 102 fb es] :=
  overlaps_ok (tS := 33) (tR := 4) (e := 102) func88 (by kernel_rfl) (by kernel_rfl) (by kernel_rfl) (by kernel_rfl) (by kernel_rfl) (fun w => by rfl) h
theorem c214_ok {xs : List Seen} {v : Seen} {i q : Nat} {fv : Bool} (hi : i ≤ xs.length) (hb : (xs.length + 1) * 16 ≤ 140737488355328) : ACalls prog 61 [.row 0 q 0 xs.length, .int .i64 i, .row 1 0 0 1] [.cells q 2 102 false (xs.map Seen.enc), .cells 0 2 102 fv [Seen.enc v]] (.sl 2 ((xs.take i ++ v :: xs.drop i).map Seen.enc)) [.dead, .cells 0 2 102 fv [Seen.enc v]] := by
  refine calls_of hmx func61 (by kernel_rfl) (c := f61.body.getD .skip) rfl e214 (rs := [.t 6]) (by kernel_rfl) (show (3:Nat) ≤ 95 by decide) ?_
  have h := ins_V (t := 102) (k := 2) (bytes := 16) (zs := [(.int .i64 0), (.int .i64 0)]) (fo := 88) (fr := 89) (q := q) (i := i) (v := Seen.enc v) (fv := fv) (xs := xs.map Seen.enc) (by decide) rfl rfl (cloE_map fun _ => by rfl) (cloE_map (f := Seen.enc) (xs := [v]) fun _ => by rfl) (by simpa using hb) (by rw [List.length_map]; omega) (by simpa using hi) ov312
  rw [List.length_map] at h
  rw [List.map_append, List.map_take, List.map_cons, List.map_drop]
  exact h
theorem ov306 {qA qB oB lB : Nat} {fa fb : Bool} {v : List AVal} {es : List (List AVal)} (h : 1 ≤ lB) : ACalls prog 80 [.row 0 qA 0 1, .row 1 qB oB lB] [.cells qA 1 3 fa [v], .cells qB 1 3 fb es] (.bool false) [.cells qA 1 3 fa [v], .cells qB 1 3 fb es] :=
  overlaps_ok (tS := 73) (tR := 4) (e := 3) func80 (by kernel_rfl) (by kernel_rfl) (by kernel_rfl) (by kernel_rfl) (by kernel_rfl) (fun w => by rfl) h
theorem c203_ok {xs : List Int} {v : Int} {i q : Nat} {fv : Bool} (hi : i ≤ xs.length) (hb : (xs.length + 1) * 8 ≤ 140737488355328) : ACalls prog 50 [.row 0 q 0 xs.length, .int .i64 i, .row 1 0 0 1] [.cells q 1 3 false (xs.map eI), .cells 0 1 3 fv [eI v]] (.sl 1 ((xs.take i ++ v :: xs.drop i).map eI)) [.dead, .cells 0 1 3 fv [eI v]] := by
  refine calls_of hmx func50 (by kernel_rfl) (c := f50.body.getD .skip) rfl e203 (rs := [.t 6]) (by kernel_rfl) (show (3:Nat) ≤ 95 by decide) ?_
  have h := ins_V (t := 3) (k := 1) (bytes := 8) (zs := [.int .i64 0]) (fo := 80) (fr := 81) (q := q) (i := i) (v := eI v) (fv := fv) (xs := xs.map eI) (by decide) rfl rfl (cloE_map fun _ => by rfl) (cloE_map (f := eI) (xs := [v]) fun _ => by rfl) (by simpa using hb) (by rw [List.length_map]; omega) (by simpa using hi) ov306
  rw [List.length_map] at h
  rw [List.map_append, List.map_take, List.map_cons, List.map_drop]
  exact h

def c101 : SC := (.seq (.reg [(.box 3 3 (.t 1)), (.mv 4 (.c (.int .i64 0)))]) (.seq (.reg [(.mv 5 (.t 0)), (.nck 6 (.t 5)), (.fa 7 (.t 6) 0), (.fa 8 (.t 7) 5), (.ld 9 (.t 8) false 1), (.mkf 10 48 [] [(.t 3)]), (.call (some 11) (.c (.func 47 [] [])) [(.t 9), (.t 10)]), (.mv 4 (.t 11))]) .ret))
theorem e101 : compC prog f20.ntmps (f20.body.getD .skip) = c101 := by kernel_rfl
def c201 : SC := (.seq (.reg [(.box 2 75 (.t 0)), (.mv 3 (.c (.bool false)))]) (.seq (.reg [(.fa 4 (.t 2) 0), (.ld 5 (.t 4) false 1), (.ld 6 (.t 1) false 1), (.bin 7 .eql (.t 5) (.t 6)), (.mv 3 (.t 7))]) .ret))
theorem e201 : compC prog f48.ntmps (f48.body.getD .skip) = c201 := by kernel_rfl
theorem c201_ok {h : Held} {flow : Int} : ACalls prog 48 [.agg h.enc, .ptr 0 0 0 0] [.cells 0 1 3 true [[.int .i64 flow]]] (.bool (decide (h.flow = flow))) [.cells 0 1 3 true [[.int .i64 flow]]] := by
  refine calls_of hmx func48 (by kernel_rfl) (c := f48.body.getD .skip) rfl e201 (rs := [(.t 3)]) (by kernel_rfl) (by simp [ntmps48]) ?_
  simp only [c201, argS]
  simp only [go_sem, seval]
  exact Rt_T (H := [_]) _ (by rfl) (by rfl) (by rfl) (Nat.le_refl _)
theorem c101_ok {s : Station} {slot : Int} {c : TCell} {flow : Int} (hL : s.held.length < 2 ^ 62) : ACalls prog 20 [.ptr 0 0 0 0, .int .i64 flow] [.cells 0 21 77 true [wEnc s slot c]] (.int .i64 (heldIdx s.held flow)) [.cells 0 21 77 true [wEnc s slot c]] := by
  refine calls_of hmx func20 (by kernel_rfl) (c := f20.body.getD .skip) rfl e101 (rs := [(.t 4)]) (by kernel_rfl) (by simp [ntmps20]) ?_
  simp only [c101, argS]
  simp only [go_sem, seval]
  refine CX_rd [1] (c200_idx (caps := [.ptr 0 0 0 0]) (first := []) (g := 48) hL (fun _ _ => by rfl) (fun _ _ => by rfl) (by rfl) (by rfl) (fun x _ => c201_ok (flow := flow))) (by rfl) (by rfl) (by rfl) (by rfl) (by rfl) (by decide) (by rfl) (by rfl) (by rfl) ?_
  simp only [go_sem, seval]
  exact Rt_T (H := [_]) _ (by rfl) (by rfl) (by rfl) (Nat.le_refl _)
/-- A station whose seen frames lie in an object of their own. -/
def sEncN (s : Station) (id : Nat) : List AVal := [.int .i64 s.tab.node, .int .i64 s.tab.len, .sl 6 (s.tab.cells.map TCell.enc), .int .i64 s.q.limit, .sl 6 (s.q.pk.map Packet.enc), .sl 5 (s.held.map Held.enc), .row id 1 0 s.seen.length, .int .i64 s.list, .int .i64 s.seq, .int .i64 s.trying, .int .i64 s.tries, .int .i64 s.back, .int .i64 s.wait, .int .i64 s.seed]
def wEncN (s : Station) (id : Nat) (slot : Int) (c : TCell) : List AVal := [.int .i64 s.tab.node, .int .i64 s.tab.len, .sl 6 (s.tab.cells.map TCell.enc), .int .i64 s.q.limit, .sl 6 (s.q.pk.map Packet.enc), .sl 5 (s.held.map Held.enc), .row id 1 0 s.seen.length, .int .i64 s.list, .int .i64 s.seq, .int .i64 s.trying, .int .i64 s.tries, .int .i64 s.back, .int .i64 s.wait, .int .i64 s.seed, .int .i64 slot, .int .i64 c.slot, .int .i64 c.off, .int .i64 c.kind, .bool c.send, .int .i64 c.peer, .int .i64 c.flow]
def seenO (s : Station) : AObj := .cells 1 2 102 false (s.seen.map Seen.enc)
attribute [go_sem] sEncN wEncN seenO
theorem lt_seen {l : List Seen} {m q : Nat} {fu : Bool} : ltO m (.cells q 2 102 fu (l.map Seen.enc)) = true := ltO_mono (Nat.zero_le m) (lt_map fun _ => by rfl)
theorem ren_seen {l : List Seen} {r : Nat → Nat} {q : Nat} {fu : Bool} : renO r (.cells q 2 102 fu (l.map Seen.enc)) = .cells q 2 102 fu (l.map Seen.enc) := renO_lt (m := 0) (fun id h => by omega) lt_seen
def sEncHN (s : Station) : List AVal := [.int .i64 s.tab.node, .int .i64 s.tab.len, .sl 6 (s.tab.cells.map TCell.enc), .int .i64 s.q.limit, .sl 6 (s.q.pk.map Packet.enc), .row 2 1 0 s.held.length, .row 3 1 0 s.seen.length, .int .i64 s.list, .int .i64 s.seq, .int .i64 s.trying, .int .i64 s.tries, .int .i64 s.back, .int .i64 s.wait, .int .i64 s.seed]
theorem l152n (s : Station) (hL : s.held.length < 2 ^ 62) (hA : ∀ h ∈ s.held, h.acked.length * 8 ≤ 140737488355328) (hr : AVal) (Hr : Heap) (k' : List It)
    (hk : ∀ zs, get zs 1 = .ptr 0 0 0 0 → get zs 2 = .ptr 1 0 0 0 → V prog f16.ntmps 0 (Ret [.cell 2 true 14] 0 hr Hr) k' zs [.cells 0 14 35 true [sEncHN s], .cells 0 14 35 true [zSt], .cells 1 5 75 false (s.held.map Held.enc), .cells 1 2 102 false (s.seen.map Seen.enc)]) :
    ∀ (rest done : List Held), s.held = done ++ rest →
    Lp prog f16.ntmps 0 (Ret [.cell 2 true 14] 0 hr Hr) c152L1 (.blk 0 :: k') [(1, .ptr 0 0 0 0), (2, .ptr 1 0 0 0), (26, .int .i64 s.held.length), (27, .int .i64 done.length)] [.cells 0 14 35 true [sEncHN s], .cells 0 14 35 true [zSt], .cells 1 5 75 false (s.held.map Held.enc), .cells 1 2 102 false (s.seen.map Seen.enc)] := by
  intro rest
  induction rest with
  | nil =>
    intro done hd
    refine Lp.of_eq hmx c152L1.eq_1 ?_
    have h1 := rg_end hd
    simp only [go_sem, seval, h1, List.length_map]
    exact hk _ (by rfl) (by rfl)
  | cons c rest ih =>
    intro done hd
    refine Lp.of_eq hmx c152L1.eq_1 ?_
    obtain ⟨h1, h2, h3, h4⟩ := rg_hd Held.enc hd hL
    have hAc := hA c (by rw [hd]; simp)
    have ih' := ih _ h4
    have hlt : done.length < s.held.length := by rw [hd]; simp
    simp only [go_sem, seval, sEncHN, h1, h2, h3, Int.toNat_natCast, Int.natCast_nonneg, List.length_map, hlt, Nat.zero_add]
    refine ⟨Int.ofNat_lt.2 hlt, ?_⟩
    refine CX_pure (c153_ok hAc) rfl rfl rfl rfl ?_
    have hse : (s.held.map Held.enc).set done.length [.int .i64 c.flow, .int .i64 c.frame, .int .i64 c.upto, .str c.data, .sl 1 (c.acked.map eI)] = s.held.map Held.enc := set_same h2
    simp only [go_sem, seval, h1, h2, h3, Int.toNat_natCast, Int.natCast_nonneg, List.length_map, hlt, Nat.zero_add, hse]
    refine ⟨Int.ofNat_lt.2 hlt, by rfl, ?_⟩
    exact Lp.bkE0 ih' (by rfl) rfl
/-- Clone, of which the seen frames are wanted for writing. -/
theorem c152n_ok {s : Station} (hB : ClBd s) : ACalls prog 16 [.agg s.enc] [] (.agg (sEncN s 0)) [seenO s] := by
  obtain ⟨b1, b2, b3, b4, b5⟩ := hB
  refine calls_of hmx func16 (by kernel_rfl) (c := f16.body.getD .skip) rfl e152 (rs := [(.cell 2 true 14)]) (by kernel_rfl) (by simp [ntmps16]) ?_
  simp only [c152, argS]
  simp only [go_sem, seval]
  repeat' first | refine CX_pure (c82_ok b1) rfl rfl rfl rfl ?_ | refine GX_call (fun _ => (c82_ok b1)) (by rfl) (by intro h; simp only [h]; rfl) (by rfl) (by rfl) ?_ | (with_reducible intro h; try simp only [h]) | (with_reducible refine And.intro ?_ ?_) | (change chk _ _ = true; rfl) | simp only [go_sem, seval, Vc_bool] | refine (GX_split rfl).2 ?_
  repeat' first | refine CX_pure (c260_ok b2) rfl rfl rfl rfl ?_ | refine GX_call (fun _ => (c260_ok b2)) (by rfl) (by intro h; simp only [h]; rfl) (by rfl) (by rfl) ?_ | (with_reducible intro h; try simp only [h]) | (with_reducible refine And.intro ?_ ?_) | (change chk _ _ = true; rfl) | simp only [go_sem, seval, Vc_bool] | refine (GX_split rfl).2 ?_
  repeat' first | (with_reducible intro h; try simp only [h]) | (with_reducible refine And.intro ?_ ?_) | (change chk _ _ = true; rfl) | simp only [go_sem, seval, Vc_bool] | refine (GX_split rfl).2 ?_
  by_cases h0 : s.held = []
  · repeat' first | refine CX_pure (c261_ok b3) rfl rfl rfl rfl ?_ | refine GX_call (fun _ => (c261_ok b3)) (by rfl) (by intro h; simp only [h]; rfl) (by rfl) (by rfl) ?_ | (with_reducible intro h; try simp only [h]) | (with_reducible refine And.intro ?_ ?_) | (change chk _ _ = true; rfl) | simp only [go_sem, seval, Vc_bool] | refine (GX_split rfl).2 ?_
    refine CX_new (r1 := .row 2 1 0 s.seen.length) (c262w_ok b4) rfl rfl rfl (by rw [List.all_cons, List.all_nil, Bool.and_true]; exact lt_map fun _ => by rfl) (by rfl) ?_
    repeat' first | (with_reducible intro h; try simp only [h]) | (with_reducible refine And.intro ?_ ?_) | (change chk _ _ = true; rfl) | simp only [go_sem, seval, Vc_bool] | refine (GX_split rfl).2 ?_
    refine Lp.of_eq hmx c152L1.eq_1 ?_
    simp only [go_sem, seval, h0, List.map_nil, List.length_nil, show decide ((0:Int) < ((0:Nat):Int)) = false from rfl]
    refine Rt.gs (Gs_tell (s' := [(2, .ptr 1 0 0 0)]) (H' := [.dead, .cells 0 14 35 true [sEncN { s with held := [] } 2], seenO s]) ?_ ?_) (Rt_sel [2] (r0 := .agg (sEncN { s with held := [] } 2)) (by rfl) (by rfl) (by rfl) ?_ (by rfl) (by decide) ?_ (Nat.zero_le _) (by rfl))
    · repeat' (first | exact FzL.nil | refine FzL.cons ?_ ?_ | exact Fz.wk (Wk.refl _) | exact Fz.wk (Wk.nil _) | exact Fz.wk (Wk.emp _) | exact Fz.row0 _ _ _ _ | exact FzH.nil _ | exact FzO.refl _ | refine FzO.one ?_ | refine FzH.cons (by decide) ?_ ?_ | refine FzH.this rfl ?_ | exact FzO.dead (by simp) | (simp only [List.forall_mem_cons, List.not_mem_nil, false_implies, implies_true, and_true, go_sem, seval]) | refine And.intro ?_ ?_)
    · repeat' (first | exact FzL.nil | refine FzL.cons ?_ ?_ | exact Fz.wk (Wk.refl _) | exact Fz.wk (Wk.nil _) | exact Fz.wk (Wk.emp _) | exact Fz.row0 _ _ _ _ | exact FzH.nil _ | exact FzO.refl _ | refine FzO.one ?_ | refine FzH.cons (by decide) ?_ ?_ | refine FzH.this rfl ?_ | exact FzO.dead (by simp) | (simp only [List.forall_mem_cons, List.not_mem_nil, false_implies, implies_true, and_true, go_sem, seval]) | refine And.intro ?_ ?_)
    · rw [List.all_cons, List.all_nil, Bool.and_true]; exact lt_seen
    · rw [List.map_cons, List.map_nil, List.map_cons, List.map_nil, ren_seen]; rfl
  · refine CX_new (r1 := .row 2 1 0 s.held.length) (c261w_ok b3) rfl rfl rfl (by rw [List.all_cons, List.all_nil, Bool.and_true]; exact lt_map (xs := s.held) fun _ => by rfl) (by rfl) ?_
    repeat' first | (with_reducible intro h; try simp only [h]) | (with_reducible refine And.intro ?_ ?_) | (change chk _ _ = true; rfl) | simp only [go_sem, seval, Vc_bool] | refine (GX_split rfl).2 ?_
    refine CX_new (r1 := .row 3 1 0 s.seen.length) (c262w_ok b4) rfl rfl rfl (by rw [List.all_cons, List.all_nil, Bool.and_true]; exact lt_map fun _ => by rfl) (by rfl) ?_
    repeat' first | (with_reducible intro h; try simp only [h]) | (with_reducible refine And.intro ?_ ?_) | (change chk _ _ = true; rfl) | simp only [go_sem, seval, Vc_bool] | refine (GX_split rfl).2 ?_
    refine Lp.bkE0 (l152n s (by omega) b5 _ _ _ (fun zs z1 z2 => ?_) s.held [] rfl) (by rfl) rfl
    simp only [go_sem, seval, z1, z2, sEncHN, zSt]
    refine Rt.gs (Gs_freeze 2 (s' := [(2, .ptr 1 0 0 0)]) (H' := [.dead, .cells 0 14 35 true [sEncN s 3], .dead, seenO s]) rfl ?_ ?_) (Rt_sel [3] (r0 := .agg (sEncN s 3)) (by rfl) (by rfl) (by rfl) ?_ (by rfl) (by decide) ?_ (Nat.zero_le _) (by rfl))
    · refine List.forall_mem_cons.2 ⟨?_, by simp⟩
      simp only [go_sem, seval, z2]
      exact Fz.wk (Wk.refl _)
    · repeat' (first | exact FzL.nil | refine FzL.cons ?_ ?_ | exact Fz.wk (Wk.refl _) | exact Fz.wk (Wk.nil _) | exact Fz.wk (Wk.emp _) | exact Fz.row0 _ _ _ _ | exact FzH.nil _ | exact FzO.refl _ | refine FzO.one ?_ | refine FzH.cons (by decide) ?_ ?_ | refine FzH.this rfl ?_ | exact FzO.dead (by simp) | (simp only [List.forall_mem_cons, List.not_mem_nil, false_implies, implies_true, and_true, go_sem, seval]) | refine And.intro ?_ ?_)
      all_goals first | exact Fz.wk (Wk.refl _) | exact Fz.row 0 _ (by rw [List.drop_zero]; exact List.take_of_length_le (by simp)) (cloE_map fun _ => by rfl)
    · rw [List.all_cons, List.all_nil, Bool.and_true]; exact lt_seen
    · rw [List.map_cons, List.map_nil, List.map_cons, List.map_nil, ren_seen]; rfl

theorem c96n_ok {s : Station} {slot : Int} (hB : ClBd s) (hE : slotErr s slot = 0) : ACalls prog 18 [.agg s.enc, .int .i64 slot] [] (.tup [.ptr 0 0 0 0, .int .i64 0]) [.cells 0 21 77 true [wEncN s 1 slot (cellAt s slot)], .cells 1 2 102 false (s.seen.map Seen.enc)] := by
  refine calls_of hmx func18 (by kernel_rfl) (c := f18.body.getD .skip) rfl e96 (rs := [(.t 4), (.t 5)]) (by kernel_rfl) (by simp [ntmps18]) ?_
  simp only [c96, argS]
  simp only [go_sem, seval]
  repeat' first | refine CX_pure (c22_pf s hB.st) rfl rfl rfl rfl ?_ | refine CX_pure c81_ok rfl rfl rfl rfl ?_ | refine GX_call (fun _ => (c22_pf s hB.st)) (by rfl) (by intro h; simp only [h]; rfl) (by rfl) (by rfl) ?_ | refine GX_call (fun _ => c81_ok) (by rfl) (by intro h; simp only [h]; rfl) (by rfl) (by rfl) ?_ | (with_reducible intro h; try simp only [h]) | (with_reducible refine And.intro ?_ ?_) | (change chk _ _ = true; rfl) | simp only [go_sem, seval, Vc_bool] | refine (GX_split rfl).2 ?_
  · exact absurd hE (by grind [slotErr, stErr])
  · exact absurd hE (by grind [slotErr, stErr, wi])
  · refine CX_new (r1 := .agg (sEncN s 1)) (c152n_ok hB) rfl rfl rfl (by rw [List.all_cons, List.all_nil, Bool.and_true]; exact lt_seen) (by rfl) ?_
    repeat' first | refine CX_pure (c191_at hB.st.1) rfl rfl rfl rfl ?_ | refine GX_call (fun _ => (c191_at hB.st.1)) (by rfl) (by intro h; simp only [h]; rfl) (by rfl) (by rfl) ?_ | (with_reducible intro h; try simp only [h]) | (with_reducible refine And.intro ?_ ?_) | (change chk _ _ = true; rfl) | simp only [go_sem, seval, Vc_bool] | refine (GX_split rfl).2 ?_
    refine Rt_sel [2, 1] (r0 := .tup [.ptr 2 0 0 0, .int .i64 0]) (by rfl) (by rfl) rfl ?_ rfl (by decide) ?_ (Nat.zero_le _) rfl
    · rw [List.all_cons, List.all_cons, List.all_nil, Bool.and_true, lt_seen, Bool.and_true]; rfl
    · rw [List.map_cons, List.map_cons, List.map_nil, List.map_cons, List.map_cons, List.map_nil, ren_seen]; rfl
theorem c193n_ok {s : Station} {slot : Int} {c : TCell} (hs : c.send = false) : ACalls prog 45 [.ptr 0 0 0 0] [.cells 0 21 77 true [wEncN s 1 slot c], .cells 1 2 102 false (s.seen.map Seen.enc)] (.agg (Action.enc ⟨2, 0, Frame.zero⟩)) [.cells 0 21 77 true [wEncN s 1 slot c], .cells 1 2 102 false (s.seen.map Seen.enc)] := by
  rcases c with ⟨cs, co, ck, cd, cp, cf⟩
  obtain rfl : cd = false := hs
  refine calls_of hmx func45 (by kernel_rfl) (c := f45.body.getD .skip) rfl e193 (rs := [(.cell 2 true 14)]) (by kernel_rfl) (by simp [ntmps45]) ?_
  simp only [c193, argS]
  simp only [go_sem, seval]
  exact Rt_T (H := [_, _]) _ (by rfl) (by rfl) (by rw [List.all_cons, List.all_cons, List.all_nil, Bool.and_true, lt_seen, Bool.and_true]; rfl) (Nat.le_refl _)
theorem c97n_2 {s : Station} {slot : Int} {c : TCell} (hk : c.kind = 2) (hs : c.send = false) :
    ACalls prog 19 [.ptr 0 0 0 0] [.cells 0 21 77 true [wEncN s 1 slot c], .cells 1 2 102 false (s.seen.map Seen.enc)] (.agg (Action.enc ⟨2, c.off, Frame.zero⟩)) [.cells 0 21 77 true [wEncN s 1 slot c], .cells 1 2 102 false (s.seen.map Seen.enc)] := by
  have hg := c193n_ok (s := s) (slot := slot) hs
  rcases c with ⟨cs, co, ck, cd, cp, cf⟩
  obtain rfl : ck = 2 := hk
  obtain rfl : cd = false := hs
  refine calls_of hmx func19 (by kernel_rfl) (c := f19.body.getD .skip) rfl e97 (rs := [(.cell 2 true 14)]) (by kernel_rfl) (by simp [ntmps19]) ?_
  simp only [c97, argS]
  simp only [go_sem, seval]
  repeat' first | refine CX_rd [0, 1] (hg) (by rfl) (by rfl) (by rfl) (by rw [List.all_cons, List.all_cons, List.all_nil, Bool.and_true, lt_seen, Bool.and_true]; rfl) (by rfl) (by decide) (by rfl) (by rw [List.map_cons, List.map_cons, List.map_nil, List.map_cons, List.map_cons, List.map_nil, ren_seen]; rfl) (by rfl) ?_ | (with_reducible intro h; try simp only [h]) | (with_reducible refine And.intro ?_ ?_) | (change chk _ _ = true; rfl) | simp only [go_sem, seval, Vc_bool, mapSet_cons, mapSet_nil, mapAt_cons, mapAt_nil] | refine (GX_split rfl).2 ?_
  exact Rt_T (H := [_, _]) _ (by rfl) (by rfl) (by rw [List.all_cons, List.all_cons, List.all_nil, Bool.and_true, lt_seen, Bool.and_true]; rfl) (Nat.le_refl _)

theorem seen_lt {l : List Seen} : ([.cells 1 2 102 false (l.map Seen.enc)] : Heap).all (ltO 1) = true := by rw [List.all_cons, List.all_nil, Bool.and_true]; exact lt_seen
theorem l311r (l : List Seen) (x : Seen) (hL : l.length < 2 ^ 62) (k' : List It) (hk : ∀ zs, V prog f86.ntmps 1 (Ret [.t 4] 1 (.int .i64 (-1)) [.cells 1 2 102 false (l.map Seen.enc)]) k' zs [.cells 1 2 102 false (l.map Seen.enc), .cells 0 2 102 true [x.enc]]) : ∀ (rest done : List Seen), l = done ++ rest →
    Lp prog f86.ntmps 1 (Ret [.t 4] 1 (.int .i64 (idxFrom (fun y => decide (x = y)) done.length rest)) [.cells 1 2 102 false (l.map Seen.enc)]) c311L1 (.blk 0 :: k') [(0, .row 0 1 0 l.length), (3, .ptr 1 0 0 0), (7, .int .i64 l.length), (8, .int .i64 done.length)] [.cells 1 2 102 false (l.map Seen.enc), .cells 0 2 102 true [x.enc]] := by
  intro rest
  induction rest with
  | nil =>
    intro done hd
    refine Lp.of_eq hmx c311L1.eq_1 ?_
    have h1 := rg_end hd
    simp only [go_sem, seval, h1]
    exact hk _
  | cons c rest ih =>
    intro done hd
    refine Lp.of_eq hmx c311L1.eq_1 ?_
    obtain ⟨h1, h2, h3, h4⟩ := rg_hd Seen.enc hd hL
    have ih' := ih _ h4
    have hlt : ((done.length : Int) < (l.length : Int)) = True := eq_true (by have := congrArg List.length hd; simp at this; omega)
    repeat' first | (with_reducible intro h; try simp only [h]) | (with_reducible refine And.intro ?_ ?_) | (change chk _ _ = true; rfl) | simp only [go_sem, seval, Vc_bool, h1, h2, h3, hlt, seen_eq, Int.toNat_natCast, Int.natCast_nonneg, Nat.zero_add] | refine (GX_split rfl).2 ?_
    · have e : idxFrom (fun y => decide (x = y)) done.length (c :: rest) = done.length := by rw [idxFrom, if_pos h]
      rw [e]
      exact Rt_T (H := [_]) _ (by rfl) (by rfl) seen_lt (Nat.le_refl _)
    · have e : idxFrom (fun y => decide (x = y)) done.length (c :: rest) = idxFrom (fun y => decide (x = y)) (done ++ [c]).length rest := by rw [idxFrom, if_neg (by simpa using h)]; simp
      rw [e]
      exact Lp.bkE0 ih' (by rfl) rfl
theorem c311r_ok {l : List Seen} {x : Seen} (hL : l.length < 2 ^ 62) : ACalls prog 86 [.row 0 1 0 l.length, .agg x.enc] [.cells 1 2 102 false (l.map Seen.enc)] (.int .i64 (idxFrom (fun y => decide (x = y)) 0 l)) [.cells 1 2 102 false (l.map Seen.enc)] := by
  refine calls_of hmx func86 (by kernel_rfl) (c := f86.body.getD .skip) rfl e311 (rs := [(.t 4)]) (by kernel_rfl) (by simp [ntmps86]) ?_
  simp only [c311, argS]
  simp only [go_sem, seval, List.length_map]
  refine Lp.bkE0 (l311r l x hL _ (fun s => ?_) l [] rfl) (by rfl) rfl
  simp only [go_sem, seval]
  exact Rt_T (H := [_]) _ (by rfl) (by rfl) seen_lt (Nat.le_refl _)
theorem c211r_ok {l : List Seen} {x : Seen} (hL : l.length < 2 ^ 62) : ACalls prog 57 [.row 0 1 0 l.length, .agg x.enc] [.cells 1 2 102 false (l.map Seen.enc)] (.bool (l.any fun y => decide (x = y))) [.cells 1 2 102 false (l.map Seen.enc)] := by
  refine calls_of hmx func57 (by kernel_rfl) (c := f57.body.getD .skip) rfl e211 (rs := [(.t 4)]) (by kernel_rfl) (by simp [ntmps57]) ?_
  simp only [c211, argS]
  simp only [go_sem, seval]
  refine CX_read (Hc := [_]) (c311r_ok hL) (by rfl) (by rfl) (by rfl) (by rfl) seen_lt ?_
  simp only [go_sem, seval, idxFrom_any]
  exact Rt_T (H := [_]) _ (by rfl) (by rfl) seen_lt (Nat.le_refl _)
section
variable {xs : List Seen} {t : Seen}
theorem bs2r_loop (hlen : xs.length < 2 ^ 62) (hs : ∀ i x, xs[i]? = some x → (cmp x.node t.node < 0 ↔ i < bsLo (fun y : Seen => cmp y.node t.node) xs)) (rs : List RS) (r : AVal) (k' : List It)
    (hk : ∀ s, get s 0 = .row 0 1 0 xs.length → get s 4 = .ptr 1 0 0 0 → get s 2 = .func 59 [] [] → get s 8 = .int .i64 xs.length → get s 9 = .int .i64 (bsLo (fun y : Seen => cmp y.node t.node) xs) → V prog f58.ntmps 1 (Ret rs 1 r [.cells 1 2 102 false (xs.map Seen.enc)]) k' s [.cells 1 2 102 false (xs.map Seen.enc), .cells 0 2 102 true [t.enc]]) : ∀ (m i j : Nat), j - i ≤ m → i ≤ bsLo (fun y : Seen => cmp y.node t.node) xs → bsLo (fun y : Seen => cmp y.node t.node) xs ≤ j → j ≤ xs.length →
    Lp prog f58.ntmps 1 (Ret rs 1 r [.cells 1 2 102 false (xs.map Seen.enc)]) c212L1 (.blk 0 :: k') [(0, .row 0 1 0 xs.length), (4, .ptr 1 0 0 0), (2, .func 59 [] []), (8, .int .i64 xs.length), (9, .int .i64 i), (10, .int .i64 j)] [.cells 1 2 102 false (xs.map Seen.enc), .cells 0 2 102 true [t.enc]] := by
  intro m
  induction m with
  | zero =>
    intro i j h1 h2 h3 h4
    refine Lp.of_eq hmx c212L1.eq_1 ?_
    have e1 : decide ((i : Int) < (j : Int)) = false := by simp; omega
    simp only [go_sem, seval, e1]
    exact hk _ (by rfl) (by rfl) (by rfl) (by rfl) (by show AVal.int .i64 _ = _; congr 1; omega)
  | succ m ih =>
    intro i j h1 h2 h3 h4
    refine Lp.of_eq hmx c212L1.eq_1 ?_
    rcases Nat.lt_or_ge i j with hij | hij
    · have e1 : decide ((i : Int) < (j : Int)) = true := by simp; omega
      have e2 := mid_ok (i := i) (j := j) (by omega)
      have hm : (i + j) / 2 < xs.length := by omega
      have e3 : (xs.map Seen.enc)[(i + j) / 2]? = some (Seen.enc xs[(i + j) / 2]) := by rw [List.getElem?_map, List.getElem?_eq_getElem hm]; rfl
      have e4 : IntKind.i64.wrap (((i + j) / 2 : Nat) + (1 : Int)) = (((i + j) / 2 + 1 : Nat) : Int) := by rw [wrap_ok (by omega) (by omega)]; omega
      have hsx := hs ((i + j) / 2) _ (List.getElem?_eq_getElem hm)
      generalize xs[(i + j) / 2] = c at *
      have hlt : ((((i + j) / 2 : Nat) : Int) < (xs.length : Int)) = True := eq_true (by omega)
      repeat' first | refine CX_pure (c213_ok) rfl rfl rfl rfl ?_ | refine GX_call (fun _ => (c213_ok)) (by rfl) (by intro h; simp only [h]; rfl) (by rfl) (by rfl) ?_ | (with_reducible intro h; try simp only [h]) | (with_reducible refine And.intro ?_ ?_) | (change chk _ _ = true; rfl) | simp only [go_sem, seval, Vc_bool, e1, e2, e3, e4, hlt, Nat.zero_add, Int.toNat_natCast, Int.natCast_nonneg] | refine (GX_split rfl).2 ?_
      · exact Lp.bk0 (ih ((i + j) / 2 + 1) j (by omega) (by have := of_decide_eq_true h; rw [hsx] at this; omega) h3 h4) (by rfl)
      · exact Lp.bk0 (ih i ((i + j) / 2) (by omega) h2 (by have := of_decide_eq_false h; rw [hsx] at this; omega) (by omega)) (by rfl)
    · have e1 : decide ((i : Int) < (j : Int)) = false := by simp; omega
      simp only [go_sem, seval, e1]
      exact hk _ (by rfl) (by rfl) (by rfl) (by rfl) (by show AVal.int .i64 _ = _; congr 1; omega)
end
theorem c212r_ok {xs : List Seen} {t : Seen} (hlen : xs.length < 2 ^ 62) (hs : ∀ i x, xs[i]? = some x → (cmp x.node t.node < 0 ↔ i < bsLo (fun y : Seen => cmp y.node t.node) xs)) :
    ACalls prog 58 [.row 0 1 0 xs.length, .agg t.enc, .func 59 [] []] [.cells 1 2 102 false (xs.map Seen.enc)] (.tup [.int .i64 (bsLo (fun y : Seen => cmp y.node t.node) xs), .bool (bsHit (fun y : Seen => cmp y.node t.node) xs)]) [.cells 1 2 102 false (xs.map Seen.enc)] := by
  refine calls_of hmx func58 (by kernel_rfl) (c := f58.body.getD .skip) rfl e212 (rs := [(.t 6), (.t 7)]) (by kernel_rfl) (by simp [ntmps58]) ?_
  simp only [c212, argS]
  simp only [go_sem, seval, List.length_map]
  refine Lp.bk0 (bs2r_loop hlen hs _ _ _ (fun s z0 z1 z2 z8 z9 => ?_) xs.length 0 xs.length (by omega) (Nat.zero_le _) (bsLo_le _) (Nat.le_refl _)) (by rfl)
  have hle := bsLo_le (c := fun y : Seen => cmp y.node t.node) xs
  rcases Nat.lt_or_ge (bsLo (fun y : Seen => cmp y.node t.node) xs) xs.length with h | h
  · have e1 : decide (((bsLo (fun y : Seen => cmp y.node t.node) xs : Nat) : Int) < (xs.length : Int)) = true := by simp; omega
    have e2 : (xs.map Seen.enc)[bsLo (fun y : Seen => cmp y.node t.node) xs]? = some (Seen.enc xs[bsLo (fun y : Seen => cmp y.node t.node) xs]) := by rw [List.getElem?_map, List.getElem?_eq_getElem h]; rfl
    have e3 : bsHit (fun y : Seen => cmp y.node t.node) xs = decide (cmp xs[bsLo (fun y : Seen => cmp y.node t.node) xs].node t.node = 0) := by rw [bsHit, List.getElem?_eq_getElem h]
    rw [e3]
    generalize xs[bsLo (fun y : Seen => cmp y.node t.node) xs] = c at *
    have hlt : (((bsLo (fun y : Seen => cmp y.node t.node) xs : Nat) : Int) < (xs.length : Int)) = True := eq_true (by omega)
    repeat' first | refine CX_pure (c213_ok) rfl rfl rfl rfl ?_ | refine GX_call (fun _ => (c213_ok)) (by rfl) (by intro h; simp only [h]; rfl) (by rfl) (by rfl) ?_ | (with_reducible intro h; try simp only [h]) | (with_reducible refine And.intro ?_ ?_) | (change chk _ _ = true; rfl) | simp only [go_sem, seval, Vc_bool, z0, z1, z2, z8, z9, e1, e2, hlt, Nat.zero_add, Int.toNat_natCast, Int.natCast_nonneg] | refine (GX_split rfl).2 ?_
    exact Rt_T (H := [_]) _ (by rfl) (by rfl) seen_lt (Nat.le_refl _)
  · have e1 : decide (((bsLo (fun y : Seen => cmp y.node t.node) xs : Nat) : Int) < (xs.length : Int)) = false := by simp; omega
    have e3 : bsHit (fun y : Seen => cmp y.node t.node) xs = false := by rw [bsHit, List.getElem?_eq_none h]
    rw [e3]
    simp only [go_sem, seval, z0, z1, z2, z8, z9, e1]
    exact Rt_T (H := [_]) _ (by rfl) (by rfl) seen_lt (Nat.le_refl _)

end Go.Av.T
