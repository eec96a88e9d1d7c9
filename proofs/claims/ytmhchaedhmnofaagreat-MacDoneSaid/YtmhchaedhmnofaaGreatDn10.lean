/- The seat: part Dn10. -/
import Derived.Test.YtmhchaedhmnofaaGreatDn9
import Derived.KernelRfl
set_option maxRecDepth 100000
set_option maxHeartbeats 1000000
set_option linter.unusedSimpArgs false
set_option linter.unusedVariables false
namespace Go.Av.T
open Go Go.Av Go.Av.Sp Go.Proofs.Tryz
def c31L1 : SC := (.seq (.seq (.reg [(.mv 15 (.t 6)), (.fa 16 (.t 2) 2), (.ld 17 (.t 16) false 1), (.len 18 false (.t 17)), (.bin 19 .lss (.t 15) (.t 18))]) (.cond (.t 19) .skip (.exit 0))) (.seq (.block 1 (.seq (.regD [(.fa 22 (.t 2) 2), (.ld 23 (.t 22) false 1), (.mv 24 (.t 6)), (.ia 25 (.t 23) (.t 24) 6), (.fa 26 (.t 25) 0), (.ld 27 (.t 26) false 1), (.mv 28 (.t 1)), (.fa 29 (.t 2) 1), (.ld 30 (.t 29) false 1), (.bin 31 .rem (.t 28) (.t 30)), (.bin 32 .eql (.t 27) (.t 31))] []) (.cond (.t 32) (.seq (.reg [(.fa 33 (.t 2) 2), (.ld 34 (.t 33) false 1), (.mv 35 (.t 6)), (.ia 36 (.t 34) (.t 35) 6), (.ld 37 (.t 36) true 6), (.st (.t 4) (.t 37) 6), (.mv 5 (.c (.bool true)))]) .ret) .skip))) (.reg [(.mv 20 (.t 6)), (.bin 21 .add (.t 20) (.c (.int .i64 1))), (.mv 6 (.t 21))])))
def c31 : SC := (.seq (.reg [(.box 2 24 (.t 0)), (.alc 4 57 [(.int .i64 0), (.int .i64 0), (.int .i64 0), (.bool false), (.int .i64 0), (.int .i64 0)]), (.mv 5 (.c (.bool false)))]) (.seq (.seq (.reg [(.ld 7 (.t 2) true 3), (.call (some 8) (.c (.func 83 [] [])) [(.t 7)]), (.bin 9 .neq (.t 8) (.c (.int .i64 0))), (.mv 10 (.t 9)), (.g 10 false (some 11) (.mv 11 (.t 1))), (.g 10 false (some 12) (.bin 12 .lss (.t 11) (.c (.int .i64 0)))), (.pick 13 (.t 10) (.c (.bool true)) (.t 12))]) (.cond (.t 13) (.seq (.reg [(.bld 14 [(.int .i64 0), (.int .i64 0), (.int .i64 0), (.bool false), (.int .i64 0), (.int .i64 0)] []), (.st (.t 4) (.t 14) 6), (.mv 5 (.c (.bool false)))]) .ret) .skip)) (.seq (.seq (.reg [(.mv 6 (.c (.int .i64 0)))]) (.block 0 (.loop c31L1))) (.seq (.reg [(.bld 38 [(.int .i64 0), (.int .i64 0), (.int .i64 0), (.bool false), (.int .i64 0), (.int .i64 0)] []), (.st (.t 4) (.t 38) 6), (.mv 5 (.c (.bool false)))]) .ret))))
theorem e31 : compC prog f31.ntmps (f31.body.getD .skip) = c31 := by kernel_rfl
def c107L1 : SC := (.seq (.seq (.reg [(.mv 6 (.t 5)), (.fa 7 (.t 2) 5), (.ld 8 (.t 7) false 1), (.len 9 false (.t 8)), (.bin 10 .lss (.t 6) (.t 9))]) (.cond (.t 10) .skip (.exit 0))) (.seq (.block 1 (.seq (.reg [(.fa 13 (.t 2) 5), (.ld 14 (.t 13) false 1), (.mv 15 (.t 5)), (.ia 16 (.t 14) (.t 15) 5), (.fa 17 (.t 16) 0), (.ld 18 (.t 17) false 1), (.mv 19 (.t 1)), (.bin 20 .eql (.t 18) (.t 19))]) (.cond (.t 20) (.seq (.reg [(.mv 21 (.t 5)), (.mv 4 (.t 21))]) .ret) .skip))) (.reg [(.mv 11 (.t 5)), (.bin 12 .add (.t 11) (.c (.int .i64 1))), (.mv 5 (.t 12))])))
def c107 : SC := (.seq (.reg [(.box 2 31 (.t 0)), (.mv 4 (.c (.int .i64 0)))]) (.seq (.seq (.reg [(.mv 5 (.c (.int .i64 0)))]) (.block 0 (.loop c107L1))) (.seq (.reg [(.mv 4 (.c (.int .i64 (-1))))]) .ret)))
theorem e107 : compC prog f107.ntmps (f107.body.getD .skip) = c107 := by kernel_rfl
def c195L1 : SC := (.seq (.seq (.reg [(.mv 6 (.t 5)), (.mv 7 (.t 0)), (.len 8 false (.t 7)), (.bin 9 .lss (.t 6) (.t 8))]) (.cond (.t 9) .skip (.exit 0))) (.seq (.block 1 (.seq (.reg [(.mv 12 (.t 0)), (.mv 13 (.t 5)), (.ia 14 (.t 12) (.t 13) 1), (.ld 15 (.t 14) false 1), (.mv 16 (.t 1)), (.bin 17 .eql (.t 15) (.t 16))]) (.cond (.t 17) (.seq (.reg [(.mv 4 (.c (.bool true)))]) .ret) .skip))) (.reg [(.mv 10 (.t 5)), (.bin 11 .add (.t 10) (.c (.int .i64 1))), (.mv 5 (.t 11))])))
def c195 : SC := (.seq (.reg [(.mv 4 (.c (.bool false)))]) (.seq (.seq (.reg [(.mv 5 (.c (.int .i64 0)))]) (.block 0 (.loop c195L1))) (.seq (.reg [(.mv 4 (.c (.bool false)))]) .ret)))
theorem e195 : compC prog f195.ntmps (f195.body.getD .skip) = c195 := by kernel_rfl
def c196L1 : SC := (.seq (.seq (.reg [(.mv 11 (.t 6)), (.fa 12 (.t 2) 1), (.ld 13 (.t 12) false 1), (.len 14 false (.t 13)), (.bin 15 .lss (.t 11) (.t 14))]) (.cond (.t 15) .skip (.exit 0))) (.seq (.block 1 (.seq (.reg [(.fa 18 (.t 2) 1), (.ld 19 (.t 18) false 1), (.mv 20 (.t 6)), (.ia 21 (.t 19) (.t 20) 6), (.fa 22 (.t 21) 1), (.ld 23 (.t 22) false 1), (.mv 24 (.t 1)), (.bin 25 .eql (.t 23) (.t 24))]) (.cond (.t 25) (.seq (.reg [(.fa 26 (.t 2) 1), (.ld 27 (.t 26) false 1), (.mv 28 (.t 6)), (.ia 29 (.t 27) (.t 28) 6), (.ld 30 (.t 29) true 6), (.st (.t 4) (.t 30) 6), (.mv 5 (.c (.bool true)))]) .ret) .skip))) (.reg [(.mv 16 (.t 6)), (.bin 17 .add (.t 16) (.c (.int .i64 1))), (.mv 6 (.t 17))])))
def c196 : SC := (.seq (.reg [(.box 2 27 (.t 0)), (.alc 4 104 [(.int .i64 0), (.int .i64 0), (.int .i64 0), (.int .i64 0), (.int .i64 0), (.str (ByteArray.mk #[]))]), (.mv 5 (.c (.bool false)))]) (.seq (.seq (.reg [(.ld 7 (.t 2) true 2), (.call (some 8) (.c (.func 88 [] [])) [(.t 7)]), (.bin 9 .neq (.t 8) (.c (.int .i64 0)))]) (.cond (.t 9) (.seq (.reg [(.bld 10 [(.int .i64 0), (.int .i64 0), (.int .i64 0), (.int .i64 0), (.int .i64 0), (.str (ByteArray.mk #[]))] []), (.st (.t 4) (.t 10) 6), (.mv 5 (.c (.bool false)))]) .ret) .skip)) (.seq (.seq (.reg [(.mv 6 (.c (.int .i64 0)))]) (.block 0 (.loop c196L1))) (.seq (.reg [(.bld 31 [(.int .i64 0), (.int .i64 0), (.int .i64 0), (.int .i64 0), (.int .i64 0), (.str (ByteArray.mk #[]))] []), (.st (.t 4) (.t 31) 6), (.mv 5 (.c (.bool false)))]) .ret))))
theorem e196 : compC prog f196.ntmps (f196.body.getD .skip) = c196 := by kernel_rfl
def c197 : SC := (.seq (.reg [(.box 2 31 (.t 0)), (.box 3 104 (.t 1)), (.alc 4 41 [(.int .i64 0), (.int .i64 0), (.int .i64 0), (.int .i64 0), (.int .i64 0), (.int .i64 0), (.int .i64 0), (.int .i64 0), (.int .i64 0), (.int .i64 0), (.int .i64 0), (.str (ByteArray.mk #[]))])]) (.seq (.reg [(.fa 5 (.t 2) 0), (.fa 6 (.t 5) 0), (.ld 7 (.t 6) false 1), (.fa 8 (.t 3) 1), (.ld 9 (.t 8) false 1), (.fa 10 (.t 2) 7), (.ld 11 (.t 10) false 1), (.fa 12 (.t 2) 8), (.ld 13 (.t 12) false 1), (.fa 14 (.t 3) 5), (.ld 15 (.t 14) false 1), (.bld 16 [(.int .i64 0), (.int .i64 0), (.int .i64 0), (.int .i64 0), (.int .i64 0), (.int .i64 0), (.int .i64 0), (.int .i64 0), (.int .i64 0), (.int .i64 0), (.int .i64 0), (.str (ByteArray.mk #[]))] [(0, 1, (.c (.int .i64 4))), (1, 1, (.t 7)), (2, 1, (.t 9)), (3, 1, (.t 11)), (4, 1, (.t 13)), (11, 1, (.t 15))]), (.st (.t 4) (.t 16) 12)]) .ret))
theorem e197 : compC prog f197.ntmps (f197.body.getD .skip) = c197 := by kernel_rfl
theorem l31 (t : Table) (slot : Int) (hn0 : t.len ≠ 0) (hL : (t.cells).length < 2 ^ 62) (k' : List It) (hk : ∀ zs, get zs 4 = .ptr 1 0 0 0 → V prog f31.ntmps 0 (Ret [(.cell 4 true 6), (.t 5)] 0 (.tup [.agg TCell.zero.enc, .bool false]) []) k' zs [.cells 0 3 24 true [t.enc], .cells 0 6 57 true [TCell.zero.enc]]) : ∀ (rest done : List TCell), t.cells = done ++ rest →
    Lp prog f31.ntmps 0 (Ret [(.cell 4 true 6), (.t 5)] 0 (.tup [.agg (((rest).find? fun c => decide (c.slot = slot.tmod t.len)).getD TCell.zero).enc, .bool ((rest).find? fun c => decide (c.slot = slot.tmod t.len)).isSome]) []) c31L1 (.blk 0 :: k') [(2, .ptr 0 0 0 0), (4, .ptr 1 0 0 0), (1, .int .i64 slot), (6, .int .i64 done.length)] [.cells 0 3 24 true [t.enc], .cells 0 6 57 true [TCell.zero.enc]] := by
  intro rest
  induction rest with
  | nil =>
    intro done hd
    refine Lp.of_eq hmx c31L1.eq_1 ?_
    have h1 := rg_end hd
    simp only [go_sem, seval, h1, List.length_map]
    exact hk _ (by rfl)
  | cons c rest ih =>
    intro done hd
    refine Lp.of_eq hmx c31L1.eq_1 ?_
    obtain ⟨h1, h2, h3, h4⟩ := rg_hd TCell.enc hd hL
    have ih' := ih _ h4
    rcases List.eq_nil_or_concat done with h0 | ⟨ds, p, h0⟩
    · obtain ⟨p1, hp⟩ := rg_first' h0
      repeat' first | (refine Lp.bkE0 ih' (by rfl) ?_) | (refine Rt_pure ?_ rfl; simp only [retO, retO1, retOs, S, get_cons, Nat.reduceEqDiff, reduceIte, obj, getO_cons_zero, getO_cons_succ, List.getElem?_cons_zero, List.getElem?_cons_succ, List.drop_zero, List.drop_succ_cons, loadFrom_cell, loadFrom_agg, List.length_cons, List.length_nil, Nat.reduceAdd, Nat.reduceLeDiff, List.take_succ_cons, List.take_zero, List.take_nil]) | (with_reducible intro h; try simp only [h]) | (with_reducible refine And.intro ?_ ?_) | (change chk _ _ = true; rfl) | simp only [go_sem, seval, Vc_bool, h1, h2, h3, Int.toNat_natCast, Int.natCast_nonneg, List.length_map, p1] | refine (GX_split rfl).2 ?_
      all_goals (clear hk ih ih' h1 h2 h3 h4 hd hL)
      all_goals clear p1 h0
      all_goals first | exact hn0 | (simp only [List.find?_cons]; simp_all) | grind
    · rw [List.concat_eq_append] at h0
      obtain ⟨p1, p2, p3, hp⟩ := rg_prev' TCell.enc hd h0 hL
      repeat' first | (refine Lp.bkE0 ih' (by rfl) ?_) | (refine Rt_pure ?_ rfl; simp only [retO, retO1, retOs, S, get_cons, Nat.reduceEqDiff, reduceIte, obj, getO_cons_zero, getO_cons_succ, List.getElem?_cons_zero, List.getElem?_cons_succ, List.drop_zero, List.drop_succ_cons, loadFrom_cell, loadFrom_agg, List.length_cons, List.length_nil, Nat.reduceAdd, Nat.reduceLeDiff, List.take_succ_cons, List.take_zero, List.take_nil]) | (with_reducible intro h; try simp only [h]) | (with_reducible refine And.intro ?_ ?_) | (change chk _ _ = true; rfl) | simp only [go_sem, seval, Vc_bool, h1, h2, h3, Int.toNat_natCast, Int.natCast_nonneg, List.length_map, p1, p2, p3] | refine (GX_split rfl).2 ?_
      all_goals (clear hk ih ih' h1 h2 h3 h4 hd hL)
      all_goals clear p1 p2 p3 h0
      all_goals first | exact hn0 | (simp only [List.find?_cons]; simp_all) | grind

theorem c31_pf (t : Table) (slot : Int) (hL : t.cells.length < 2 ^ 62) : ACalls prog 31 [.agg [.int .i64 t.node, .int .i64 t.len, .sl 6 (t.cells.map TCell.enc)], .int .i64 slot] [] (.tup [.agg ((tabAt t slot).getD TCell.zero).enc, .bool (tabAt t slot).isSome]) [] := by
  refine calls_of hmx func31 (by kernel_rfl) (c := f31.body.getD .skip) rfl e31 (rs := [(.cell 4 true 6), (.t 5)]) (by kernel_rfl) (by simp [ntmps31]) ?_
  simp only [c31, argS]
  simp only [go_sem, seval]
  repeat' first | refine CX_pure (c83_ok hL) rfl rfl rfl rfl ?_ | refine GX_call (fun _ => (c83_ok hL)) (by rfl) (by intro h; simp only [h]; rfl) (by rfl) (by rfl) ?_ | (with_reducible intro h; try simp only [h]) | (with_reducible refine And.intro ?_ ?_) | (change chk _ _ = true; rfl) | simp only [go_sem, seval, Vc_bool] | refine (GX_split rfl).2 ?_
  · have e : tabAt t slot = none := by
      rw [tabAt, if_pos]
      simpa using h
    rw [e]
    (refine Rt_pure ?_ rfl; simp only [retO, retO1, retOs, S, get_cons, Nat.reduceEqDiff, reduceIte, obj, getO_cons_zero, getO_cons_succ, List.getElem?_cons_zero, List.getElem?_cons_succ, List.drop_zero, List.drop_succ_cons, loadFrom_cell, loadFrom_agg, List.length_cons, List.length_nil, Nat.reduceAdd, Nat.reduceLeDiff, List.take_succ_cons, List.take_zero, List.take_nil])
    rfl
  · simp only [Bool.or_eq_false_iff, Bool.not_eq_false', decide_eq_true_eq, decide_eq_false_iff_not] at h
    have e : tabAt t slot = t.cells.find? fun c => decide (c.slot = slot.tmod t.len) := by
      rw [tabAt, if_neg]
      simp [h.1]; omega
    rw [e]
    have := tab_len h.1
    refine Lp.bkE0 (l31 t slot (by omega) hL _ (fun zs z4 => ?_) t.cells [] rfl) (by rfl) rfl
    repeat' first | (with_reducible intro h; try simp only [h]) | (with_reducible refine And.intro ?_ ?_) | (change chk _ _ = true; rfl) | simp only [go_sem, seval, Vc_bool, z4] | refine (GX_split rfl).2 ?_
    refine Rt_pure ?_ (by rfl)
    simp only [retO, retOs, retO1, S, get_cons, Nat.reduceEqDiff, reduceIte, z4]
    rfl
theorem l107 (s : Station) (x : Int) (hL : (s.held).length < 2 ^ 62) (k' : List It) (hk : ∀ zs, V prog f107.ntmps 0 (Ret [(.t 4)] 0 (.int .i64 (-1)) []) k' zs [.cells 0 14 31 true [s.enc]]) : ∀ (rest done : List Held), s.held = done ++ rest →
    Lp prog f107.ntmps 0 (Ret [(.t 4)] 0 (.int .i64 (idxFrom (fun h : Held => decide (h.flow = x)) done.length rest)) []) c107L1 (.blk 0 :: k') [(2, .ptr 0 0 0 0), (1, .int .i64 x), (5, .int .i64 done.length)] [.cells 0 14 31 true [s.enc]] := by
  intro rest
  induction rest with
  | nil =>
    intro done hd
    refine Lp.of_eq hmx c107L1.eq_1 ?_
    have h1 := rg_end hd
    simp only [go_sem, seval, h1, List.length_map]
    exact hk _
  | cons c rest ih =>
    intro done hd
    refine Lp.of_eq hmx c107L1.eq_1 ?_
    obtain ⟨h1, h2, h3, h4⟩ := rg_hd Held.enc hd hL
    have ih' := ih _ h4
    rcases List.eq_nil_or_concat done with h0 | ⟨ds, p, h0⟩
    · obtain ⟨p1, hp⟩ := rg_first' h0
      repeat' first | (refine Lp.bkE0 ih' (by rfl) ?_) | (refine Rt_pure ?_ rfl; simp only [retO, retO1, retOs, S, get_cons, Nat.reduceEqDiff, reduceIte, obj, getO_cons_zero, getO_cons_succ, List.getElem?_cons_zero, List.getElem?_cons_succ, List.drop_zero, List.drop_succ_cons, loadFrom_cell, loadFrom_agg, List.length_cons, List.length_nil, Nat.reduceAdd, Nat.reduceLeDiff, List.take_succ_cons, List.take_zero, List.take_nil]) | (with_reducible intro h; try simp only [h]) | (with_reducible refine And.intro ?_ ?_) | (change chk _ _ = true; rfl) | simp only [go_sem, seval, Vc_bool, h1, h2, h3, Int.toNat_natCast, Int.natCast_nonneg, List.length_map, p1] | refine (GX_split rfl).2 ?_
      all_goals (clear hk ih ih' h1 h2 h3 h4 hd hL)
      all_goals clear p1 h0
      all_goals (simp only [idxFrom]; grind)
    · rw [List.concat_eq_append] at h0
      obtain ⟨p1, p2, p3, hp⟩ := rg_prev' Held.enc hd h0 hL
      repeat' first | (refine Lp.bkE0 ih' (by rfl) ?_) | (refine Rt_pure ?_ rfl; simp only [retO, retO1, retOs, S, get_cons, Nat.reduceEqDiff, reduceIte, obj, getO_cons_zero, getO_cons_succ, List.getElem?_cons_zero, List.getElem?_cons_succ, List.drop_zero, List.drop_succ_cons, loadFrom_cell, loadFrom_agg, List.length_cons, List.length_nil, Nat.reduceAdd, Nat.reduceLeDiff, List.take_succ_cons, List.take_zero, List.take_nil]) | (with_reducible intro h; try simp only [h]) | (with_reducible refine And.intro ?_ ?_) | (change chk _ _ = true; rfl) | simp only [go_sem, seval, Vc_bool, h1, h2, h3, Int.toNat_natCast, Int.natCast_nonneg, List.length_map, p1, p2, p3] | refine (GX_split rfl).2 ?_
      all_goals (clear hk ih ih' h1 h2 h3 h4 hd hL)
      all_goals clear p1 p2 p3 h0
      all_goals (simp only [idxFrom]; grind)

theorem c107_pf (s : Station) (x : Int) (hL : s.held.length < 2 ^ 62) : ACalls prog 107 [.agg [.int .i64 s.tab.node, .int .i64 s.tab.len, .sl 6 (s.tab.cells.map TCell.enc), .int .i64 s.q.limit, .sl 6 (s.q.pk.map Packet.enc), .sl 5 (s.held.map Held.enc), .sl 2 (s.seen.map Seen.enc), .int .i64 s.list, .int .i64 s.seq, .int .i64 s.trying, .int .i64 s.tries, .int .i64 s.back, .int .i64 s.wait, .int .i64 s.seed], .int .i64 x] [] (.int .i64 (heldIdx s.held x)) [] := by
  refine calls_of hmx func107 (by kernel_rfl) (c := f107.body.getD .skip) rfl e107 (rs := [(.t 4)]) (by kernel_rfl) (by simp [ntmps107]) ?_
  simp only [c107, argS]
  simp only [go_sem, seval]
  refine Lp.bkE0 (l107 s x hL _ (fun zs => ?_) s.held [] rfl) (by rfl) rfl
  simp only [go_sem, seval]
  (refine Rt_pure ?_ rfl; simp only [retO, retO1, retOs, S, get_cons, Nat.reduceEqDiff, reduceIte, obj, getO_cons_zero, getO_cons_succ, List.getElem?_cons_zero, List.getElem?_cons_succ, List.drop_zero, List.drop_succ_cons, loadFrom_cell, loadFrom_agg, List.length_cons, List.length_nil, Nat.reduceAdd, Nat.reduceLeDiff, List.take_succ_cons, List.take_zero, List.take_nil])
theorem l195 (l : List Int) (x : Int) (hL : (l).length < 2 ^ 62) (k' : List It) (hk : ∀ zs, V prog f195.ntmps 0 (Ret [(.t 4)] 0 (.bool false) []) k' zs []) : ∀ (rest done : List Int), l = done ++ rest →
    Lp prog f195.ntmps 0 (Ret [(.t 4)] 0 (.bool ((rest).any fun y => decide (y = x))) []) c195L1 (.blk 0 :: k') [(0, .sl 1 (l.map eI)), (1, .int .i64 x), (5, .int .i64 done.length)] [] := by
  intro rest
  induction rest with
  | nil =>
    intro done hd
    refine Lp.of_eq hmx c195L1.eq_1 ?_
    have h1 := rg_end hd
    simp only [go_sem, seval, h1, List.length_map]
    exact hk _
  | cons c rest ih =>
    intro done hd
    refine Lp.of_eq hmx c195L1.eq_1 ?_
    obtain ⟨h1, h2, h3, h4⟩ := rg_hd eI hd hL
    have ih' := ih _ h4
    rcases List.eq_nil_or_concat done with h0 | ⟨ds, p, h0⟩
    · obtain ⟨p1, hp⟩ := rg_first' h0
      repeat' first | (refine Lp.bkE0 ih' (by rfl) ?_) | (refine Rt_pure ?_ rfl; simp only [retO, retO1, retOs, S, get_cons, Nat.reduceEqDiff, reduceIte, obj, getO_cons_zero, getO_cons_succ, List.getElem?_cons_zero, List.getElem?_cons_succ, List.drop_zero, List.drop_succ_cons, loadFrom_cell, loadFrom_agg, List.length_cons, List.length_nil, Nat.reduceAdd, Nat.reduceLeDiff, List.take_succ_cons, List.take_zero, List.take_nil]) | (with_reducible intro h; try simp only [h]) | (with_reducible refine And.intro ?_ ?_) | (change chk _ _ = true; rfl) | simp only [go_sem, seval, Vc_bool, h1, h2, h3, Int.toNat_natCast, Int.natCast_nonneg, List.length_map, p1] | refine (GX_split rfl).2 ?_
      all_goals (clear hk ih ih' h1 h2 h3 h4 hd hL)
      all_goals clear p1 h0
      all_goals (simp only [List.any_cons]; grind)
    · rw [List.concat_eq_append] at h0
      obtain ⟨p1, p2, p3, hp⟩ := rg_prev' eI hd h0 hL
      repeat' first | (refine Lp.bkE0 ih' (by rfl) ?_) | (refine Rt_pure ?_ rfl; simp only [retO, retO1, retOs, S, get_cons, Nat.reduceEqDiff, reduceIte, obj, getO_cons_zero, getO_cons_succ, List.getElem?_cons_zero, List.getElem?_cons_succ, List.drop_zero, List.drop_succ_cons, loadFrom_cell, loadFrom_agg, List.length_cons, List.length_nil, Nat.reduceAdd, Nat.reduceLeDiff, List.take_succ_cons, List.take_zero, List.take_nil]) | (with_reducible intro h; try simp only [h]) | (with_reducible refine And.intro ?_ ?_) | (change chk _ _ = true; rfl) | simp only [go_sem, seval, Vc_bool, h1, h2, h3, Int.toNat_natCast, Int.natCast_nonneg, List.length_map, p1, p2, p3] | refine (GX_split rfl).2 ?_
      all_goals (clear hk ih ih' h1 h2 h3 h4 hd hL)
      all_goals clear p1 p2 p3 h0
      all_goals (simp only [List.any_cons]; grind)

theorem c195_ok {l : List Int} {x : Int} (hL : l.length < 2 ^ 62) : ACalls prog 195 [.sl 1 (l.map eI), .int .i64 x] [] (.bool (l.any fun y => decide (y = x))) [] := by
  refine calls_of hmx func195 (by kernel_rfl) (c := f195.body.getD .skip) rfl e195 (rs := [(.t 4)]) (by kernel_rfl) (by simp [ntmps195]) ?_
  simp only [c195, argS]
  simp only [go_sem, seval]
  refine Lp.bkE0 (l195 l x hL _ (fun s => ?_) l [] rfl) (by rfl) rfl
  simp only [go_sem, seval]
  (refine Rt_pure ?_ rfl; simp only [retO, retO1, retOs, S, get_cons, Nat.reduceEqDiff, reduceIte, obj, getO_cons_zero, getO_cons_succ, List.getElem?_cons_zero, List.getElem?_cons_succ, List.drop_zero, List.drop_succ_cons, loadFrom_cell, loadFrom_agg, List.length_cons, List.length_nil, Nat.reduceAdd, Nat.reduceLeDiff, List.take_succ_cons, List.take_zero, List.take_nil])
theorem l196 (q : Queue) (to : Int) (hL : (q.pk).length < 2 ^ 62) (k' : List It) (hk : ∀ zs, get zs 4 = .ptr 1 0 0 0 → V prog f196.ntmps 0 (Ret [(.cell 4 true 6), (.t 5)] 0 (.tup [.agg Packet.zero.enc, .bool false]) []) k' zs [.cells 0 2 27 true [q.enc], .cells 0 6 104 true [Packet.zero.enc]]) : ∀ (rest done : List Packet), q.pk = done ++ rest →
    Lp prog f196.ntmps 0 (Ret [(.cell 4 true 6), (.t 5)] 0 (.tup [.agg (((rest).find? fun p => decide (p.to = to)).getD Packet.zero).enc, .bool ((rest).find? fun p => decide (p.to = to)).isSome]) []) c196L1 (.blk 0 :: k') [(2, .ptr 0 0 0 0), (4, .ptr 1 0 0 0), (1, .int .i64 to), (6, .int .i64 done.length)] [.cells 0 2 27 true [q.enc], .cells 0 6 104 true [Packet.zero.enc]] := by
  intro rest
  induction rest with
  | nil =>
    intro done hd
    refine Lp.of_eq hmx c196L1.eq_1 ?_
    have h1 := rg_end hd
    simp only [go_sem, seval, h1, List.length_map]
    exact hk _ (by rfl)
  | cons c rest ih =>
    intro done hd
    refine Lp.of_eq hmx c196L1.eq_1 ?_
    obtain ⟨h1, h2, h3, h4⟩ := rg_hd Packet.enc hd hL
    have ih' := ih _ h4
    rcases List.eq_nil_or_concat done with h0 | ⟨ds, p, h0⟩
    · obtain ⟨p1, hp⟩ := rg_first' h0
      repeat' first | (refine Lp.bkE0 ih' (by rfl) ?_) | (refine Rt_pure ?_ rfl; simp only [retO, retO1, retOs, S, get_cons, Nat.reduceEqDiff, reduceIte, obj, getO_cons_zero, getO_cons_succ, List.getElem?_cons_zero, List.getElem?_cons_succ, List.drop_zero, List.drop_succ_cons, loadFrom_cell, loadFrom_agg, List.length_cons, List.length_nil, Nat.reduceAdd, Nat.reduceLeDiff, List.take_succ_cons, List.take_zero, List.take_nil]) | (with_reducible intro h; try simp only [h]) | (with_reducible refine And.intro ?_ ?_) | (change chk _ _ = true; rfl) | simp only [go_sem, seval, Vc_bool, h1, h2, h3, Int.toNat_natCast, Int.natCast_nonneg, List.length_map, p1] | refine (GX_split rfl).2 ?_
      all_goals (clear hk ih ih' h1 h2 h3 h4 hd hL)
      all_goals clear p1 h0
      all_goals first | (simp only [List.find?_cons]; simp_all) | grind
    · rw [List.concat_eq_append] at h0
      obtain ⟨p1, p2, p3, hp⟩ := rg_prev' Packet.enc hd h0 hL
      repeat' first | (refine Lp.bkE0 ih' (by rfl) ?_) | (refine Rt_pure ?_ rfl; simp only [retO, retO1, retOs, S, get_cons, Nat.reduceEqDiff, reduceIte, obj, getO_cons_zero, getO_cons_succ, List.getElem?_cons_zero, List.getElem?_cons_succ, List.drop_zero, List.drop_succ_cons, loadFrom_cell, loadFrom_agg, List.length_cons, List.length_nil, Nat.reduceAdd, Nat.reduceLeDiff, List.take_succ_cons, List.take_zero, List.take_nil]) | (with_reducible intro h; try simp only [h]) | (with_reducible refine And.intro ?_ ?_) | (change chk _ _ = true; rfl) | simp only [go_sem, seval, Vc_bool, h1, h2, h3, Int.toNat_natCast, Int.natCast_nonneg, List.length_map, p1, p2, p3] | refine (GX_split rfl).2 ?_
      all_goals (clear hk ih ih' h1 h2 h3 h4 hd hL)
      all_goals clear p1 p2 p3 h0
      all_goals first | (simp only [List.find?_cons]; simp_all) | grind

theorem c196_pf (q : Queue) (to : Int) (hL : q.pk.length < 2 ^ 62) : ACalls prog 196 [.agg [.int .i64 q.limit, .sl 6 (q.pk.map Packet.enc)], .int .i64 to] [] (oPk (qFirst q to)) [] := by
  have e0 : qErr q ≠ 0 → qFirst q to = none := fun h => by rw [qFirst, if_pos h]
  have e1 : qErr q = 0 → qFirst q to = q.pk.find? fun p => decide (p.to = to) := fun h => by rw [qFirst, if_neg (by simpa using h)]
  refine calls_of hmx func196 (by kernel_rfl) (c := f196.body.getD .skip) rfl e196 (rs := [(.cell 4 true 6), (.t 5)]) (by kernel_rfl) (by simp [ntmps196]) ?_
  simp only [c196, argS]
  simp only [go_sem, seval]
  repeat' first | refine CX_pure (c88_ok hL) rfl rfl rfl rfl ?_ | refine GX_call (fun _ => (c88_ok hL)) (by rfl) (by intro h; simp only [h]; rfl) (by rfl) (by rfl) ?_ | (with_reducible intro h; try simp only [h]) | (with_reducible refine And.intro ?_ ?_) | (change chk _ _ = true; rfl) | simp only [go_sem, seval, Vc_bool] | refine (GX_split rfl).2 ?_
  · rw [e0 (by simpa using h)]
    (refine Rt_pure ?_ rfl; simp only [retO, retO1, retOs, S, get_cons, Nat.reduceEqDiff, reduceIte, obj, getO_cons_zero, getO_cons_succ, List.getElem?_cons_zero, List.getElem?_cons_succ, List.drop_zero, List.drop_succ_cons, loadFrom_cell, loadFrom_agg, List.length_cons, List.length_nil, Nat.reduceAdd, Nat.reduceLeDiff, List.take_succ_cons, List.take_zero, List.take_nil])
    rfl
  · rw [e1 (by simpa using h)]
    refine Lp.bkE0 (l196 q to hL _ (fun zs z4 => ?_) q.pk [] rfl) (by rfl) rfl
    repeat' first | (with_reducible intro h; try simp only [h]) | (with_reducible refine And.intro ?_ ?_) | (change chk _ _ = true; rfl) | simp only [go_sem, seval, Vc_bool, z4] | refine (GX_split rfl).2 ?_
    refine Rt_pure ?_ (by rfl)
    simp only [retO, retOs, retO1, S, get_cons, Nat.reduceEqDiff, reduceIte, z4]
    rfl
theorem c197_ok {s : Station} {p : Packet} : ACalls prog 197 [.agg s.enc, .agg p.enc] [] (.agg (msgOf s p).enc) [] := by
  refine calls_of hmx func197 (by kernel_rfl) (c := f197.body.getD .skip) rfl e197 (rs := [(.cell 4 true 12)]) (by kernel_rfl) (by simp [ntmps197]) ?_
  simp only [c197, argS]
  simp only [go_sem, seval]
  exact Rt_pure (by rfl) (by rfl)
def c303L1 : SC := (.seq (.seq (.reg [(.mv 6 (.t 5)), (.fa 7 (.t 2) 2), (.ld 8 (.t 7) false 1), (.len 9 false (.t 8)), (.bin 10 .lss (.t 6) (.t 9))]) (.cond (.t 10) .skip (.exit 0))) (.seq (.block 1 (.seq (.reg [(.fa 13 (.t 2) 2), (.ld 14 (.t 13) false 1), (.mv 15 (.t 5)), (.ia 16 (.t 14) (.t 15) 6), (.fa 17 (.t 16) 2), (.ld 18 (.t 17) false 1), (.bin 19 .eql (.t 18) (.c (.int .i64 2))), (.mv 20 (.t 19)), (.g 20 true (some 21) (.fa 21 (.t 2) 2)), (.g 20 true (some 22) (.ld 22 (.t 21) false 1)), (.g 20 true (some 23) (.mv 23 (.t 5))), (.g 20 true (some 24) (.ia 24 (.t 22) (.t 23) 6)), (.g 20 true (some 25) (.fa 25 (.t 24) 3)), (.g 20 true (some 26) (.ld 26 (.t 25) false 1)), (.pick 27 (.t 20) (.t 26) (.c (.bool false))), (.mv 28 (.t 27)), (.g 28 true (some 29) (.fa 29 (.t 2) 2)), (.g 28 true (some 30) (.ld 30 (.t 29) false 1)), (.g 28 true (some 31) (.mv 31 (.t 5))), (.g 28 true (some 32) (.ia 32 (.t 30) (.t 31) 6)), (.g 28 true (some 33) (.fa 33 (.t 32) 4)), (.g 28 true (some 34) (.ld 34 (.t 33) false 1)), (.g 28 true (some 35) (.mv 35 (.t 1))), (.g 28 true (some 36) (.bin 36 .eql (.t 34) (.t 35))), (.pick 37 (.t 28) (.t 36) (.c (.bool false)))]) (.cond (.t 37) (.seq (.reg [(.mv 4 (.c (.bool true)))]) .ret) .skip))) (.reg [(.mv 11 (.t 5)), (.bin 12 .add (.t 11) (.c (.int .i64 1))), (.mv 5 (.t 12))])))
def c303 : SC := (.seq (.reg [(.box 2 24 (.t 0)), (.mv 4 (.c (.bool false)))]) (.seq (.seq (.reg [(.mv 5 (.c (.int .i64 0)))]) (.block 0 (.loop c303L1))) (.seq (.reg [(.mv 4 (.c (.bool false)))]) .ret)))
theorem e303 : compC prog f303.ntmps (f303.body.getD .skip) = c303 := by kernel_rfl
def c198L1 : SC := (.seq (.seq (.reg [(.mv 6 (.t 4)), (.fa 7 (.t 1) 3), (.fa 8 (.t 7) 1), (.ld 9 (.t 8) false 1), (.len 10 false (.t 9)), (.bin 11 .lss (.t 6) (.t 10))]) (.cond (.t 11) .skip (.exit 0))) (.seq (.block 1 (.seq (.reg [(.fa 14 (.t 1) 3), (.fa 15 (.t 14) 1), (.ld 16 (.t 15) false 1), (.mv 17 (.t 4)), (.ia 18 (.t 16) (.t 17) 6), (.ld 19 (.t 18) true 6), (.alc 5 104 [(.int .i64 0), (.int .i64 0), (.int .i64 0), (.int .i64 0), (.int .i64 0), (.str (ByteArray.mk #[]))]), (.st (.t 5) (.t 19) 6)]) (.seq (.reg [(.fa 20 (.t 5) 1), (.ld 21 (.t 20) false 1), (.bin 22 .eql (.t 21) (.c (.int .i64 (-1)))), (.mv 23 (.t 22)), (.g 23 false (some 24) (.fa 24 (.t 1) 0)), (.g 23 false (some 25) (.ld 25 (.t 24) true 3)), (.g 23 false (some 26) (.fa 26 (.t 5) 1)), (.g 23 false (some 27) (.ld 27 (.t 26) false 1)), (.g 23 false (some 28) (.call (some 28) (.c (.func 303 [] [])) [(.t 25), (.t 27)])), (.g 23 false (some 29) (.not 29 (.t 28))), (.pick 30 (.t 23) (.c (.bool true)) (.t 29))]) (.cond (.t 30) (.seq (.reg [(.ld 31 (.t 5) true 6), (.st (.t 2) (.t 31) 6), (.mv 3 (.c (.bool true)))]) .ret) .skip)))) (.reg [(.mv 12 (.t 4)), (.bin 13 .add (.t 12) (.c (.int .i64 1))), (.mv 4 (.t 13))])))
def c198 : SC := (.seq (.reg [(.box 1 31 (.t 0)), (.alc 2 104 [(.int .i64 0), (.int .i64 0), (.int .i64 0), (.int .i64 0), (.int .i64 0), (.str (ByteArray.mk #[]))]), (.mv 3 (.c (.bool false)))]) (.seq (.seq (.reg [(.mv 4 (.c (.int .i64 0)))]) (.block 0 (.loop c198L1))) (.seq (.reg [(.bld 32 [(.int .i64 0), (.int .i64 0), (.int .i64 0), (.int .i64 0), (.int .i64 0), (.str (ByteArray.mk #[]))] []), (.st (.t 2) (.t 32) 6), (.mv 3 (.c (.bool false)))]) .ret)))
theorem e198 : compC prog f198.ntmps (f198.body.getD .skip) = c198 := by kernel_rfl
def agreedB (t : Table) (to : Int) : Bool := t.cells.any fun c => decide (c.kind = 2) && c.send && decide (c.peer = to)
theorem l303 (t : Table) (to : Int) (hL : (t.cells).length < 2 ^ 62) (k' : List It) (hk : ∀ zs, V prog f303.ntmps 0 (Ret [(.t 4)] 0 (.bool false) []) k' zs [.cells 0 3 24 true [t.enc]]) : ∀ (rest done : List TCell), t.cells = done ++ rest →
    Lp prog f303.ntmps 0 (Ret [(.t 4)] 0 (.bool ((rest).any fun c => decide (c.kind = 2) && c.send && decide (c.peer = to))) []) c303L1 (.blk 0 :: k') [(2, .ptr 0 0 0 0), (1, .int .i64 to), (5, .int .i64 done.length)] [.cells 0 3 24 true [t.enc]] := by
  intro rest
  induction rest with
  | nil =>
    intro done hd
    refine Lp.of_eq hmx c303L1.eq_1 ?_
    have h1 := rg_end hd
    simp only [go_sem, seval, h1, List.length_map]
    exact hk _
  | cons c rest ih =>
    intro done hd
    refine Lp.of_eq hmx c303L1.eq_1 ?_
    obtain ⟨h1, h2, h3, h4⟩ := rg_hd TCell.enc hd hL
    have ih' := ih _ h4
    rcases List.eq_nil_or_concat done with h0 | ⟨ds, p, h0⟩
    · obtain ⟨p1, hp⟩ := rg_first' h0
      cases hw0 : (decide (c.kind = 2)) <;> cases hw1 : (c.send)
      all_goals
        repeat' first | (refine Lp.bkE0 ih' (by rfl) ?_) | (refine Rt_pure ?_ rfl; simp only [retO, retO1, retOs, S, get_cons, Nat.reduceEqDiff, reduceIte, obj, getO_cons_zero, getO_cons_succ, List.getElem?_cons_zero, List.getElem?_cons_succ, List.drop_zero, List.drop_succ_cons, loadFrom_cell, loadFrom_agg, List.length_cons, List.length_nil, Nat.reduceAdd, Nat.reduceLeDiff, List.take_succ_cons, List.take_zero, List.take_nil]) | (with_reducible intro h; try simp only [h]) | (with_reducible refine And.intro ?_ ?_) | (change chk _ _ = true; rfl) | simp only [go_sem, seval, Vc_bool, h1, h2, h3, Int.toNat_natCast, Int.natCast_nonneg, List.length_map, hw0, hw1, p1] | refine (GX_split rfl).2 ?_
        all_goals (clear hk ih ih' h1 h2 h3 h4 hd hL)
        all_goals clear p1 h0
        all_goals (simp only [List.any_cons]; grind)
    · rw [List.concat_eq_append] at h0
      obtain ⟨p1, p2, p3, hp⟩ := rg_prev' TCell.enc hd h0 hL
      cases hw0 : (decide (c.kind = 2)) <;> cases hw1 : (c.send)
      all_goals
        repeat' first | (refine Lp.bkE0 ih' (by rfl) ?_) | (refine Rt_pure ?_ rfl; simp only [retO, retO1, retOs, S, get_cons, Nat.reduceEqDiff, reduceIte, obj, getO_cons_zero, getO_cons_succ, List.getElem?_cons_zero, List.getElem?_cons_succ, List.drop_zero, List.drop_succ_cons, loadFrom_cell, loadFrom_agg, List.length_cons, List.length_nil, Nat.reduceAdd, Nat.reduceLeDiff, List.take_succ_cons, List.take_zero, List.take_nil]) | (with_reducible intro h; try simp only [h]) | (with_reducible refine And.intro ?_ ?_) | (change chk _ _ = true; rfl) | simp only [go_sem, seval, Vc_bool, h1, h2, h3, Int.toNat_natCast, Int.natCast_nonneg, List.length_map, hw0, hw1, p1, p2, p3] | refine (GX_split rfl).2 ?_
        all_goals (clear hk ih ih' h1 h2 h3 h4 hd hL)
        all_goals clear p1 p2 p3 h0
        all_goals (simp only [List.any_cons]; grind)

theorem c303_pf (t : Table) (to : Int) (hL : t.cells.length < 2 ^ 62) : ACalls prog 303 [.agg [.int .i64 t.node, .int .i64 t.len, .sl 6 (t.cells.map TCell.enc)], .int .i64 to] [] (.bool (agreedB t to)) [] := by
  refine calls_of hmx func303 (by kernel_rfl) (c := f303.body.getD .skip) rfl e303 (rs := [(.t 4)]) (by kernel_rfl) (by simp [ntmps303]) ?_
  simp only [c303, argS]
  simp only [go_sem, seval]
  refine Lp.bkE0 (l303 t to hL _ (fun zs => ?_) t.cells [] rfl) (by rfl) rfl
  simp only [go_sem, seval]
  (refine Rt_pure ?_ rfl; simp only [retO, retO1, retOs, S, get_cons, Nat.reduceEqDiff, reduceIte, obj, getO_cons_zero, getO_cons_succ, List.getElem?_cons_zero, List.getElem?_cons_succ, List.drop_zero, List.drop_succ_cons, loadFrom_cell, loadFrom_agg, List.length_cons, List.length_nil, Nat.reduceAdd, Nat.reduceLeDiff, List.take_succ_cons, List.take_zero, List.take_nil])
theorem l198 (s : Station) (hC : s.tab.cells.length < 2 ^ 62) (hL : (s.q.pk).length < 2 ^ 62) (k' : List It) (hk : ∀ zs, get zs 2 = .ptr 1 0 0 0 → V prog f198.ntmps 0 (Ret [(.cell 2 true 6), (.t 3)] 0 (.tup [.agg Packet.zero.enc, .bool false]) []) k' zs [.cells 0 14 31 true [s.enc], .cells 0 6 104 true [Packet.zero.enc]]) : ∀ (rest done : List Packet), s.q.pk = done ++ rest →
    Lp prog f198.ntmps 0 (Ret [(.cell 2 true 6), (.t 3)] 0 (.tup [.agg (((rest).find? (candP s)).getD Packet.zero).enc, .bool ((rest).find? (candP s)).isSome]) []) c198L1 (.blk 0 :: k') [(1, .ptr 0 0 0 0), (2, .ptr 1 0 0 0), (4, .int .i64 done.length)] [.cells 0 14 31 true [s.enc], .cells 0 6 104 true [Packet.zero.enc]] := by
  intro rest
  induction rest with
  | nil =>
    intro done hd
    refine Lp.of_eq hmx c198L1.eq_1 ?_
    have h1 := rg_end hd
    simp only [go_sem, seval, h1, List.length_map]
    exact hk _ (by rfl)
  | cons c rest ih =>
    intro done hd
    refine Lp.of_eq hmx c198L1.eq_1 ?_
    obtain ⟨h1, h2, h3, h4⟩ := rg_hd Packet.enc hd hL
    have ih' := ih _ h4
    rcases List.eq_nil_or_concat done with h0 | ⟨ds, p, h0⟩
    · obtain ⟨p1, hp⟩ := rg_first' h0
      repeat' first | (refine Lp.bkE [_] ih' (by rfl) (by rfl) (by rfl) (Nat.zero_le _) ?_) | (refine Rt_pure ?_ rfl; simp only [retO, retO1, retOs, S, get_cons, Nat.reduceEqDiff, reduceIte, obj, getO_cons_zero, getO_cons_succ, List.getElem?_cons_zero, List.getElem?_cons_succ, List.drop_zero, List.drop_succ_cons, loadFrom_cell, loadFrom_agg, List.length_cons, List.length_nil, Nat.reduceAdd, Nat.reduceLeDiff, List.take_succ_cons, List.take_zero, List.take_nil]) | refine CX_pure (c303_pf s.tab c.to hC) rfl rfl rfl rfl ?_ | refine GX_call (fun _ => (c303_pf s.tab c.to hC)) (by rfl) (by intro h; simp only [h]; rfl) (by rfl) (by rfl) ?_ | (with_reducible intro h; try simp only [h]) | (with_reducible refine And.intro ?_ ?_) | (change chk _ _ = true; rfl) | simp only [go_sem, seval, Vc_bool, h1, h2, h3, Int.toNat_natCast, Int.natCast_nonneg, List.length_map, p1] | refine (GX_split rfl).2 ?_
      all_goals (clear hk ih ih' h1 h2 h3 h4 hd hL)
      all_goals clear p1 h0
      all_goals first | (simp only [List.find?_cons, candP]; simp_all [agreedB]; done) | (simp only [List.find?_cons, candP, agreedB] at *; grind)
    · rw [List.concat_eq_append] at h0
      obtain ⟨p1, p2, p3, hp⟩ := rg_prev' Packet.enc hd h0 hL
      repeat' first | (refine Lp.bkE [_] ih' (by rfl) (by rfl) (by rfl) (Nat.zero_le _) ?_) | (refine Rt_pure ?_ rfl; simp only [retO, retO1, retOs, S, get_cons, Nat.reduceEqDiff, reduceIte, obj, getO_cons_zero, getO_cons_succ, List.getElem?_cons_zero, List.getElem?_cons_succ, List.drop_zero, List.drop_succ_cons, loadFrom_cell, loadFrom_agg, List.length_cons, List.length_nil, Nat.reduceAdd, Nat.reduceLeDiff, List.take_succ_cons, List.take_zero, List.take_nil]) | refine CX_pure (c303_pf s.tab c.to hC) rfl rfl rfl rfl ?_ | refine GX_call (fun _ => (c303_pf s.tab c.to hC)) (by rfl) (by intro h; simp only [h]; rfl) (by rfl) (by rfl) ?_ | (with_reducible intro h; try simp only [h]) | (with_reducible refine And.intro ?_ ?_) | (change chk _ _ = true; rfl) | simp only [go_sem, seval, Vc_bool, h1, h2, h3, Int.toNat_natCast, Int.natCast_nonneg, List.length_map, p1, p2, p3] | refine (GX_split rfl).2 ?_
      all_goals (clear hk ih ih' h1 h2 h3 h4 hd hL)
      all_goals clear p1 p2 p3 h0
      all_goals first | (simp only [List.find?_cons, candP]; simp_all [agreedB]; done) | (simp only [List.find?_cons, candP, agreedB] at *; grind)

theorem c198_pf (s : Station) (hC : s.tab.cells.length < 2 ^ 62) (hL : s.q.pk.length < 2 ^ 62) : ACalls prog 198 [.agg [.int .i64 s.tab.node, .int .i64 s.tab.len, .sl 6 (s.tab.cells.map TCell.enc), .int .i64 s.q.limit, .sl 6 (s.q.pk.map Packet.enc), .sl 5 (s.held.map Held.enc), .sl 2 (s.seen.map Seen.enc), .int .i64 s.list, .int .i64 s.seq, .int .i64 s.trying, .int .i64 s.tries, .int .i64 s.back, .int .i64 s.wait, .int .i64 s.seed]] [] (oPk (candidate s)) [] := by
  have e : candidate s = s.q.pk.find? (candP s) := rfl
  rw [e]
  refine calls_of hmx func198 (by kernel_rfl) (c := f198.body.getD .skip) rfl e198 (rs := [(.cell 2 true 6), (.t 3)]) (by kernel_rfl) (by simp [ntmps198]) ?_
  simp only [c198, argS]
  simp only [go_sem, seval]
  refine Lp.bkE0 (l198 s hC hL _ (fun zs z4 => ?_) s.q.pk [] rfl) (by rfl) rfl
  repeat' first | (with_reducible intro h; try simp only [h]) | (with_reducible refine And.intro ?_ ?_) | (change chk _ _ = true; rfl) | simp only [go_sem, seval, Vc_bool, z4] | refine (GX_split rfl).2 ?_
  refine Rt_pure ?_ (by rfl)
  simp only [retO, retOs, retO1, S, get_cons, Nat.reduceEqDiff, reduceIte, z4]
  rfl
end Go.Av.T
set_option maxRecDepth 100000
set_option maxHeartbeats 1000000
set_option linter.unusedSimpArgs false
set_option linter.unusedVariables false
namespace Go.Av.T
open Go Go.Av Go.Av.Sp Go.Proofs.Tryz
def c98 : SC := (.seq (.reg [(.box 2 31 (.t 0)), (.alc 4 170 [(.int .i64 0), (.int .i64 0), (.int .i64 0), (.int .i64 0), (.int .i64 0), (.int .i64 0), (.int .i64 0), (.int .i64 0), (.int .i64 0), (.int .i64 0), (.int .i64 0), (.int .i64 0), (.int .i64 0), (.str (ByteArray.mk #[])), (.int .i64 0), (.int .i64 0), (.int .i64 0), (.bool false), (.int .i64 0), (.int .i64 0), (.int .i64 0), (.int .i64 0), (.int .i64 0), (.int .i64 0), (.int .i64 0), (.str (ByteArray.mk #[])), (.bool false)])]) (.seq (.reg [(.fa 13 (.t 2) 0), (.ld 14 (.t 13) true 3), (.mv 15 (.t 1)), (.call (some 16) (.c (.func 31 [] [])) [(.t 14), (.t 15)]), (.mv 12 (.t 16)), (.ext 17 (.t 12) 0), (.ext 18 (.t 12) 1), (.alc 5 57 [(.int .i64 0), (.int .i64 0), (.int .i64 0), (.bool false), (.int .i64 0), (.int .i64 0)]), (.st (.t 5) (.t 17) 6), (.mv 6 (.t 18))]) (.seq (.seq (.reg [(.mv 19 (.t 6)), (.not 20 (.t 19))]) (.cond (.t 20) (.seq (.reg [(.bld 21 [(.int .i64 0), (.int .i64 0), (.int .i64 0), (.int .i64 0), (.int .i64 0), (.int .i64 0), (.int .i64 0), (.int .i64 0), (.int .i64 0), (.int .i64 0), (.int .i64 0), (.int .i64 0), (.int .i64 0), (.str (ByteArray.mk #[])), (.int .i64 0), (.int .i64 0), (.int .i64 0), (.bool false), (.int .i64 0), (.int .i64 0), (.int .i64 0), (.int .i64 0), (.int .i64 0), (.int .i64 0), (.int .i64 0), (.str (ByteArray.mk #[])), (.bool false)] []), (.st (.t 4) (.t 21) 27)]) .ret) .skip)) (.seq (.reg [(.ld 22 (.t 5) true 6), (.fa 23 (.t 5) 1), (.ld 24 (.t 23) false 1), (.bld 25 [(.int .i64 0), (.int .i64 0), (.int .i64 0), (.int .i64 0), (.int .i64 0), (.int .i64 0), (.int .i64 0), (.int .i64 0), (.int .i64 0), (.int .i64 0), (.int .i64 0), (.int .i64 0), (.int .i64 0), (.str (ByteArray.mk #[]))] [(0, 1, (.c (.int .i64 2))), (1, 1, (.t 24))]), (.bld 26 [(.int .i64 0), (.int .i64 0), (.int .i64 0), (.int .i64 0), (.int .i64 0), (.int .i64 0), (.int .i64 0), (.int .i64 0), (.int .i64 0), (.int .i64 0), (.int .i64 0), (.int .i64 0), (.int .i64 0), (.str (ByteArray.mk #[])), (.int .i64 0), (.int .i64 0), (.int .i64 0), (.bool false), (.int .i64 0), (.int .i64 0), (.int .i64 0), (.int .i64 0), (.int .i64 0), (.int .i64 0), (.int .i64 0), (.str (ByteArray.mk #[])), (.bool false)] [(14, 6, (.t 22)), (0, 14, (.t 25))]), (.alc 7 170 [(.int .i64 0), (.int .i64 0), (.int .i64 0), (.int .i64 0), (.int .i64 0), (.int .i64 0), (.int .i64 0), (.int .i64 0), (.int .i64 0), (.int .i64 0), (.int .i64 0), (.int .i64 0), (.int .i64 0), (.str (ByteArray.mk #[])), (.int .i64 0), (.int .i64 0), (.int .i64 0), (.bool false), (.int .i64 0), (.int .i64 0), (.int .i64 0), (.int .i64 0), (.int .i64 0), (.int .i64 0), (.int .i64 0), (.str (ByteArray.mk #[])), (.bool false)]), (.st (.t 7) (.t 26) 27)]) (.seq (.block 0 (.seq (.reg [(.fa 28 (.t 5) 2), (.ld 29 (.t 28) false 1), (.bin 30 .eql (.t 29) (.c (.int .i64 1))), (.mv 31 (.t 30)), (.g 31 true (some 32) (.fa 32 (.t 5) 3)), (.g 31 true (some 33) (.ld 33 (.t 32) false 1)), (.pick 34 (.t 31) (.t 33) (.c (.bool false))), (.mv 27 (.t 34))]) (.cond (.t 27) (.seq (.reg [(.ld 35 (.t 2) true 14), (.fa 36 (.t 5) 5), (.ld 37 (.t 36) false 1), (.call (some 38) (.c (.func 107 [] [])) [(.t 35), (.t 37)]), (.mv 8 (.t 38))]) (.seq (.seq (.regD [(.mv 39 (.t 8)), (.bin 40 .lss (.t 39) (.c (.int .i64 0))), (.mv 41 (.t 40)), (.g 41 false (some 42) (.mv 42 (.t 1))), (.g 41 false (some 43) (.fa 43 (.t 2) 5)), (.g 41 false (some 44) (.ld 44 (.t 43) false 1)), (.g 41 false (some 45) (.mv 45 (.t 8))), (.g 41 false (some 46) (.ia 46 (.t 44) (.t 45) 5)), (.g 41 false (some 47) (.fa 47 (.t 46) 2)), (.g 41 false (some 48) (.ld 48 (.t 47) false 1)), (.g 41 false (some 49) (.bin 49 .gtr (.t 42) (.t 48))), (.pick 50 (.t 41) (.c (.bool true)) (.t 49)), (.mv 51 (.t 50)), (.g 51 false (some 52) (.fa 52 (.t 2) 5)), (.g 51 false (some 53) (.ld 53 (.t 52) false 1)), (.g 51 false (some 54) (.mv 54 (.t 8))), (.g 51 false (some 55) (.ia 55 (.t 53) (.t 54) 5)), (.g 51 false (some 56) (.fa 56 (.t 55) 4)), (.g 51 false (some 57) (.ld 57 (.t 56) false 1)), (.g 51 false (some 58) (.fa 58 (.t 5) 4)), (.g 51 false (some 59) (.ld 59 (.t 58) false 1)), (.g 51 false (some 60) (.call (some 60) (.c (.func 195 [] [])) [(.t 57), (.t 59)])), (.pick 61 (.t 51) (.c (.bool true)) (.t 60))] []) (.cond (.t 61) (.seq (.reg [(.ld 62 (.t 5) true 6), (.bld 63 [(.int .i64 0), (.int .i64 0), (.int .i64 0), (.int .i64 0), (.int .i64 0), (.int .i64 0), (.int .i64 0), (.int .i64 0), (.int .i64 0), (.int .i64 0), (.int .i64 0), (.int .i64 0), (.int .i64 0), (.str (ByteArray.mk #[])), (.int .i64 0), (.int .i64 0), (.int .i64 0), (.bool false), (.int .i64 0), (.int .i64 0), (.int .i64 0), (.int .i64 0), (.int .i64 0), (.int .i64 0), (.int .i64 0), (.str (ByteArray.mk #[])), (.bool false)] [(14, 6, (.t 62))]), (.st (.t 4) (.t 63) 27)]) .ret) .skip)) (.seq (.reg [(.fa 64 (.t 2) 5), (.ld 65 (.t 64) false 1), (.mv 66 (.t 8)), (.ia 67 (.t 65) (.t 66) 5), (.ld 68 (.t 67) true 5), (.alc 9 100 [(.int .i64 0), (.int .i64 0), (.int .i64 0), (.str (ByteArray.mk #[])), .nil]), (.st (.t 9) (.t 68) 5)]) (.seq (.reg [(.fa 69 (.t 7) 0), (.fa 70 (.t 69) 0), (.st (.t 70) (.c (.int .i64 1)) 1)]) (.reg [(.fa 71 (.t 2) 0), (.fa 72 (.t 71) 0), (.ld 73 (.t 72) false 1), (.fa 74 (.t 5) 4), (.ld 75 (.t 74) false 1), (.fa 76 (.t 2) 7), (.ld 77 (.t 76) false 1), (.fa 78 (.t 9) 1), (.ld 79 (.t 78) false 1), (.bin 80 .rem (.t 79) (.c (.int .i64 256))), (.fa 81 (.t 9) 0), (.ld 82 (.t 81) false 1), (.fa 83 (.t 9) 1), (.ld 84 (.t 83) false 1), (.fa 85 (.t 9) 3), (.ld 86 (.t 85) false 1), (.bld 87 [(.int .i64 0), (.int .i64 0), (.int .i64 0), (.int .i64 0), (.int .i64 0), (.int .i64 0), (.int .i64 0), (.int .i64 0), (.int .i64 0), (.int .i64 0), (.int .i64 0), (.str (ByteArray.mk #[]))] [(0, 1, (.c (.int .i64 1))), (1, 1, (.t 73)), (2, 1, (.t 75)), (3, 1, (.t 77)), (4, 1, (.t 80)), (5, 1, (.t 82)), (6, 1, (.t 84)), (11, 1, (.t 86))]), (.fa 88 (.t 7) 0), (.fa 89 (.t 88) 2), (.st (.t 89) (.t 87) 12)]))))) (.seq (.reg [(.fa 91 (.t 5) 2), (.ld 92 (.t 91) false 1), (.bin 93 .eql (.t 92) (.c (.int .i64 2))), (.mv 94 (.t 93)), (.g 94 true (some 95) (.fa 95 (.t 5) 3)), (.g 94 true (some 96) (.ld 96 (.t 95) false 1)), (.pick 97 (.t 94) (.t 96) (.c (.bool false))), (.mv 90 (.t 97))]) (.cond (.t 90) (.seq (.reg [(.fa 99 (.t 2) 3), (.ld 100 (.t 99) true 2), (.fa 101 (.t 5) 4), (.ld 102 (.t 101) false 1), (.call (some 103) (.c (.func 196 [] [])) [(.t 100), (.t 102)]), (.mv 98 (.t 103)), (.ext 104 (.t 98) 0), (.ext 105 (.t 98) 1), (.alc 10 104 [(.int .i64 0), (.int .i64 0), (.int .i64 0), (.int .i64 0), (.int .i64 0), (.str (ByteArray.mk #[]))]), (.st (.t 10) (.t 104) 6), (.mv 11 (.t 105))]) (.seq (.seq (.reg [(.mv 106 (.t 11)), (.not 107 (.t 106))]) (.cond (.t 107) (.seq (.reg [(.ld 108 (.t 5) true 6), (.bld 109 [(.int .i64 0), (.int .i64 0), (.int .i64 0), (.int .i64 0), (.int .i64 0), (.int .i64 0), (.int .i64 0), (.int .i64 0), (.int .i64 0), (.int .i64 0), (.int .i64 0), (.int .i64 0), (.int .i64 0), (.str (ByteArray.mk #[])), (.int .i64 0), (.int .i64 0), (.int .i64 0), (.bool false), (.int .i64 0), (.int .i64 0), (.int .i64 0), (.int .i64 0), (.int .i64 0), (.int .i64 0), (.int .i64 0), (.str (ByteArray.mk #[])), (.bool false)] [(14, 6, (.t 108))]), (.st (.t 4) (.t 109) 27)]) .ret) .skip)) (.seq (.reg [(.ld 110 (.t 10) true 6), (.fa 111 (.t 7) 20), (.st (.t 111) (.t 110) 6), (.fa 112 (.t 7) 26), (.st (.t 112) (.c (.bool true)) 1)]) (.reg [(.ld 113 (.t 2) true 14), (.ld 114 (.t 10) true 6), (.call (some 115) (.c (.func 197 [] [])) [(.t 113), (.t 114)]), (.fa 116 (.t 7) 0), (.fa 117 (.t 116) 0), (.st (.t 117) (.c (.int .i64 1)) 1), (.fa 118 (.t 7) 0), (.fa 119 (.t 118) 2), (.st (.t 119) (.t 115) 12)])))) (.seq (.reg [(.fa 121 (.t 5) 2), (.ld 122 (.t 121) false 1), (.bin 123 .eql (.t 122) (.c (.int .i64 3))), (.mv 120 (.t 123))]) (.cond (.t 120) (.seq (.reg [(.ld 125 (.t 2) true 14), (.call (some 126) (.c (.func 198 [] [])) [(.t 125)]), (.mv 124 (.t 126)), (.ext 127 (.t 124) 0), (.ext 128 (.t 124) 1), (.fa 129 (.t 7) 20), (.st (.t 129) (.t 127) 6), (.fa 130 (.t 7) 26), (.st (.t 130) (.t 128) 1)]) (.seq (.reg [(.fa 131 (.t 7) 26), (.ld 132 (.t 131) false 1), (.mv 133 (.t 132)), (.g 133 true (some 134) (.fa 134 (.t 2) 12)), (.g 133 true (some 135) (.ld 135 (.t 134) false 1)), (.g 133 true (some 136) (.bin 136 .eql (.t 135) (.c (.int .i64 0)))), (.pick 137 (.t 133) (.t 136) (.c (.bool false)))]) (.cond (.t 137) (.reg [(.ld 138 (.t 2) true 14), (.fa 139 (.t 7) 20), (.ld 140 (.t 139) true 6), (.call (some 141) (.c (.func 197 [] [])) [(.t 138), (.t 140)]), (.fa 142 (.t 7) 0), (.fa 143 (.t 142) 0), (.st (.t 143) (.c (.int .i64 1)) 1), (.fa 144 (.t 7) 0), (.fa 145 (.t 144) 2), (.st (.t 145) (.t 141) 12)]) .skip))) .skip))))))) (.seq (.reg [(.ld 146 (.t 7) true 27), (.st (.t 4) (.t 146) 27)]) .ret))))))
theorem e98 : compC prog f98.ntmps (f98.body.getD .skip) = c98 := by kernel_rfl
def c26 : SC := (.seq (.reg [(.box 2 31 (.t 0)), (.alc 4 43 [(.int .i64 0), (.int .i64 0), (.int .i64 0), (.int .i64 0), (.int .i64 0), (.int .i64 0), (.int .i64 0), (.int .i64 0), (.int .i64 0), (.int .i64 0), (.int .i64 0), (.int .i64 0), (.int .i64 0), (.str (ByteArray.mk #[]))]), (.mv 5 (.c (.int .i64 0)))]) (.seq (.seq (.reg [(.ld 6 (.t 2) true 14), (.call (some 7) (.c (.func 23 [] [])) [(.t 6)]), (.bin 8 .neq (.t 7) (.c (.int .i64 0)))]) (.cond (.t 8) (.seq (.reg [(.bld 9 [(.int .i64 0), (.int .i64 0), (.int .i64 0), (.int .i64 0), (.int .i64 0), (.int .i64 0), (.int .i64 0), (.int .i64 0), (.int .i64 0), (.int .i64 0), (.int .i64 0), (.int .i64 0), (.int .i64 0), (.str (ByteArray.mk #[]))] []), (.st (.t 4) (.t 9) 14), (.mv 5 (.c (.int .i64 1)))]) .ret) .skip)) (.seq (.seq (.reg [(.mv 10 (.t 1)), (.bin 11 .lss (.t 10) (.c (.int .i64 0))), (.mv 12 (.t 11)), (.g 12 false (some 13) (.mv 13 (.t 1))), (.g 12 false (some 14) (.bin 14 .gtr (.t 13) (.c (.int .i64 109951162)))), (.pick 15 (.t 12) (.c (.bool true)) (.t 14))]) (.cond (.t 15) (.seq (.reg [(.bld 16 [(.int .i64 0), (.int .i64 0), (.int .i64 0), (.int .i64 0), (.int .i64 0), (.int .i64 0), (.int .i64 0), (.int .i64 0), (.int .i64 0), (.int .i64 0), (.int .i64 0), (.int .i64 0), (.int .i64 0), (.str (ByteArray.mk #[]))] []), (.st (.t 4) (.t 16) 14), (.mv 5 (.c (.int .i64 2)))]) .ret) .skip)) (.seq (.reg [(.ld 17 (.t 2) true 14), (.mv 18 (.t 1)), (.call (some 19) (.c (.func 98 [] [])) [(.t 17), (.t 18)]), (.fld 20 (.t 19) 0 true 14), (.st (.t 4) (.t 20) 14), (.mv 5 (.c (.int .i64 0)))]) .ret))))
theorem e26 : compC prog f26.ntmps (f26.body.getD .skip) = c26 := by kernel_rfl
def c4 : SC := (.seq (.reg [(.box 2 31 (.t 0)), (.mv 4 (.c (.bool false)))]) (.seq (.seq (.reg [(.call (some 9) (.c (.func 18 [] [])) []), (.not 10 (.t 9))]) (.cond (.t 10) (.seq (.reg [(.mv 4 (.c (.bool false)))]) .ret) .skip)) (.seq (.seq (.reg [(.ld 11 (.t 2) true 14), (.call (some 12) (.c (.func 19 [] [])) [(.t 11)]), (.not 13 (.t 12))]) (.cond (.t 13) (.seq (.reg [(.mv 4 (.c (.bool true)))]) .ret) .skip)) (.seq (.reg [(.ld 15 (.t 2) true 14), (.mv 16 (.t 1)), (.call (some 17) (.c (.func 25 [] [])) [(.t 15), (.t 16)]), (.mv 14 (.t 17)), (.ext 18 (.t 14) 0), (.ext 19 (.t 14) 1), (.alc 5 43 [(.int .i64 0), (.int .i64 0), (.int .i64 0), (.int .i64 0), (.int .i64 0), (.int .i64 0), (.int .i64 0), (.int .i64 0), (.int .i64 0), (.int .i64 0), (.int .i64 0), (.int .i64 0), (.int .i64 0), (.str (ByteArray.mk #[]))]), (.st (.t 5) (.t 18) 14), (.mv 6 (.t 19))]) (.seq (.reg [(.ld 21 (.t 2) true 14), (.mv 22 (.t 1)), (.call (some 23) (.c (.func 26 [] [])) [(.t 21), (.t 22)]), (.mv 20 (.t 23)), (.ext 24 (.t 20) 0), (.ext 25 (.t 20) 1), (.alc 7 43 [(.int .i64 0), (.int .i64 0), (.int .i64 0), (.int .i64 0), (.int .i64 0), (.int .i64 0), (.int .i64 0), (.int .i64 0), (.int .i64 0), (.int .i64 0), (.int .i64 0), (.int .i64 0), (.int .i64 0), (.str (ByteArray.mk #[]))]), (.st (.t 7) (.t 24) 14), (.mv 8 (.t 25))]) (.seq (.reg [(.ld 26 (.t 5) true 14), (.ld 27 (.t 7) true 14), (.binA 28 false [1, 1, 1, 1, 1, 1, 1, 1, 1, 1, 1, 1, 1, 3] (.t 26) (.t 27)), (.mv 29 (.t 28)), (.g 29 true (some 30) (.mv 30 (.t 6))), (.g 29 true (some 31) (.mv 31 (.t 8))), (.g 29 true (some 32) (.bin 32 .eql (.t 30) (.t 31))), (.pick 33 (.t 29) (.t 32) (.c (.bool false))), (.mv 4 (.t 33))]) .ret))))))
theorem e4 : compC prog f4.ntmps (f4.body.getD .skip) = c4 := by kernel_rfl
def plEnc (p : Plan) : List AVal := [.int .i64 p.act.kind, .int .i64 p.act.off, .int .i64 p.act.fr.kind, .int .i64 p.act.fr.src, .int .i64 p.act.fr.tgt, .int .i64 p.act.fr.list, .int .i64 p.act.fr.seq, .int .i64 p.act.fr.flow, .int .i64 p.act.fr.num, .int .i64 p.act.fr.err, .int .i64 p.act.fr.slot, .int .i64 p.act.fr.rank, .int .i64 p.act.fr.epoch, .str p.act.fr.data, .int .i64 p.cell.slot, .int .i64 p.cell.off, .int .i64 p.cell.kind, .bool p.cell.send, .int .i64 p.cell.peer, .int .i64 p.cell.flow, .int .i64 (p.pk.getD Packet.zero).id, .int .i64 (p.pk.getD Packet.zero).to, .int .i64 (p.pk.getD Packet.zero).pri, .int .i64 (p.pk.getD Packet.zero).born, .int .i64 (p.pk.getD Packet.zero).life, .str (p.pk.getD Packet.zero).data, .bool p.pk.isSome]
attribute [go_sem] plEnc
theorem c98_ok {s : Station} {slot : Int} (hB : StBd s) : ACalls prog 98 [.agg s.enc, .int .i64 slot] [] (.agg (plEnc (plan s slot))) [] := by
  obtain ⟨b1, b2, b3, b4, b5⟩ := hB
  have h31 := c31_pf s.tab slot b1
  have hm : ∀ (l : List Int) (x : Int), (l.any fun y => decide (y = x)) = true ↔ x ∈ l := by intro l x; simp [List.any_eq_true]
  refine calls_of hmx func98 (by kernel_rfl) (c := f98.body.getD .skip) rfl e98 (rs := [(.cell 4 true 27)]) (by kernel_rfl) (by simp [ntmps98]) ?_
  simp only [c98, argS]
  cases hc : tabAt s.tab slot with
  | none =>
    rw [hc] at h31
    have e : plan s slot = ⟨Action.zero, TCell.zero, none⟩ := by simp only [plan, hc]
    rw [e]
    repeat' first | refine CX_pure (h31) rfl rfl rfl rfl ?_ | refine GX_call (fun _ => (h31)) (by rfl) (by intro h; simp only [h]; rfl) (by rfl) (by rfl) ?_ | (with_reducible intro h; try simp only [h]) | (with_reducible refine And.intro ?_ ?_) | (change chk _ _ = true; rfl) | simp only [go_sem, seval, Vc_bool, Option.isSome_none] | refine (GX_split rfl).2 ?_
    exact Rt_pure (by rfl) (by rfl)
  | some c =>
    rw [hc] at h31
    simp only [Option.getD_some, Option.isSome_some] at h31
    have h198 := c198_pf s b1 b2
    have h196 := c196_pf s.q c.peer b2
    have h107 := c107_pf s c.flow b3
    by_cases h3 : c.kind = 3
    · have k1 : decide (c.kind = 1) = false := by simp [h3]
      have k2 : decide (c.kind = 2) = false := by simp [h3]
      have k3 : decide (c.kind = 3) = true := by simp [h3]
      cases hq : candidate s with
      | none =>
        rw [hq, oPk_none] at h198
        have e : plan s slot = ⟨⟨2, c.off, Frame.zero⟩, c, none⟩ := by simp [plan, hc, h3, hq]
        rw [e]
        repeat' first | refine CX_pure (h31) rfl rfl rfl rfl ?_ | refine CX_pure (h198) rfl rfl rfl rfl ?_ | refine GX_call (fun _ => (h31)) (by rfl) (by intro h; simp only [h]; rfl) (by rfl) (by rfl) ?_ | refine GX_call (fun _ => (h198)) (by rfl) (by intro h; simp only [h]; rfl) (by rfl) (by rfl) ?_ | (with_reducible intro h; try simp only [h]) | (with_reducible refine And.intro ?_ ?_) | (change chk _ _ = true; rfl) | simp only [go_sem, seval, Vc_bool, k1, k2, k3] | refine (GX_split rfl).2 ?_
        exact Rt_pure (by rfl) (by rfl)
      | some p =>
        rw [hq, oPk_some] at h198
        cases hw : decide (s.wait = 0)
        · have e : plan s slot = ⟨⟨2, c.off, Frame.zero⟩, c, some p⟩ := by simp [plan, hc, h3, hq, of_decide_eq_false hw]
          rw [e]
          repeat' first | refine CX_pure (h31) rfl rfl rfl rfl ?_ | refine CX_pure (h198) rfl rfl rfl rfl ?_ | refine GX_call (fun _ => (h31)) (by rfl) (by intro h; simp only [h]; rfl) (by rfl) (by rfl) ?_ | refine GX_call (fun _ => (h198)) (by rfl) (by intro h; simp only [h]; rfl) (by rfl) (by rfl) ?_ | (with_reducible intro h; try simp only [h]) | (with_reducible refine And.intro ?_ ?_) | (change chk _ _ = true; rfl) | simp only [go_sem, seval, Vc_bool, k1, k2, k3, hw] | refine (GX_split rfl).2 ?_
          exact Rt_pure (by rfl) (by rfl)
        · have e : plan s slot = ⟨⟨1, c.off, msgOf s p⟩, c, some p⟩ := by simp [plan, hc, h3, hq, of_decide_eq_true hw]
          rw [e]
          repeat' first | refine CX_pure (h31) rfl rfl rfl rfl ?_ | refine CX_pure (h198) rfl rfl rfl rfl ?_ | refine CX_pure (c197_ok (s := s) (p := p)) rfl rfl rfl rfl ?_ | refine GX_call (fun _ => (h31)) (by rfl) (by intro h; simp only [h]; rfl) (by rfl) (by rfl) ?_ | refine GX_call (fun _ => (h198)) (by rfl) (by intro h; simp only [h]; rfl) (by rfl) (by rfl) ?_ | refine GX_call (fun _ => (c197_ok (s := s) (p := p))) (by rfl) (by intro h; simp only [h]; rfl) (by rfl) (by rfl) ?_ | (with_reducible intro h; try simp only [h]) | (with_reducible refine And.intro ?_ ?_) | (change chk _ _ = true; rfl) | simp only [go_sem, seval, Vc_bool, k1, k2, k3, hw] | refine (GX_split rfl).2 ?_
          exact Rt_pure (by rfl) (by rfl)
    · have k3 : decide (c.kind = 3) = false := by simpa using h3
      cases hs : c.send
      · have e : plan s slot = ⟨⟨2, c.off, Frame.zero⟩, c, none⟩ := by simp [plan, hc, hs, h3]
        rw [e]
        cases k1 : decide (c.kind = 1) <;> cases k2 : decide (c.kind = 2)
        all_goals repeat' first | refine CX_pure (h31) rfl rfl rfl rfl ?_ | refine GX_call (fun _ => (h31)) (by rfl) (by intro h; simp only [h]; rfl) (by rfl) (by rfl) ?_ | (with_reducible intro h; try simp only [h]) | (with_reducible refine And.intro ?_ ?_) | (change chk _ _ = true; rfl) | simp only [go_sem, seval, Vc_bool, hs, k1, k2, k3] | refine (GX_split rfl).2 ?_
        all_goals exact Rt_pure (by rfl) (by rfl)
      · cases k1 : decide (c.kind = 1)
        · have g1 : ¬ c.kind = 1 := of_decide_eq_false k1
          cases k2 : decide (c.kind = 2)
          · have e : plan s slot = ⟨⟨2, c.off, Frame.zero⟩, c, none⟩ := by simp [plan, hc, hs, h3, g1, of_decide_eq_false k2]
            rw [e]
            repeat' first | refine CX_pure (h31) rfl rfl rfl rfl ?_ | refine GX_call (fun _ => (h31)) (by rfl) (by intro h; simp only [h]; rfl) (by rfl) (by rfl) ?_ | (with_reducible intro h; try simp only [h]) | (with_reducible refine And.intro ?_ ?_) | (change chk _ _ = true; rfl) | simp only [go_sem, seval, Vc_bool, hs, k1, k2, k3] | refine (GX_split rfl).2 ?_
            exact Rt_pure (by rfl) (by rfl)
          · have g2 : c.kind = 2 := of_decide_eq_true k2
            cases hq : qFirst s.q c.peer with
            | none =>
              rw [hq, oPk_none] at h196
              have e : plan s slot = ⟨Action.zero, c, none⟩ := by simp [plan, hc, hs, g2, hq]
              rw [e]
              repeat' first | refine CX_pure (h31) rfl rfl rfl rfl ?_ | refine CX_pure (h196) rfl rfl rfl rfl ?_ | refine GX_call (fun _ => (h31)) (by rfl) (by intro h; simp only [h]; rfl) (by rfl) (by rfl) ?_ | refine GX_call (fun _ => (h196)) (by rfl) (by intro h; simp only [h]; rfl) (by rfl) (by rfl) ?_ | (with_reducible intro h; try simp only [h]) | (with_reducible refine And.intro ?_ ?_) | (change chk _ _ = true; rfl) | simp only [go_sem, seval, Vc_bool, hs, k1, k2, k3] | refine (GX_split rfl).2 ?_
              exact Rt_pure (by rfl) (by rfl)
            | some p =>
              rw [hq, oPk_some] at h196
              have e : plan s slot = ⟨⟨1, c.off, msgOf s p⟩, c, some p⟩ := by simp [plan, hc, hs, g2, hq]
              rw [e]
              repeat' first | refine CX_pure (h31) rfl rfl rfl rfl ?_ | refine CX_pure (h196) rfl rfl rfl rfl ?_ | refine CX_pure (c197_ok (s := s) (p := p)) rfl rfl rfl rfl ?_ | refine GX_call (fun _ => (h31)) (by rfl) (by intro h; simp only [h]; rfl) (by rfl) (by rfl) ?_ | refine GX_call (fun _ => (h196)) (by rfl) (by intro h; simp only [h]; rfl) (by rfl) (by rfl) ?_ | refine GX_call (fun _ => (c197_ok (s := s) (p := p))) (by rfl) (by intro h; simp only [h]; rfl) (by rfl) (by rfl) ?_ | (with_reducible intro h; try simp only [h]) | (with_reducible refine And.intro ?_ ?_) | (change chk _ _ = true; rfl) | simp only [go_sem, seval, Vc_bool, hs, k1, k2, k3] | refine (GX_split rfl).2 ?_
              exact Rt_pure (by rfl) (by rfl)
        · have g1 : c.kind = 1 := of_decide_eq_true k1
          rcases idxFrom_find (fun h : Held => decide (h.flow = c.flow)) s.held with ⟨h1, h2⟩ | ⟨i, x, h1, h2, h3', h4, h5⟩
          · have e1 : heldIdx s.held c.flow = -1 := h1
            have e2 : heldOf s.held c.flow = none := h2
            rw [e1] at h107
            have e : plan s slot = ⟨Action.zero, c, none⟩ := by simp [plan, hc, hs, g1, e2]
            rw [e]
            repeat' first | refine CX_pure (h31) rfl rfl rfl rfl ?_ | refine CX_pure (h107) rfl rfl rfl rfl ?_ | refine GX_call (fun _ => (h31)) (by rfl) (by intro h; simp only [h]; rfl) (by rfl) (by rfl) ?_ | refine GX_call (fun _ => (h107)) (by rfl) (by intro h; simp only [h]; rfl) (by rfl) (by rfl) ?_ | (with_reducible intro h; try simp only [h]) | (with_reducible refine And.intro ?_ ?_) | (change chk _ _ = true; rfl) | simp only [go_sem, seval, Vc_bool, hs, k1] | refine (GX_split rfl).2 ?_
            exact Rt_pure (by rfl) (by rfl)
          · have e1 : heldIdx s.held c.flow = i := h3'
            have e2 : heldOf s.held c.flow = some x := h4
            have e3 : (s.held.map Held.enc)[i]? = some x.enc := by rw [List.getElem?_map, h1]; rfl
            have e4 : decide ((i : Int) < 0) = false := by simp
            have hx : x.acked.length < 2 ^ 62 := b4 x (List.mem_of_getElem? h1)
            rw [e1] at h107
            cases hw : decide (x.upto < slot)
            · have g : ¬ x.upto < slot := of_decide_eq_false hw
              cases ha : x.acked.any fun y => decide (y = c.peer)
              · have g' : c.peer ∉ x.acked := fun h => by rw [(hm _ _).2 h] at ha; cases ha
                have e : plan s slot = ⟨⟨1, c.off, dataOf s x c.peer⟩, c, none⟩ := by simp [plan, hc, hs, g1, e2, g, g']
                rw [e]
                repeat' first | refine CX_pure (h31) rfl rfl rfl rfl ?_ | refine CX_pure (h107) rfl rfl rfl rfl ?_ | refine CX_pure (c195_ok (l := x.acked) (x := c.peer) hx) rfl rfl rfl rfl ?_ | refine GX_call (fun _ => (h31)) (by rfl) (by intro h; simp only [h]; rfl) (by rfl) (by rfl) ?_ | refine GX_call (fun _ => (h107)) (by rfl) (by intro h; simp only [h]; rfl) (by rfl) (by rfl) ?_ | refine GX_call (fun _ => (c195_ok (l := x.acked) (x := c.peer) hx)) (by rfl) (by intro h; simp only [h]; rfl) (by rfl) (by rfl) ?_ | (with_reducible intro h; try simp only [h]) | (with_reducible refine And.intro ?_ ?_) | (change chk _ _ = true; rfl) | simp only [go_sem, seval, Vc_bool, hs, k1, e3, e4, hw, ha, Int.toNat_natCast, Int.natCast_nonneg] | refine (GX_split rfl).2 ?_
                · exact Rt_pure (by rfl) (by rfl)
              · have g' : c.peer ∈ x.acked := (hm _ _).1 ha
                have e : plan s slot = ⟨Action.zero, c, none⟩ := by simp [plan, hc, hs, g1, e2, g']
                rw [e]
                repeat' first | refine CX_pure (h31) rfl rfl rfl rfl ?_ | refine CX_pure (h107) rfl rfl rfl rfl ?_ | refine CX_pure (c195_ok (l := x.acked) (x := c.peer) hx) rfl rfl rfl rfl ?_ | refine GX_call (fun _ => (h31)) (by rfl) (by intro h; simp only [h]; rfl) (by rfl) (by rfl) ?_ | refine GX_call (fun _ => (h107)) (by rfl) (by intro h; simp only [h]; rfl) (by rfl) (by rfl) ?_ | refine GX_call (fun _ => (c195_ok (l := x.acked) (x := c.peer) hx)) (by rfl) (by intro h; simp only [h]; rfl) (by rfl) (by rfl) ?_ | (with_reducible intro h; try simp only [h]) | (with_reducible refine And.intro ?_ ?_) | (change chk _ _ = true; rfl) | simp only [go_sem, seval, Vc_bool, hs, k1, e3, e4, hw, ha, Int.toNat_natCast, Int.natCast_nonneg] | refine (GX_split rfl).2 ?_
                exact Rt_pure (by rfl) (by rfl)
            · have g : x.upto < slot := of_decide_eq_true hw
              have e : plan s slot = ⟨Action.zero, c, none⟩ := by simp [plan, hc, hs, g1, e2, g]
              rw [e]
              repeat' first | refine CX_pure (h31) rfl rfl rfl rfl ?_ | refine CX_pure (h107) rfl rfl rfl rfl ?_ | refine CX_pure (c195_ok (l := x.acked) (x := c.peer) hx) rfl rfl rfl rfl ?_ | refine GX_call (fun _ => (h31)) (by rfl) (by intro h; simp only [h]; rfl) (by rfl) (by rfl) ?_ | refine GX_call (fun _ => (h107)) (by rfl) (by intro h; simp only [h]; rfl) (by rfl) (by rfl) ?_ | refine GX_call (fun _ => (c195_ok (l := x.acked) (x := c.peer) hx)) (by rfl) (by intro h; simp only [h]; rfl) (by rfl) (by rfl) ?_ | (with_reducible intro h; try simp only [h]) | (with_reducible refine And.intro ?_ ?_) | (change chk _ _ = true; rfl) | simp only [go_sem, seval, Vc_bool, hs, k1, e3, e4, hw, Int.toNat_natCast, Int.natCast_nonneg] | refine (GX_split rfl).2 ?_
              exact Rt_pure (by rfl) (by rfl)
theorem c26_ok {s : Station} {slot : Int} (hB : StBd s) : ACalls prog 26 [.agg s.enc, .int .i64 slot] [] (.tup [.agg (actSt s slot).1.enc, .int .i64 (actSt s slot).2]) [] := by
  refine calls_of hmx func26 (by kernel_rfl) (c := f26.body.getD .skip) rfl e26 (rs := [(.cell 4 true 14), (.t 5)]) (by kernel_rfl) (by simp [ntmps26]) ?_
  simp only [c26, argS]
  repeat' first | refine CX_pure (c23_ok (s := s) hB) rfl rfl rfl rfl ?_ | refine CX_pure (c98_ok (s := s) (slot := slot) hB) rfl rfl rfl rfl ?_ | refine GX_call (fun _ => (c23_ok (s := s) hB)) (by rfl) (by intro h; simp only [h]; rfl) (by rfl) (by rfl) ?_ | refine GX_call (fun _ => (c98_ok (s := s) (slot := slot) hB)) (by rfl) (by intro h; simp only [h]; rfl) (by rfl) (by rfl) ?_ | (with_reducible intro h; try simp only [h]) | (with_reducible refine And.intro ?_ ?_) | (change chk _ _ = true; rfl) | simp only [go_sem, seval, Vc_bool] | refine (GX_split rfl).2 ?_
  · have e : actSt s slot = (Action.zero, 1) := by
      have h1 : slotErr s slot = 1 := by grind [slotErr, stErr]
      simp [actSt, h1]
    rw [e]
    exact Rt_pure (by rfl) (by rfl)
  · have e : actSt s slot = (Action.zero, 2) := by
      have h1 : slotErr s slot = 2 := by grind [slotErr, stErr]
      simp [actSt, h1]
    rw [e]
    exact Rt_pure (by rfl) (by rfl)
  · have e : actSt s slot = ((plan s slot).act, 0) := by
      have h1 : slotErr s slot = 0 := by grind [slotErr, stErr]
      simp [actSt, h1]
    rw [e]
    exact Rt_pure (by rfl) (by rfl)

end Go.Av.T
set_option maxRecDepth 100000
set_option maxHeartbeats 1000000
set_option linter.unusedSimpArgs false
set_option linter.unusedVariables false
namespace Go.Av.T
open Go Go.Av Go.Av.Sp Go.Proofs.Tryz
theorem few_cl {s : Station} (h : stFew s = true) : ClBd s := by
  simp only [stFew, tabFew, qFew, heldFew, fewCells, Bool.and_eq_true, Bool.or_eq_true, decide_eq_true_eq, List.all_eq_true] at h
  obtain ⟨⟨⟨h1, h2⟩, h3⟩, h4⟩ := h
  refine ⟨by omega, by omega, by omega, by omega, fun x hx => ?_⟩
  have := (h3.2 x hx).2
  omega
theorem dec_self (n : Int) : decide (n = n) = true := by simp
theorem bytes_self (n : ByteArray) : decide (n = n) = true := by simp
end Go.Av.T
set_option maxRecDepth 100000
set_option maxHeartbeats 1000000
set_option linter.unusedSimpArgs false
set_option linter.unusedVariables false
namespace Go.Av.T
open Go Go.Av Go.Av.Sp Go.Proofs.Tryz
theorem c192n_ok {s : Station} {slot : Int} {c : TCell} (hs : c.send = false) : ACalls prog 192 [.ptr 0 0 0 0] [.cells 0 21 176 true [wEncN s 1 slot c], .cells 1 2 160 false (s.seen.map Seen.enc)] (.agg (Action.enc ⟨2, 0, Frame.zero⟩)) [.cells 0 21 176 true [wEncN s 1 slot c], .cells 1 2 160 false (s.seen.map Seen.enc)] := by
  rcases c with ⟨cs, co, ck, cd, cp, cf⟩
  obtain rfl : cd = false := hs
  refine calls_of hmx func192 (by kernel_rfl) (c := f192.body.getD .skip) rfl e192 (rs := [(.cell 2 true 14)]) (by kernel_rfl) (by simp [ntmps192]) ?_
  simp only [c192, argS]
  simp only [go_sem, seval]
  exact Rt_T (H := [_, _]) _ (by rfl) (by rfl) (by rw [List.all_cons, List.all_cons, List.all_nil, Bool.and_true, lt_seen, Bool.and_true]; rfl) (Nat.le_refl _)
theorem c194n_ok {s : Station} {slot : Int} {c : TCell} (hC : s.tab.cells.length < 2 ^ 62) (hL : s.q.pk.length < 2 ^ 62) (hw : candidate s = none ∨ s.wait ≠ 0) : ACalls prog 194 [.ptr 0 0 0 0] [.cells 0 21 176 true [wEncN s 1 slot c], .cells 1 2 160 false (s.seen.map Seen.enc)] (.agg (Action.enc ⟨2, 0, Frame.zero⟩)) [.cells 0 21 176 true [wEncN s 1 slot c], .cells 1 2 160 false (s.seen.map Seen.enc)] := by
  have h104 := c104n_ok (s := s) (slot := slot) (c := c) hC hL
  refine calls_of hmx func194 (by kernel_rfl) (c := f194.body.getD .skip) rfl e194 (rs := [(.cell 2 true 14)]) (by kernel_rfl) (by simp [ntmps194]) ?_
  simp only [c194, argS]
  cases hc : candidate s with
  | none =>
    rw [hc] at h104
    repeat' first | refine CX_rd [0, 1] (h104) (by rfl) (by rfl) (by rfl) (by rw [List.all_cons, List.all_cons, List.all_nil, Bool.and_true, lt_seen, Bool.and_true]; rfl) (by rfl) (by decide) (by rfl) (by rw [List.map_cons, List.map_cons, List.map_nil, List.map_cons, List.map_cons, List.map_nil, ren_seen]; rfl) (by rfl) ?_ | (with_reducible intro h; try simp only [h]) | (with_reducible refine And.intro ?_ ?_) | (change chk _ _ = true; rfl) | simp only [go_sem, seval, Vc_bool, oPk_none] | refine (GX_split rfl).2 ?_
    exact Rt_T (H := [_, _]) _ (by rfl) (by rfl) (by rw [List.all_cons, List.all_cons, List.all_nil, Bool.and_true, lt_seen, Bool.and_true]; rfl) (Nat.le_refl _)
  | some p =>
    rw [hc] at h104
    have hw' : decide (s.wait = 0) = false := by simpa [hc] using hw
    repeat' first | refine CX_rd [0, 1] (h104) (by rfl) (by rfl) (by rfl) (by rw [List.all_cons, List.all_cons, List.all_nil, Bool.and_true, lt_seen, Bool.and_true]; rfl) (by rfl) (by decide) (by rfl) (by rw [List.map_cons, List.map_cons, List.map_nil, List.map_cons, List.map_cons, List.map_nil, ren_seen]; rfl) (by rfl) ?_ | (with_reducible intro h; try simp only [h]) | (with_reducible refine And.intro ?_ ?_) | (change chk _ _ = true; rfl) | simp only [go_sem, seval, Vc_bool, oPk_some, hw'] | refine (GX_split rfl).2 ?_
    exact Rt_T (H := [_, _]) _ (by rfl) (by rfl) (by rw [List.all_cons, List.all_cons, List.all_nil, Bool.and_true, lt_seen, Bool.and_true]; rfl) (Nat.le_refl _)
theorem c97n_1 {s : Station} {slot : Int} {c : TCell} (hk : c.kind = 1) (hs : c.send = false) :
    ACalls prog 97 [.ptr 0 0 0 0] [.cells 0 21 176 true [wEncN s 1 slot c], .cells 1 2 160 false (s.seen.map Seen.enc)] (.agg (Action.enc ⟨2, c.off, Frame.zero⟩)) [.cells 0 21 176 true [wEncN s 1 slot c], .cells 1 2 160 false (s.seen.map Seen.enc)] := by
  have hg := c192n_ok (s := s) (slot := slot) hs
  rcases c with ⟨cs, co, ck, cd, cp, cf⟩
  obtain rfl : ck = 1 := hk
  obtain rfl : cd = false := hs
  refine calls_of hmx func97 (by kernel_rfl) (c := f97.body.getD .skip) rfl e97 (rs := [(.cell 2 true 14)]) (by kernel_rfl) (by simp [ntmps97]) ?_
  simp only [c97, argS]
  simp only [go_sem, seval]
  repeat' first | refine CX_rd [0, 1] (hg) (by rfl) (by rfl) (by rfl) (by rw [List.all_cons, List.all_cons, List.all_nil, Bool.and_true, lt_seen, Bool.and_true]; rfl) (by rfl) (by decide) (by rfl) (by rw [List.map_cons, List.map_cons, List.map_nil, List.map_cons, List.map_cons, List.map_nil, ren_seen]; rfl) (by rfl) ?_ | (with_reducible intro h; try simp only [h]) | (with_reducible refine And.intro ?_ ?_) | (change chk _ _ = true; rfl) | simp only [go_sem, seval, Vc_bool, mapSet_cons, mapSet_nil, mapAt_cons, mapAt_nil] | refine (GX_split rfl).2 ?_
  exact Rt_T (H := [_, _]) _ (by rfl) (by rfl) (by rw [List.all_cons, List.all_cons, List.all_nil, Bool.and_true, lt_seen, Bool.and_true]; rfl) (Nat.le_refl _)
theorem c97n_3 {s : Station} {slot : Int} {c : TCell} (hC : s.tab.cells.length < 2 ^ 62) (hL : s.q.pk.length < 2 ^ 62) (hk : c.kind = 3) (hw : candidate s = none ∨ s.wait ≠ 0) :
    ACalls prog 97 [.ptr 0 0 0 0] [.cells 0 21 176 true [wEncN s 1 slot c], .cells 1 2 160 false (s.seen.map Seen.enc)] (.agg (Action.enc ⟨2, c.off, Frame.zero⟩)) [.cells 0 21 176 true [wEncN s 1 slot c], .cells 1 2 160 false (s.seen.map Seen.enc)] := by
  have hg := c194n_ok (s := s) (slot := slot) (c := c) hC hL hw
  rcases c with ⟨cs, co, ck, cd, cp, cf⟩
  obtain rfl : ck = 3 := hk
  refine calls_of hmx func97 (by kernel_rfl) (c := f97.body.getD .skip) rfl e97 (rs := [(.cell 2 true 14)]) (by kernel_rfl) (by simp [ntmps97]) ?_
  simp only [c97, argS]
  simp only [go_sem, seval]
  repeat' first | refine CX_rd [0, 1] (hg) (by rfl) (by rfl) (by rfl) (by rw [List.all_cons, List.all_cons, List.all_nil, Bool.and_true, lt_seen, Bool.and_true]; rfl) (by rfl) (by decide) (by rfl) (by rw [List.map_cons, List.map_cons, List.map_nil, List.map_cons, List.map_cons, List.map_nil, ren_seen]; rfl) (by rfl) ?_ | (with_reducible intro h; try simp only [h]) | (with_reducible refine And.intro ?_ ?_) | (change chk _ _ = true; rfl) | simp only [go_sem, seval, Vc_bool, mapSet_cons, mapSet_nil, mapAt_cons, mapAt_nil] | refine (GX_split rfl).2 ?_
  exact Rt_T (H := [_, _]) _ (by rfl) (by rfl) (by rw [List.all_cons, List.all_cons, List.all_nil, Bool.and_true, lt_seen, Bool.and_true]; rfl) (Nat.le_refl _)

end Go.Av.T
set_option maxRecDepth 100000
set_option maxHeartbeats 1000000
set_option linter.unusedSimpArgs false
set_option linter.unusedVariables false
namespace Go.Av.T
open Go Go.Av Go.Av.Sp Go.Proofs.Tryz
theorem c28_sleep {s : Station} {slot : Int} {r : Sp.Result} {a : Action} (hB : ClBd s) (hE : slotErr s slot = 0) (hA : ACalls prog 97 [.ptr 0 0 0 0] [.cells 0 21 176 true [wEnc s slot (cellAt s slot)]] (.agg a.enc) [.cells 0 21 176 true [wEnc s slot (cellAt s slot)]])
    (ha : a.kind = 0) : ACalls prog 28 [.agg s.enc, .int .i64 slot, .agg r.enc] [] (.tup [.agg s.enc, .agg Up.zero.enc, .int .i64 0]) [] := by
  rcases a with ⟨ak, ao, ⟨fk, f2, f3, f4, f5, f6, f7, f8, f9, f10, f11, f12⟩⟩
  obtain rfl : ak = 0 := ha
  refine calls_of hmx func28 (by kernel_rfl) (c := f28.body.getD .skip) rfl e28 (rs := [(.cell 6 true 14), (.cell 7 true 14), (.t 8)]) (by kernel_rfl) (by simp [ntmps28]) ?_
  simp only [c28, argS]
  repeat' first | (with_reducible intro h; try simp only [h]) | (with_reducible refine And.intro ?_ ?_) | (change chk _ _ = true; rfl) | simp only [go_sem, seval, Vc_bool] | refine (GX_split rfl).2 ?_
  refine CX_new (r1 := .tup [.ptr 4 0 0 0, .int .i64 0]) (c96_ok hB hE) rfl rfl rfl (by rfl) (by rfl) ?_
  repeat' first | refine CX_rd [4] (hA) (by rfl) (by rfl) (by rfl) (by rfl) (by rfl) (by decide) (by rfl) (by rfl) (by rfl) ?_ | (with_reducible intro h; try simp only [h]) | (with_reducible refine And.intro ?_ ?_) | (change chk _ _ = true; rfl) | simp only [go_sem, seval, Vc_bool] | refine (GX_split rfl).2 ?_
  exact Rt_pure (by rfl) (by rfl)
theorem c28_data0 {s : Station} {slot : Int} {r : Sp.Result} {a : Action} (hB : ClBd s) (hE : slotErr s slot = 0) (hA : ACalls prog 97 [.ptr 0 0 0 0] [.cells 0 21 176 true [wEnc s slot (cellAt s slot)]] (.agg a.enc) [.cells 0 21 176 true [wEnc s slot (cellAt s slot)]])
    (ha : a.kind = 1) (hf : a.fr.kind = 1) (hr : r.acked = false) : ACalls prog 28 [.agg s.enc, .int .i64 slot, .agg r.enc] [] (.tup [.agg s.enc, .agg Up.zero.enc, .int .i64 0]) [] := by
  rcases a with ⟨ak, ao, ⟨fk, f2, f3, f4, f5, f6, f7, f8, f9, f10, f11, f12⟩⟩
  obtain rfl : ak = 1 := ha
  obtain rfl : fk = 1 := hf
  refine calls_of hmx func28 (by kernel_rfl) (c := f28.body.getD .skip) rfl e28 (rs := [(.cell 6 true 14), (.cell 7 true 14), (.t 8)]) (by kernel_rfl) (by simp [ntmps28]) ?_
  simp only [c28, argS]
  repeat' first | (with_reducible intro h; try simp only [h]) | (with_reducible refine And.intro ?_ ?_) | (change chk _ _ = true; rfl) | simp only [go_sem, seval, Vc_bool] | refine (GX_split rfl).2 ?_
  refine CX_new (r1 := .tup [.ptr 4 0 0 0, .int .i64 0]) (c96_ok hB hE) rfl rfl rfl (by rfl) (by rfl) ?_
  repeat' first | refine CX_rd [4] (hA) (by rfl) (by rfl) (by rfl) (by rfl) (by rfl) (by decide) (by rfl) (by rfl) (by rfl) ?_ | (with_reducible intro h; try simp only [h]) | (with_reducible refine And.intro ?_ ?_) | (change chk _ _ = true; rfl) | simp only [go_sem, seval, Vc_bool, hr] | refine (GX_split rfl).2 ?_
  exact Rt_pure (by rfl) (by rfl)
/-- The station that listens: in shared cells it waits. -/
def waited (s : Station) (c : TCell) : Station := if c.kind = 3 ∧ (candidate s).isSome = true then { s with wait := s.wait - 1 } else s
theorem c28_lis {s : Station} {slot : Int} {r : Sp.Result} {a : Action} (hB : ClBd s) (hE : slotErr s slot = 0) (hw : 0 ≤ s.wait ∧ s.wait ≤ 31) (hA : ACalls prog 97 [.ptr 0 0 0 0] [.cells 0 21 176 true [wEnc s slot (cellAt s slot)]] (.agg a.enc) [.cells 0 21 176 true [wEnc s slot (cellAt s slot)]])
    (ha : a.kind = 2) (hh : r.heard = false) : ACalls prog 28 [.agg s.enc, .int .i64 slot, .agg r.enc] [] (.tup [.agg (waited s (cellAt s slot)).enc, .agg Up.zero.enc, .int .i64 0]) [] := by
  have h96 := c96_ok hB hE
  have h104 := c104_ok (slot := slot) (c := cellAt s slot) hB.st.1 hB.st.2.1
  have w1 : IntKind.i64.wrap (s.wait - 1) = s.wait - 1 := wrap_ok (by omega) (by omega)
  revert hA h96 h104
  generalize cellAt s slot = c
  rcases c with ⟨cs, co, ck, cd, cp, cf⟩
  intro hA h96 h104
  rcases a with ⟨ak, ao, ⟨fk, f2, f3, f4, f5, f6, f7, f8, f9, f10, f11, f12⟩⟩
  obtain rfl : ak = 2 := ha
  refine calls_of hmx func28 (by kernel_rfl) (c := f28.body.getD .skip) rfl e28 (rs := [(.cell 6 true 14), (.cell 7 true 14), (.t 8)]) (by kernel_rfl) (by simp [ntmps28]) ?_
  simp only [c28, argS]
  cases hc : candidate s with
  | none =>
    rw [hc] at h104
    have e : waited s ⟨cs, co, ck, cd, cp, cf⟩ = s := by simp [waited, hc]
    rw [e]
    repeat' first | (with_reducible intro h; try simp only [h]) | (with_reducible refine And.intro ?_ ?_) | (change chk _ _ = true; rfl) | simp only [go_sem, seval, Vc_bool] | refine (GX_split rfl).2 ?_
    refine CX_new (r1 := .tup [.ptr 4 0 0 0, .int .i64 0]) h96 rfl rfl rfl (by rfl) (by rfl) ?_
    repeat' first | refine CX_rd [4] (hA) (by rfl) (by rfl) (by rfl) (by rfl) (by rfl) (by decide) (by rfl) (by rfl) (by rfl) ?_ | (with_reducible intro h; try simp only [h]) | (with_reducible refine And.intro ?_ ?_) | (change chk _ _ = true; rfl) | simp only [go_sem, seval, Vc_bool] | refine (GX_split rfl).2 ?_
    repeat' first | refine CX_rd [4] (h104) (by rfl) (by rfl) (by rfl) (by rfl) (by rfl) (by decide) (by rfl) (by rfl) (by rfl) ?_ | (with_reducible intro h; try simp only [h]) | (with_reducible refine And.intro ?_ ?_) | (change chk _ _ = true; rfl) | simp only [go_sem, seval, Vc_bool, oPk_none, hh] | refine (GX_split rfl).2 ?_
    exact Rt_pure (by rfl) (by rfl)
  | some p =>
    rw [hc] at h104
    cases k3 : decide (ck = 3)
    · have e : waited s ⟨cs, co, ck, cd, cp, cf⟩ = s := by simp [waited, hc, of_decide_eq_false k3]
      rw [e]
      repeat' first | (with_reducible intro h; try simp only [h]) | (with_reducible refine And.intro ?_ ?_) | (change chk _ _ = true; rfl) | simp only [go_sem, seval, Vc_bool] | refine (GX_split rfl).2 ?_
      refine CX_new (r1 := .tup [.ptr 4 0 0 0, .int .i64 0]) h96 rfl rfl rfl (by rfl) (by rfl) ?_
      repeat' first | refine CX_rd [4] (hA) (by rfl) (by rfl) (by rfl) (by rfl) (by rfl) (by decide) (by rfl) (by rfl) (by rfl) ?_ | (with_reducible intro h; try simp only [h]) | (with_reducible refine And.intro ?_ ?_) | (change chk _ _ = true; rfl) | simp only [go_sem, seval, Vc_bool] | refine (GX_split rfl).2 ?_
      repeat' first | refine CX_rd [4] (h104) (by rfl) (by rfl) (by rfl) (by rfl) (by rfl) (by decide) (by rfl) (by rfl) (by rfl) ?_ | (with_reducible intro h; try simp only [h]) | (with_reducible refine And.intro ?_ ?_) | (change chk _ _ = true; rfl) | simp only [go_sem, seval, Vc_bool, oPk_some, hh, k3] | refine (GX_split rfl).2 ?_
      exact Rt_pure (by rfl) (by rfl)
    · have e : waited s ⟨cs, co, ck, cd, cp, cf⟩ = { s with wait := s.wait - 1 } := by simp [waited, hc, of_decide_eq_true k3]
      rw [e]
      repeat' first | (with_reducible intro h; try simp only [h]) | (with_reducible refine And.intro ?_ ?_) | (change chk _ _ = true; rfl) | simp only [go_sem, seval, Vc_bool] | refine (GX_split rfl).2 ?_
      refine CX_new (r1 := .tup [.ptr 4 0 0 0, .int .i64 0]) h96 rfl rfl rfl (by rfl) (by rfl) ?_
      repeat' first | refine CX_rd [4] (hA) (by rfl) (by rfl) (by rfl) (by rfl) (by rfl) (by decide) (by rfl) (by rfl) (by rfl) ?_ | (with_reducible intro h; try simp only [h]) | (with_reducible refine And.intro ?_ ?_) | (change chk _ _ = true; rfl) | simp only [go_sem, seval, Vc_bool] | refine (GX_split rfl).2 ?_
      repeat' first | refine CX_rd [4] (h104) (by rfl) (by rfl) (by rfl) (by rfl) (by rfl) (by decide) (by rfl) (by rfl) (by rfl) ?_ | (with_reducible intro h; try simp only [h]) | (with_reducible refine And.intro ?_ ?_) | (change chk _ _ = true; rfl) | simp only [go_sem, seval, Vc_bool, oPk_some, hh, k3, w1] | refine (GX_split rfl).2 ?_
      exact Rt_pure (by rfl) (by rfl)
theorem c28_heard3 {s s' : Station} {slot : Int} {r : Sp.Result} {a : Action} {up : Sp.Up} {p : Packet} (hB : ClBd s) (hE : slotErr s slot = 0) (hw : 0 ≤ s.wait ∧ s.wait ≤ 31) (hA : ACalls prog 97 [.ptr 0 0 0 0] [.cells 0 21 176 true [wEncN s 1 slot (cellAt s slot)], .cells 1 2 160 false (s.seen.map Seen.enc)] (.agg a.enc) [.cells 0 21 176 true [wEncN s 1 slot (cellAt s slot)], .cells 1 2 160 false (s.seen.map Seen.enc)])
    (ha : a.kind = 2) (hk : (cellAt s slot).kind = 3) (hc : candidate s = some p) (hh : r.heard = true) (h105 : ACalls prog 105 [.ptr 0 0 0 0, .agg r.fr.enc] [.cells 0 21 176 true [wEncN { s with wait := s.wait - 1 } 1 slot (cellAt s slot)], .cells 1 2 160 false (s.seen.map Seen.enc)] (.agg up.enc) [.cells 0 21 176 true [wEnc s' slot (cellAt s slot)], .dead]) :
    ACalls prog 28 [.agg s.enc, .int .i64 slot, .agg r.enc] [] (.tup [.agg s'.enc, .agg up.enc, .int .i64 0]) [] := by
  have h96 := c96n_ok hB hE
  have h104 := c104n_ok (slot := slot) (c := cellAt s slot) hB.st.1 hB.st.2.1
  have w1 : IntKind.i64.wrap (s.wait - 1) = s.wait - 1 := wrap_ok (by omega) (by omega)
  revert hA h105 h96 h104 hk
  generalize cellAt s slot = c
  rcases c with ⟨cs, co, ck, cd, cp, cf⟩
  intro hA (hk : ck = 3) h105 h96 h104
  subst hk
  rcases a with ⟨ak, ao, ⟨fk, f2, f3, f4, f5, f6, f7, f8, f9, f10, f11, f12⟩⟩
  obtain rfl : ak = 2 := ha
  have hcl : ([.cells 0 21 176 true [wEncN s 1 slot ⟨cs, co, 3, cd, cp, cf⟩], .cells 1 2 160 false (s.seen.map Seen.enc)] : Heap).all (ltO 2) = true := by rw [List.all_cons, List.all_cons, List.all_nil, Bool.and_true, lt_seen, Bool.and_true]; rfl
  rw [hc] at h104
  refine calls_of hmx func28 (by kernel_rfl) (c := f28.body.getD .skip) rfl e28 (rs := [(.cell 6 true 14), (.cell 7 true 14), (.t 8)]) (by kernel_rfl) (by simp [ntmps28]) ?_
  simp only [c28, argS]
  repeat' first | (with_reducible intro h; try simp only [h]) | (with_reducible refine And.intro ?_ ?_) | (change chk _ _ = true; rfl) | simp only [go_sem, seval, Vc_bool] | refine (GX_split rfl).2 ?_
  refine CX_w [] [] (r1 := .tup [.ptr 4 0 0 0, .int .i64 0]) (H1 := [_, _, _, _, .cells 0 21 176 true [wEncN s 5 slot ⟨cs, co, 3, cd, cp, cf⟩], .cells 1 2 160 false (s.seen.map Seen.enc)]) h96 (by rfl) (by rfl) (by rfl) (by rfl) (by rfl) (by decide) (by rfl) (by rfl) (Nat.zero_le _) trivial (by rfl) (by rfl) (by show _ ++ List.map _ [_, _] = _; rw [List.map_cons, List.map_cons, List.map_nil, ren_seen]; rfl) ?_
  repeat' first | refine CX_rd [4, 5] (hA) (by rfl) (by rfl) (by rfl) (by rw [List.all_cons, List.all_cons, List.all_nil, Bool.and_true, lt_seen, Bool.and_true]; rfl) (by rfl) (by decide) (by rfl) (by rw [List.map_cons, List.map_cons, List.map_nil, List.map_cons, List.map_cons, List.map_nil, ren_seen]; rfl) (by rfl) ?_ | (with_reducible intro h; try simp only [h]) | (with_reducible refine And.intro ?_ ?_) | (change chk _ _ = true; rfl) | simp only [go_sem, seval, Vc_bool] | refine (GX_split rfl).2 ?_
  repeat' first | refine CX_rd [4, 5] (h104) (by rfl) (by rfl) (by rfl) (by rw [List.all_cons, List.all_cons, List.all_nil, Bool.and_true, lt_seen, Bool.and_true]; rfl) (by rfl) (by decide) (by rfl) (by rw [List.map_cons, List.map_cons, List.map_nil, List.map_cons, List.map_cons, List.map_nil, ren_seen]; rfl) (by rfl) ?_ | (with_reducible intro h; try simp only [h]) | (with_reducible refine And.intro ?_ ?_) | (change chk _ _ = true; rfl) | simp only [go_sem, seval, Vc_bool, oPk_some, hh, w1] | refine (GX_split rfl).2 ?_
  refine CX_put2 4 5 h105 (by rfl) (by rfl) (by rfl) (by rfl) lt_seen (by rfl) (by rfl) (by decide) (by rfl) ren_seen.symm (by rfl) (by rfl) (by rfl) ?_
  repeat' first | (with_reducible intro h; try simp only [h]) | (with_reducible refine And.intro ?_ ?_) | (change chk _ _ = true; rfl) | simp only [go_sem, seval, Vc_bool] | refine (GX_split rfl).2 ?_
  exact Rt_pure (by rfl) (by rfl)

end Go.Av.T
set_option maxRecDepth 100000
set_option maxHeartbeats 1000000
set_option linter.unusedSimpArgs false
set_option linter.unusedVariables false
namespace Go.Av.T
open Go Go.Av Go.Av.Sp Go.Proofs.Tryz
/-! Plain laws of a station. -/
theorem two_pow {b : Int} (h : 0 ≤ b ∧ b ≤ 5) : (2 : Int) ^ b.toNat ≤ 32 := by
  have hk' : b = 0 ∨ b = 1 ∨ b = 2 ∨ b = 3 ∨ b = 4 ∨ b = 5 := by omega
  rcases hk' with h | h | h | h | h | h <;> rw [h] <;> decide
theorem st_bd {s : Station} (h : stOk s = true) : (0 ≤ s.seq ∧ s.seq ≤ 255) ∧ (0 ≤ s.tries ∧ s.tries ≤ 3) ∧ (0 ≤ s.back ∧ s.back ≤ 5) ∧ (0 ≤ s.wait ∧ s.wait ≤ 31) ∧ (0 ≤ s.seed ∧ s.seed ≤ 2147483647) := by
  simp only [stOk, wi, Bool.and_eq_true, decide_eq_true_eq] at h
  obtain ⟨⟨⟨⟨⟨⟨⟨⟨⟨h1, h2⟩, h3⟩, h4⟩, h5⟩, h6⟩, h7⟩, h8⟩, h9⟩, h10⟩ := h
  have hp := two_pow h8
  refine ⟨h7, ?_, h8, by omega, h10⟩
  simp only [tryOk, Bool.or_eq_true, Bool.and_eq_true, decide_eq_true_eq] at h5
  omega
theorem chain_pair {α : Type} {ok : α → Bool} {lt : α → α → Bool} {f : α → Int} (hlt : ∀ a b, lt a b = true → f a < f b) : ∀ (xs : List α) (p : Option α), chain ok lt p xs = true → xs.Pairwise (fun a b => f a < f b) ∧ ∀ q, p = some q → ∀ x ∈ xs, f q < f x
  | [], p, _ => ⟨.nil, by simp⟩
  | x :: xs, none, h => by
    simp only [chain, Bool.and_eq_true] at h
    obtain ⟨i1, i2⟩ := chain_pair hlt xs (some x) h.2
    exact ⟨List.pairwise_cons.2 ⟨fun y hy => i2 x rfl y hy, i1⟩, by simp⟩
  | x :: xs, some p, h => by
    simp only [chain, Bool.and_eq_true] at h
    obtain ⟨i1, i2⟩ := chain_pair hlt xs (some x) h.2
    refine ⟨List.pairwise_cons.2 ⟨fun y hy => i2 x rfl y hy, i1⟩, fun q hq y hy => ?_⟩
    cases hq
    have h3 : f p < f x := hlt p x h.1.2
    rcases List.mem_cons.1 hy with rfl | hy
    · exact h3
    · exact Int.lt_trans h3 (i2 x rfl y hy)
theorem seen_srt {s : Station} (h : stOk s = true) : s.seen.Pairwise (fun a b => a.node < b.node) := by
  simp only [stOk, Bool.and_eq_true] at h
  exact (chain_pair (f := fun x : Seen => x.node) (fun a b h => of_decide_eq_true h) _ _ h.1.1.1.1.1.1.2).1
theorem qck_nodup : ∀ (ps done : List Packet), qck done ps = 0 → ps.Pairwise (fun a b => a.id ≠ b.id) ∧ ∀ x ∈ ps, ∀ y ∈ done, y.id ≠ x.id
  | [], _, _ => ⟨.nil, by simp⟩
  | p :: ps, done, h => by
    simp only [qck] at h
    split at h
    · rename_i h1; exact absurd h h1
    · split at h
      · cases h
      · rename_i h2
        have h2' : ∀ y ∈ done, y.id ≠ p.id := fun y hy e => h2 (List.any_eq_true.2 ⟨y, hy, by simpa using e⟩)
        have h3 : qck (done ++ [p]) ps = 0 := by
          cases hl : done.getLast? with
          | none => simpa [hl] using h
          | some z =>
            rw [hl] at h
            by_cases hc : p.pri < z.pri
            · simp [hc] at h
            · simpa [hc] using h
        obtain ⟨i1, i2⟩ := qck_nodup ps (done ++ [p]) h3
        refine ⟨List.pairwise_cons.2 ⟨fun y hy => i2 y hy p (by simp), i1⟩, fun x hx y hy => ?_⟩
        rcases List.mem_cons.1 hx with rfl | hx
        · exact h2' y hy
        · exact i2 x hx y (by simp [hy])
theorem q_nodup {q : Queue} (h : qErr q = 0) : q.pk.Pairwise (fun a b => a.id ≠ b.id) := by
  unfold qErr at h
  split at h
  · cases h
  · split at h
    · cases h
    · exact (qck_nodup _ _ h).1
theorem without_erase : ∀ {l : List Packet}, l.Pairwise (fun a b => a.id ≠ b.id) → ∀ {i : Nat} {p : Packet}, l[i]? = some p → qWithout l p.id = l.eraseIdx i
  | [], _, i, p, h => by simp at h
  | x :: xs, hp, i, p, h => by
    obtain ⟨h1, h2⟩ := List.pairwise_cons.1 hp
    cases i with
    | zero =>
      simp only [List.getElem?_cons_zero, Option.some.injEq] at h
      subst h
      have : List.filter (fun y : Packet => !decide (y.id = x.id)) xs = xs := List.filter_eq_self.2 fun y hy => by have := h1 y hy; simp; exact fun e => this e.symm
      simp [qWithout, this]
    | succ i =>
      rw [List.getElem?_cons_succ] at h
      have hx : x.id ≠ p.id := h1 p (List.mem_of_getElem? h)
      have ih := without_erase h2 h
      simp only [qWithout] at ih ⊢
      rw [List.filter_cons_of_pos (by simpa using hx), ih, List.eraseIdx_cons_succ]
theorem leave_at {s : Station} {i : Nat} {p : Packet} (h0 : qErr s.q = 0) (hi : s.q.pk[i]? = some p) : leave s p.id = leaveAt s i := by
  simp only [leave, leaveAt, without_erase (q_nodup h0) hi]
theorem sent_at {s : Station} {i : Nat} {p : Packet} {b acked : Bool} (h0 : qErr s.q = 0) (hi : s.q.pk[i]? = some p) : sentPk s b p acked = sentAt s b p i acked := by
  simp only [sentPk, sentAt, leave_at h0 hi]
theorem tw_len {α : Type} (p : α → Bool) : ∀ (l : List α), l.take (l.takeWhile p).length = l.takeWhile p ∧ l.drop (l.takeWhile p).length = l.dropWhile p
  | [] => ⟨rfl, rfl⟩
  | x :: xs => by
    obtain ⟨h1, h2⟩ := tw_len p xs
    by_cases h : p x = true
    · simp [List.takeWhile_cons, List.dropWhile_cons, h, h1, h2]
    · simp [List.takeWhile_cons, List.dropWhile_cons, h]
/-- A place for an element in a sorted list: it takes the place of its like, or is put in. -/
def putSrt {α : Type} (f : α → Int) (l : List α) (x : α) : List α := if bsHit (fun y : α => cmp (f y) (f x)) l = true then l.set (bsLo (fun y : α => cmp (f y) (f x)) l) x else l.take (bsLo (fun y : α => cmp (f y) (f x)) l) ++ x :: l.drop (bsLo (fun y : α => cmp (f y) (f x)) l)
def putFil {α : Type} (f : α → Int) (l : List α) (x : α) : List α := l.takeWhile (fun y => decide (f y < f x)) ++ x :: (l.dropWhile (fun y => decide (f y < f x))).filter fun y => !decide (f y = f x)
theorem put_srt {α : Type} {f : α → Int} {x : α} : ∀ {l : List α}, l.Pairwise (fun a b => f a < f b) → putSrt f l x = putFil f l x
  | [], _ => rfl
  | y :: ys, hp => by
    obtain ⟨h1, h2⟩ := List.pairwise_cons.1 hp
    have ih := put_srt (x := x) h2
    by_cases c : f y < f x
    · have e1 : bsLo (fun y : α => cmp (f y) (f x)) (y :: ys) = bsLo (fun y : α => cmp (f y) (f x)) ys + 1 := by rw [bsLo, List.takeWhile_cons, if_pos (by simpa [cmp_lt] using c)]; rfl
      have e2 : bsHit (fun y : α => cmp (f y) (f x)) (y :: ys) = bsHit (fun y : α => cmp (f y) (f x)) ys := by rw [bsHit, e1, List.getElem?_cons_succ]; rfl
      have e3 : putSrt f (y :: ys) x = y :: putSrt f ys x := by
        simp only [putSrt, e1, e2, List.set_cons_succ, List.take_succ_cons, List.drop_succ_cons]
        split <;> rfl
      rw [e3, ih]
      simp [putFil, List.takeWhile_cons, List.dropWhile_cons, c]
    · have e1 : bsLo (fun y : α => cmp (f y) (f x)) (y :: ys) = 0 := by rw [bsLo, List.takeWhile_cons, if_neg (by simpa [cmp_lt] using c)]; rfl
      have e2 : bsHit (fun y : α => cmp (f y) (f x)) (y :: ys) = decide (cmp (f y) (f x) = 0) := by rw [bsHit, e1, List.getElem?_cons_zero]
      have e4 : List.filter (fun z : α => !decide (f z = f x)) ys = ys := List.filter_eq_self.2 fun z hz => by have := h1 z hz; simp; omega
      simp only [putSrt, e1, e2]
      by_cases c2 : f y = f x
      · simp [putFil, cmp_eq, c2, List.takeWhile_cons, List.dropWhile_cons, e4]
      · simp [putFil, cmp_eq, c2, c, List.takeWhile_cons, List.dropWhile_cons, e4]
/-- The messages held, with one more acknowledged. -/
def ackH (l : List Held) (flow peer : Int) : List Held := match heldOf l flow with | some h => l.set (heldIdx l flow).toNat { h with acked := insertInt h.acked peer } | none => l
/-- The station behind a slot, and what it got. -/
def doneP (s : Station) (slot : Int) (r : Sp.Result) : Station × Sp.Up :=
  let x := plan s slot
  if x.act.kind = 1 then
    match x.pk with
    | some p => (sentPk s (decide (x.cell.kind = 3)) p r.acked, Up.zero)
    | none => (if r.acked = true then { s with held := ackH s.held x.cell.flow x.cell.peer } else s, Up.zero)
  else if x.act.kind = 2 then
    let s' := match x.pk with
      | some _ => { s with wait := s.wait - 1 }
      | none => s
    if r.heard = true then gotFr s' r.fr else (s', Up.zero)
  else (s, Up.zero)
def doneE (s : Station) (slot : Int) (r : Sp.Result) : Station × Sp.Up × Int :=
  if slotErr s slot ≠ 0 then (Station.zero, Up.zero, slotErr s slot) else ((doneP s slot r).1, (doneP s slot r).2, 0)

end Go.Av.T
set_option maxRecDepth 100000
set_option maxHeartbeats 1000000
set_option linter.unusedSimpArgs false
set_option linter.unusedVariables false
namespace Go.Av.T
open Go Go.Av Go.Av.Sp Go.Proofs.Tryz
/-! The held messages in an object of their own, and the nodes that acknowledged one of them. -/
def hEncR (id : Nat) (h : Held) : List AVal := [.int .i64 h.flow, .int .i64 h.frame, .int .i64 h.upto, .str h.data, .row id 1 0 h.acked.length]
def heldR (l : List Held) (j id : Nat) (x : Held) : List (List AVal) := (l.map Held.enc).set j (hEncR id x)
section
variable {l : List Held} {j id : Nat} {x : Held}
theorem heldR_len : (heldR l j id x).length = l.length := by simp [heldR]
theorem heldR_j (hx : l[j]? = some x) : (heldR l j id x)[j]? = some (hEncR id x) := by
  have hj := (List.getElem?_eq_some_iff.1 hx).1
  simp [heldR, hj]
theorem heldR_ne {k : Nat} {y : Held} (h : l[k]? = some y) (hne : k ≠ j) : (heldR l j id x)[k]? = some y.enc := by
  rw [heldR, List.getElem?_set_ne (fun e => hne e.symm), List.getElem?_map, h]; rfl
theorem heldR_set {a : List Int} (hx : l[j]? = some x) : (heldR l j id x).set j [.int .i64 x.flow, .int .i64 x.frame, .int .i64 x.upto, .str x.data, .sl 1 (a.map eI)] = (l.set j { x with acked := a }).map Held.enc := by
  rw [heldR, List.set_set, List.map_set]; rfl
theorem ren_heldR {r : Nat → Nat} {q : Nat} {fu : Bool} : renO r (.cells q 5 100 fu (heldR l j id x)) = .cells q 5 100 fu (heldR l j (r id) x) := by
  have h : renO r (.cells q 5 100 fu (l.map Held.enc)) = .cells q 5 100 fu (l.map Held.enc) := renO_lt (m := 0) (fun id h => by omega) (lt_map fun _ => by rfl)
  simp only [renO, AObj.cells.injEq, true_and] at h ⊢
  rw [heldR, List.map_set, h]
  rfl
theorem lt_heldR {m q : Nat} {fu : Bool} (hm : id < m) : ltO m (.cells q 5 100 fu (heldR l j id x)) = true := by
  simp only [ltO]
  refine List.all_eq_true.2 fun e he => ?_
  rcases List.mem_or_eq_of_mem_set he with h | h
  · have : (l.map Held.enc).all (ltL m) = true := lt_map fun _ => by rfl
    exact List.all_eq_true.1 this e h
  · subst h
    simp [hEncR, ltL, ltv, hm]
end
theorem lt_ack {l : List Int} {m q : Nat} {fu : Bool} : ltO m (.cells q 1 3 fu (l.map eI)) = true := ltO_mono (Nat.zero_le m) (lt_map fun _ => by rfl)
theorem ren_ack {l : List Int} {r : Nat → Nat} {q : Nat} {fu : Bool} : renO r (.cells q 1 3 fu (l.map eI)) = .cells q 1 3 fu (l.map eI) := renO_lt (m := 0) (fun id h => by omega) lt_ack
attribute [go_sem] hEncR heldR_len
def wEncH (s : Station) (id : Nat) (slot : Int) (c : TCell) : List AVal := [.int .i64 s.tab.node, .int .i64 s.tab.len, .sl 6 (s.tab.cells.map TCell.enc), .int .i64 s.q.limit, .sl 6 (s.q.pk.map Packet.enc), .row id 1 0 s.held.length, .sl 2 (s.seen.map Seen.enc), .int .i64 s.list, .int .i64 s.seq, .int .i64 s.trying, .int .i64 s.tries, .int .i64 s.back, .int .i64 s.wait, .int .i64 s.seed, .int .i64 slot, .int .i64 c.slot, .int .i64 c.off, .int .i64 c.kind, .bool c.send, .int .i64 c.peer, .int .i64 c.flow]
attribute [go_sem] wEncH Station.encH
theorem l152h2 (s : Station) (j : Nat) (x : Held) (hL : s.held.length < 2 ^ 62) (hA : ∀ h ∈ s.held, h.acked.length * 8 ≤ 140737488355328) (hr : AVal) (Hr : Heap) (k' : List It)
    (hk : ∀ zs, get zs 1 = .ptr 0 0 0 0 → get zs 2 = .ptr 1 0 0 0 → V prog f152.ntmps 0 (Ret [.cell 2 true 14] 0 hr Hr) k' zs [.cells 0 14 31 true [Station.encH s 2 s.held.length], .cells 0 14 31 true [zSt], .cells 1 5 100 false (heldR s.held j 3 x), .cells 1 1 3 false (x.acked.map eI)]) :
    ∀ (rest done : List Held), s.held = done ++ rest → j < done.length →
    Lp prog f152.ntmps 0 (Ret [.cell 2 true 14] 0 hr Hr) c152L1 (.blk 0 :: k') [(1, .ptr 0 0 0 0), (2, .ptr 1 0 0 0), (26, .int .i64 s.held.length), (27, .int .i64 done.length)] [.cells 0 14 31 true [Station.encH s 2 s.held.length], .cells 0 14 31 true [zSt], .cells 1 5 100 false (heldR s.held j 3 x), .cells 1 1 3 false (x.acked.map eI)] := by
  intro rest
  induction rest with
  | nil =>
    intro done hd hj
    refine Lp.of_eq hmx c152L1.eq_1 ?_
    have h1 := rg_end hd
    simp only [go_sem, seval, h1, List.length_map]
    exact hk _ (by rfl) (by rfl)
  | cons c rest ih =>
    intro done hd hj
    refine Lp.of_eq hmx c152L1.eq_1 ?_
    obtain ⟨h1, h2, h3, h4⟩ := rg_hd Held.enc hd hL
    have h2' : (heldR s.held j 3 x)[done.length]? = some (Held.enc c) := heldR_ne (by rw [hd]; simp) (by omega)
    have hAc := hA c (by rw [hd]; simp)
    have ih' := ih _ h4 (by simp; omega)
    have hlt : done.length < s.held.length := by rw [hd]; simp
    simp only [go_sem, seval, h1, h2', h3, Int.toNat_natCast, Int.natCast_nonneg, hlt, Nat.zero_add]
    refine ⟨Int.ofNat_lt.2 hlt, ?_⟩
    refine CX_pure (c153_ok hAc) rfl rfl rfl rfl ?_
    have hse : (heldR s.held j 3 x).set done.length [.int .i64 c.flow, .int .i64 c.frame, .int .i64 c.upto, .str c.data, .sl 1 (c.acked.map eI)] = heldR s.held j 3 x := set_same h2'
    simp only [go_sem, seval, h1, h2', h3, Int.toNat_natCast, Int.natCast_nonneg, hlt, Nat.zero_add, hse]
    refine ⟨Int.ofNat_lt.2 hlt, by rfl, ?_⟩
    exact Lp.bkE0 ih' (by rfl) rfl
theorem l152h (s : Station) (j : Nat) (x : Held) (hx : s.held[j]? = some x) (hL : s.held.length < 2 ^ 62) (hA : ∀ h ∈ s.held, h.acked.length * 8 ≤ 140737488355328) (hr : AVal) (Hr : Heap) (k' : List It)
    (hk : ∀ zs, get zs 1 = .ptr 0 0 0 0 → get zs 2 = .ptr 1 0 0 0 → V prog f152.ntmps 0 (Ret [.cell 2 true 14] 0 hr Hr) k' zs [.cells 0 14 31 true [Station.encH s 2 s.held.length], .cells 0 14 31 true [zSt], .cells 1 5 100 false (heldR s.held j 3 x), .cells 1 1 3 false (x.acked.map eI)]) :
    ∀ (rest done : List Held), s.held = done ++ rest → done.length ≤ j →
    Lp prog f152.ntmps 0 (Ret [.cell 2 true 14] 0 hr Hr) c152L1 (.blk 0 :: k') [(1, .ptr 0 0 0 0), (2, .ptr 1 0 0 0), (26, .int .i64 s.held.length), (27, .int .i64 done.length)] [.cells 0 14 31 true [Station.encH s 2 s.held.length], .cells 0 14 31 true [zSt], .cells 1 5 100 false (s.held.map Held.enc)] := by
  have hjl := (List.getElem?_eq_some_iff.1 hx).1
  intro rest
  induction rest with
  | nil =>
    intro done hd hj
    have : s.held.length = done.length := by rw [hd]; simp
    omega
  | cons c rest ih =>
    intro done hd hj
    refine Lp.of_eq hmx c152L1.eq_1 ?_
    obtain ⟨h1, h2, h3, h4⟩ := rg_hd Held.enc hd hL
    have hAc := hA c (by rw [hd]; simp)
    have hlt : done.length < s.held.length := by rw [hd]; simp
    have hc : s.held[done.length]? = some c := by rw [hd]; simp
    simp only [go_sem, seval, h1, h2, h3, Int.toNat_natCast, Int.natCast_nonneg, List.length_map, hlt, Nat.zero_add]
    refine ⟨Int.ofNat_lt.2 hlt, ?_⟩
    rcases Nat.lt_or_eq_of_le hj with hj' | hj'
    · have ih' := ih _ h4 (by simp; omega)
      refine CX_pure (c153_ok hAc) rfl rfl rfl rfl ?_
      have hse : (s.held.map Held.enc).set done.length [.int .i64 c.flow, .int .i64 c.frame, .int .i64 c.upto, .str c.data, .sl 1 (c.acked.map eI)] = s.held.map Held.enc := set_same h2
      simp only [go_sem, seval, h1, h2, h3, Int.toNat_natCast, Int.natCast_nonneg, List.length_map, hlt, Nat.zero_add, hse]
      refine ⟨Int.ofNat_lt.2 hlt, by rfl, ?_⟩
      exact Lp.bkE0 ih' (by rfl) rfl
    · have hcx : c = x := by rw [hj', hx] at hc; injection hc with hc; exact hc.symm
      subst hcx
      have l2 := l152h2 s j c hL hA hr Hr k' hk rest (done ++ [c]) h4 (by simp; omega)
      refine CX_new (r1 := .row 3 1 0 c.acked.length) (c153w_ok hAc) rfl rfl rfl (by rw [List.all_cons, List.all_nil, Bool.and_true]; exact lt_ack) (by rfl) ?_
      have hse : (s.held.map Held.enc).set done.length [.int .i64 c.flow, .int .i64 c.frame, .int .i64 c.upto, .str c.data, .row 3 1 0 c.acked.length] = heldR s.held j 3 c := by rw [hj']; rfl
      simp only [go_sem, seval, h1, h2, h3, Int.toNat_natCast, Int.natCast_nonneg, List.length_map, hlt, Nat.zero_add, hse]
      refine ⟨Int.ofNat_lt.2 hlt, by rfl, ?_⟩
      exact Lp.bkE0 l2 (by rfl) rfl
/-- Clone, of which the held messages are wanted for writing, and the nodes that acknowledged one of them. -/
theorem c152h_ok {s : Station} {j : Nat} {x : Held} (hB : ClBd s) (hx : s.held[j]? = some x) : ACalls prog 152 [.agg s.enc] [] (.agg (Station.encH s 0 s.held.length)) [.cells 1 5 100 false (heldR s.held j 1 x), .cells 1 1 3 false (x.acked.map eI)] := by
  obtain ⟨b1, b2, b3, b4, b5⟩ := hB
  refine calls_of hmx func152 (by kernel_rfl) (c := f152.body.getD .skip) rfl e152 (rs := [(.cell 2 true 14)]) (by kernel_rfl) (by simp [ntmps152]) ?_
  simp only [c152, argS]
  simp only [go_sem, seval]
  repeat' first | refine CX_pure (c82_ok b1) rfl rfl rfl rfl ?_ | refine GX_call (fun _ => (c82_ok b1)) (by rfl) (by intro h; simp only [h]; rfl) (by rfl) (by rfl) ?_ | (with_reducible intro h; try simp only [h]) | (with_reducible refine And.intro ?_ ?_) | (change chk _ _ = true; rfl) | simp only [go_sem, seval, Vc_bool] | refine (GX_split rfl).2 ?_
  repeat' first | refine CX_pure (c260_ok b2) rfl rfl rfl rfl ?_ | refine GX_call (fun _ => (c260_ok b2)) (by rfl) (by intro h; simp only [h]; rfl) (by rfl) (by rfl) ?_ | (with_reducible intro h; try simp only [h]) | (with_reducible refine And.intro ?_ ?_) | (change chk _ _ = true; rfl) | simp only [go_sem, seval, Vc_bool] | refine (GX_split rfl).2 ?_
  repeat' first | (with_reducible intro h; try simp only [h]) | (with_reducible refine And.intro ?_ ?_) | (change chk _ _ = true; rfl) | simp only [go_sem, seval, Vc_bool] | refine (GX_split rfl).2 ?_
  refine CX_new (r1 := .row 2 1 0 s.held.length) (c261w_ok b3) rfl rfl rfl (by rw [List.all_cons, List.all_nil, Bool.and_true]; exact lt_map (xs := s.held) fun _ => by rfl) (by rfl) ?_
  repeat' first | (with_reducible intro h; try simp only [h]) | (with_reducible refine And.intro ?_ ?_) | (change chk _ _ = true; rfl) | simp only [go_sem, seval, Vc_bool] | refine (GX_split rfl).2 ?_
  repeat' first | refine CX_pure (c262_ok b4) rfl rfl rfl rfl ?_ | refine GX_call (fun _ => (c262_ok b4)) (by rfl) (by intro h; simp only [h]; rfl) (by rfl) (by rfl) ?_ | (with_reducible intro h; try simp only [h]) | (with_reducible refine And.intro ?_ ?_) | (change chk _ _ = true; rfl) | simp only [go_sem, seval, Vc_bool] | refine (GX_split rfl).2 ?_
  refine Lp.bkE0 (l152h s j x hx (by omega) b5 _ _ _ (fun zs z1 z2 => ?_) s.held [] rfl (Nat.zero_le _)) (by rfl) rfl
  simp only [go_sem, seval, z1, z2, zSt]
  refine Rt_sel [2, 3] (r0 := .agg (Station.encH s 2 s.held.length)) ?_ (by rfl) (by rfl) ?_ (by rfl) (by decide) ?_ (Nat.zero_le _) (by rfl)
  · simp only [retO, retO1, S, get_cons, Nat.reduceEqDiff, reduceIte, z2]; rfl
  · rw [List.all_cons, List.all_cons, List.all_nil, Bool.and_true, lt_ack, Bool.and_true]; exact lt_heldR (show 1 < 2 from Nat.lt_succ_self 1)
  · rw [List.map_cons, List.map_cons, List.map_nil, List.map_cons, List.map_cons, List.map_nil, ren_heldR, ren_ack]; rfl
theorem all_h {s : Station} {j : Nat} {x : Held} {slot : Int} {c : TCell} : ([.cells 0 21 176 true [wEncH s 1 slot c], .cells 1 5 100 false (heldR s.held j 2 x), .cells 1 1 3 false (x.acked.map eI)] : Heap).all (ltO 3) = true := by
  rw [List.all_cons, List.all_cons, List.all_cons, List.all_nil, Bool.and_true, lt_ack, Bool.and_true, lt_heldR (by decide), Bool.and_true]; rfl
theorem c96h_ok {s : Station} {slot : Int} {j : Nat} {x : Held} (hB : ClBd s) (hE : slotErr s slot = 0) (hx : s.held[j]? = some x) : ACalls prog 96 [.agg s.enc, .int .i64 slot] [] (.tup [.ptr 0 0 0 0, .int .i64 0]) [.cells 0 21 176 true [wEncH s 1 slot (cellAt s slot)], .cells 1 5 100 false (heldR s.held j 2 x), .cells 1 1 3 false (x.acked.map eI)] := by
  have hcl := c152h_ok hB hx
  refine calls_of hmx func96 (by kernel_rfl) (c := f96.body.getD .skip) rfl e96 (rs := [(.t 4), (.t 5)]) (by kernel_rfl) (by simp [ntmps96]) ?_
  simp only [c96, argS]
  simp only [go_sem, seval]
  repeat' first | refine CX_pure (c22_pf s hB.st) rfl rfl rfl rfl ?_ | refine CX_pure c81_ok rfl rfl rfl rfl ?_ | refine GX_call (fun _ => (c22_pf s hB.st)) (by rfl) (by intro h; simp only [h]; rfl) (by rfl) (by rfl) ?_ | refine GX_call (fun _ => c81_ok) (by rfl) (by intro h; simp only [h]; rfl) (by rfl) (by rfl) ?_ | (with_reducible intro h; try simp only [h]) | (with_reducible refine And.intro ?_ ?_) | (change chk _ _ = true; rfl) | simp only [go_sem, seval, Vc_bool] | refine (GX_split rfl).2 ?_
  · exact absurd hE (by grind [slotErr, stErr])
  · exact absurd hE (by grind [slotErr, stErr, wi])
  · refine CX_w [] [] (r1 := .agg (Station.encH s 1 s.held.length)) (H1 := [_, .cells 1 5 100 false (heldR s.held j 2 x), .cells 1 1 3 false (x.acked.map eI)]) hcl (by rfl) (by rfl) (by rfl) (by rfl) (by rfl) (by decide) (by rfl) (by rfl) (Nat.zero_le _) trivial (by rfl) (by rfl) (by show _ ++ List.map _ [_, _] = _; rw [List.map_cons, List.map_cons, List.map_nil, ren_heldR, ren_ack]; rfl) ?_
    repeat' first | refine CX_pure (c191_at hB.st.1) rfl rfl rfl rfl ?_ | refine GX_call (fun _ => (c191_at hB.st.1)) (by rfl) (by intro h; simp only [h]; rfl) (by rfl) (by rfl) ?_ | (with_reducible intro h; try simp only [h]) | (with_reducible refine And.intro ?_ ?_) | (change chk _ _ = true; rfl) | simp only [go_sem, seval, Vc_bool] | refine (GX_split rfl).2 ?_
    refine Rt_sel [3, 1, 2] (r0 := .tup [.ptr 3 0 0 0, .int .i64 0]) (by rfl) (by rfl) rfl all_h rfl (by decide) ?_ (Nat.zero_le _) rfl
    rw [List.map_cons, List.map_cons, List.map_cons, List.map_nil, List.map_cons, List.map_cons, List.map_cons, List.map_nil, ren_heldR, ren_ack]; rfl
theorem c201h_ok {h : Held} {flow : Int} {es : List Int} : ACalls prog 201 [.agg (hEncR 1 h), .ptr 0 0 0 0] [.cells 0 1 3 true [[.int .i64 flow]], .cells 1 1 3 false (es.map eI)] (.bool (decide (h.flow = flow))) [.cells 0 1 3 true [[.int .i64 flow]], .cells 1 1 3 false (es.map eI)] := by
  refine calls_of hmx func201 (by kernel_rfl) (c := f201.body.getD .skip) rfl e201 (rs := [(.t 3)]) (by kernel_rfl) (by simp [ntmps201]) ?_
  simp only [c201, argS]
  simp only [go_sem, seval]
  exact Rt_T (H := [_, _]) _ (by rfl) (by rfl) (by rw [List.all_cons, List.all_cons, List.all_nil, Bool.and_true, lt_ack, Bool.and_true]; rfl) (Nat.le_refl _)
theorem all_h2 {l : List Held} {j : Nat} {x : Held} {flow : Int} : ([.cells 1 5 100 false (heldR l j 1 x), .cells 1 1 3 false (x.acked.map eI), .cells 0 1 3 true [[.int .i64 flow]]] : Heap).all (ltO 3) = true := by
  rw [List.all_cons, List.all_cons, List.all_cons, List.all_nil, Bool.and_true, lt_ack, Bool.true_and, lt_heldR (by decide), Bool.true_and]; rfl
theorem l200h (l : List Held) (j : Nat) (x : Held) (hx : l[j]? = some x) (flow : Int) (hL : l.length < 2 ^ 62) (k' : List It) (hk : ∀ zs, V prog f200.ntmps 3 (Ret [.t 4] 3 (.int .i64 (-1)) [.cells 1 5 100 false (heldR l j 1 x), .cells 1 1 3 false (x.acked.map eI), .cells 0 1 3 true [[.int .i64 flow]]]) k' zs [.cells 1 5 100 false (heldR l j 1 x), .cells 1 1 3 false (x.acked.map eI), .cells 0 1 3 true [[.int .i64 flow]]]) : ∀ (rest done : List Held), l = done ++ rest →
    Lp prog f200.ntmps 3 (Ret [.t 4] 3 (.int .i64 (idxFrom (fun h : Held => decide (h.flow = flow)) done.length rest)) [.cells 1 5 100 false (heldR l j 1 x), .cells 1 1 3 false (x.acked.map eI), .cells 0 1 3 true [[.int .i64 flow]]]) (cIdxL 5) (.blk 0 :: k') [(0, .row 0 1 0 l.length), (1, .func 201 [] [.ptr 2 0 0 0]), (7, .int .i64 l.length), (8, .int .i64 done.length)] [.cells 1 5 100 false (heldR l j 1 x), .cells 1 1 3 false (x.acked.map eI), .cells 0 1 3 true [[.int .i64 flow]]] := by
  intro rest
  induction rest with
  | nil =>
    intro done hd
    refine Lp.of_eq hmx (cIdxL.eq_1 5) ?_
    have h1 := rg_end hd
    simp only [go_sem, seval, h1]
    exact hk _
  | cons c rest ih =>
    intro done hd
    refine Lp.of_eq hmx (cIdxL.eq_1 5) ?_
    obtain ⟨h1, h2, h3, h4⟩ := rg_hd Held.enc hd hL
    have ih' := ih _ h4
    have hc : l[done.length]? = some c := by rw [hd]; simp
    have hlt : ((done.length : Int) < (l.length : Int)) = True := eq_true (by have := congrArg List.length hd; simp at this; omega)
    have key : ∀ b, decide (c.flow = flow) = b → (b = true → idxFrom (fun h : Held => decide (h.flow = flow)) done.length (c :: rest) = done.length) ∧ (b = false → idxFrom (fun h : Held => decide (h.flow = flow)) done.length (c :: rest) = idxFrom (fun h : Held => decide (h.flow = flow)) (done ++ [c]).length rest) := by
      intro b hb
      refine ⟨fun e => ?_, fun e => ?_⟩
      · rw [idxFrom, if_pos (by rw [hb, e])]
      · rw [idxFrom, if_neg (by rw [hb, e]; decide)]; simp
    by_cases hj : done.length = j
    · have hcx : c = x := by rw [hj, hx] at hc; injection hc with hc; exact hc.symm
      subst hcx
      have h2' : (heldR l j 1 c)[done.length]? = some (hEncR 1 c) := by rw [hj]; exact heldR_j hx
      repeat' first | (with_reducible intro h; try simp only [h]) | (with_reducible refine And.intro ?_ ?_) | (change chk _ _ = true; rfl) | simp only [go_sem, seval, Vc_bool, h1, h2', h3, hlt, Int.toNat_natCast, Int.natCast_nonneg, Nat.zero_add] | refine (GX_split rfl).2 ?_
      refine CX_rd [2, 1] (c201h_ok (h := c) (flow := flow) (es := c.acked)) (by rfl) (by rfl) (by rfl) (by rw [List.all_cons, List.all_cons, List.all_nil, Bool.and_true, lt_ack, Bool.and_true]; rfl) (by rfl) (by decide) (by rfl) (by rw [List.map_cons, List.map_cons, List.map_nil, List.map_cons, List.map_cons, List.map_nil, ren_ack]; rfl) (by rfl) ?_
      repeat' first | (with_reducible intro h; try simp only [h]) | (with_reducible refine And.intro ?_ ?_) | (change chk _ _ = true; rfl) | simp only [go_sem, seval, Vc_bool, h1, h2', h3, hlt, Int.toNat_natCast, Int.natCast_nonneg, Nat.zero_add] | refine (GX_split rfl).2 ?_
      · rw [(key _ h).1 rfl]
        exact Rt_all (by rfl) (by rfl) all_h2 (Nat.le_refl _)
      · rw [(key _ h).2 rfl]
        exact Lp.bkE0 ih' (by rfl) rfl
    · have h2' : (heldR l j 1 x)[done.length]? = some (Held.enc c) := heldR_ne hc hj
      repeat' first | refine CX_rd [2] (c201_ok (h := c) (flow := flow)) (by rfl) (by rfl) (by rfl) (by rfl) (by rfl) (by decide) (by rfl) (by rfl) (by rfl) ?_ | (with_reducible intro h; try simp only [h]) | (with_reducible refine And.intro ?_ ?_) | (change chk _ _ = true; rfl) | simp only [go_sem, seval, Vc_bool, h1, h2', h3, hlt, Int.toNat_natCast, Int.natCast_nonneg, Nat.zero_add] | refine (GX_split rfl).2 ?_
      · rw [(key _ h).1 rfl]
        exact Rt_all (by rfl) (by rfl) all_h2 (Nat.le_refl _)
      · rw [(key _ h).2 rfl]
        exact Lp.bkE0 ih' (by rfl) rfl
theorem c200h_ok {l : List Held} {j : Nat} {x : Held} {flow : Int} (hx : l[j]? = some x) (hL : l.length < 2 ^ 62) : ACalls prog 200 [.row 0 1 0 l.length, .func 201 [] [.ptr 2 0 0 0]] [.cells 1 5 100 false (heldR l j 1 x), .cells 1 1 3 false (x.acked.map eI), .cells 0 1 3 true [[.int .i64 flow]]] (.int .i64 (heldIdx l flow)) [.cells 1 5 100 false (heldR l j 1 x), .cells 1 1 3 false (x.acked.map eI), .cells 0 1 3 true [[.int .i64 flow]]] := by
  refine calls_of hmx func200 (by kernel_rfl) (c := f200.body.getD .skip) rfl e200 (rs := [(.t 4)]) (by kernel_rfl) (by simp [ntmps200]) ?_
  simp only [cIdx, argS]
  simp only [go_sem, seval, List.length_map]
  refine Lp.bkE0 (l200h l j x hx flow hL _ (fun s => ?_) l [] rfl) (by rfl) rfl
  simp only [go_sem, seval]
  exact Rt_all (by rfl) (by rfl) all_h2 (Nat.le_refl _)
theorem c101h_ok {s : Station} {slot : Int} {c : TCell} {flow : Int} {j : Nat} {x : Held} (hx : s.held[j]? = some x) (hL : s.held.length < 2 ^ 62) : ACalls prog 101 [.ptr 0 0 0 0, .int .i64 flow] [.cells 0 21 176 true [wEncH s 1 slot c], .cells 1 5 100 false (heldR s.held j 2 x), .cells 1 1 3 false (x.acked.map eI)] (.int .i64 (heldIdx s.held flow)) [.cells 0 21 176 true [wEncH s 1 slot c], .cells 1 5 100 false (heldR s.held j 2 x), .cells 1 1 3 false (x.acked.map eI)] := by
  refine calls_of hmx func101 (by kernel_rfl) (c := f101.body.getD .skip) rfl e101 (rs := [(.t 4)]) (by kernel_rfl) (by simp [ntmps101]) ?_
  simp only [c101, argS]
  simp only [go_sem, seval]
  refine CX_rd [1, 2, 3] (c200h_ok (flow := flow) hx hL) (by rfl) (by rfl) (by rfl) all_h2 (by rfl) (by decide) (by rfl) (by rw [List.map_cons, List.map_cons, List.map_cons, List.map_nil, List.map_cons, List.map_cons, List.map_cons, List.map_nil, ren_heldR, ren_ack]; rfl) (by rfl) ?_
  simp only [go_sem, seval]
  exact Rt_T (H := [_, _, _]) _ (by rfl) (by rfl) all_h (Nat.le_refl _)

end Go.Av.T
set_option maxRecDepth 100000
set_option maxHeartbeats 1000000
set_option linter.unusedSimpArgs false
set_option linter.unusedVariables false
namespace Go.Av.T
open Go Go.Av Go.Av.Sp Go.Proofs.Tryz
theorem ack_lt {l : List Int} : ([.cells 1 1 3 false (l.map eI)] : Heap).all (ltO 1) = true := by rw [List.all_cons, List.all_nil, Bool.and_true]; exact lt_ack
theorem l138r (l : List Int) (x : Int) (hL : l.length < 2 ^ 62) (k' : List It) (hk : ∀ zs, V prog f138.ntmps 1 (Ret [.t 4] 1 (.int .i64 (-1)) [.cells 1 1 3 false (l.map eI)]) k' zs [.cells 1 1 3 false (l.map eI)]) : ∀ (rest done : List Int), l = done ++ rest →
    Lp prog f138.ntmps 1 (Ret [.t 4] 1 (.int .i64 (idxFrom (fun y => decide (x = y)) done.length rest)) [.cells 1 1 3 false (l.map eI)]) c138L1 (.blk 0 :: k') [(0, .row 0 1 0 l.length), (1, .int .i64 x), (7, .int .i64 l.length), (8, .int .i64 done.length)] [.cells 1 1 3 false (l.map eI)] := by
  intro rest
  induction rest with
  | nil =>
    intro done hd
    refine Lp.of_eq hmx c138L1.eq_1 ?_
    have h1 := rg_end hd
    simp only [go_sem, seval, h1]
    exact hk _
  | cons c rest ih =>
    intro done hd
    refine Lp.of_eq hmx c138L1.eq_1 ?_
    obtain ⟨h1, h2, h3, h4⟩ := rg_hd eI hd hL
    have ih' := ih _ h4
    have hlt : ((done.length : Int) < (l.length : Int)) = True := eq_true (by have := congrArg List.length hd; simp at this; omega)
    repeat' first | (with_reducible intro h; try simp only [h]) | (with_reducible refine And.intro ?_ ?_) | (change chk _ _ = true; rfl) | simp only [go_sem, seval, Vc_bool, h1, h2, h3, hlt, Int.toNat_natCast, Int.natCast_nonneg, Nat.zero_add] | refine (GX_split rfl).2 ?_
    · have e : idxFrom (fun y => decide (x = y)) done.length (c :: rest) = done.length := by rw [idxFrom, if_pos h]
      rw [e]
      exact Rt_all (by rfl) (by rfl) ack_lt (Nat.le_refl _)
    · have e : idxFrom (fun y => decide (x = y)) done.length (c :: rest) = idxFrom (fun y => decide (x = y)) (done ++ [c]).length rest := by rw [idxFrom, if_neg (by simpa using h)]; simp
      rw [e]
      exact Lp.bkE0 ih' (by rfl) rfl
theorem c138r_ok {l : List Int} {x : Int} (hL : l.length < 2 ^ 62) : ACalls prog 138 [.row 0 1 0 l.length, .int .i64 x] [.cells 1 1 3 false (l.map eI)] (.int .i64 (idxFrom (fun y => decide (x = y)) 0 l)) [.cells 1 1 3 false (l.map eI)] := by
  refine calls_of hmx func138 (by kernel_rfl) (c := f138.body.getD .skip) rfl e138 (rs := [(.t 4)]) (by kernel_rfl) (by simp [ntmps138]) ?_
  simp only [c138, argS]
  simp only [go_sem, seval, List.length_map]
  refine Lp.bkE0 (l138r l x hL _ (fun s => ?_) l [] rfl) (by rfl) rfl
  simp only [go_sem, seval]
  exact Rt_all (by rfl) (by rfl) ack_lt (Nat.le_refl _)
theorem c40r_ok {l : List Int} {x : Int} (hL : l.length < 2 ^ 62) : ACalls prog 40 [.row 0 1 0 l.length, .int .i64 x] [.cells 1 1 3 false (l.map eI)] (.bool (l.any fun y => decide (x = y))) [.cells 1 1 3 false (l.map eI)] := by
  refine calls_of hmx func40 (by kernel_rfl) (c := f40.body.getD .skip) rfl e40 (rs := [(.t 4)]) (by kernel_rfl) (by simp [ntmps40]) ?_
  simp only [c40, argS]
  simp only [go_sem, seval]
  refine CX_rd [0] (c138r_ok (l := l) (x := x) hL) (by rfl) (by rfl) (by rfl) ack_lt (by rfl) (by decide) (by rfl) (by rw [List.map_cons, List.map_nil, List.map_cons, List.map_nil, ren_ack]; rfl) (by rfl) ?_
  simp only [go_sem, seval, idxFrom_any]
  exact Rt_all (by rfl) (by rfl) ack_lt (Nat.le_refl _)
/-- A frame of a flow is sent. -/
theorem c192h_ok {s : Station} {slot : Int} {c : TCell} {j : Nat} {x : Held} (hx : s.held[j]? = some x) (hi : heldIdx s.held c.flow = j) (hL : s.held.length < 2 ^ 62) (hA : x.acked.length < 2 ^ 62) (hs : c.send = true) (hw : decide (x.upto < slot) = false) (hn : (x.acked.any fun y => decide (c.peer = y)) = false) :
    ACalls prog 192 [.ptr 0 0 0 0] [.cells 0 21 176 true [wEncH s 1 slot c], .cells 1 5 100 false (heldR s.held j 2 x), .cells 1 1 3 false (x.acked.map eI)] (.agg (Action.enc ⟨1, 0, dataOf s x c.peer⟩)) [.cells 0 21 176 true [wEncH s 1 slot c], .cells 1 5 100 false (heldR s.held j 2 x), .cells 1 1 3 false (x.acked.map eI)] := by
  have h101 := c101h_ok (s := s) (slot := slot) (c := c) (flow := c.flow) hx hL
  have hjl := (List.getElem?_eq_some_iff.1 hx).1
  rw [hi] at h101
  have e3 : (heldR s.held j 2 x)[j]? = some (hEncR 2 x) := heldR_j hx
  have e4 : decide ((j : Int) < 0) = false := by simp
  have hlt : ((j : Int) < (s.held.length : Int)) = True := eq_true (by omega)
  rcases c with ⟨cs, co, ck, cd, cp, cf⟩
  obtain rfl : cd = true := hs
  refine calls_of hmx func192 (by kernel_rfl) (c := f192.body.getD .skip) rfl e192 (rs := [(.cell 2 true 14)]) (by kernel_rfl) (by simp [ntmps192]) ?_
  simp only [c192, argS]
  repeat' first | (with_reducible intro h; try simp only [h]) | (with_reducible refine And.intro ?_ ?_) | (change chk _ _ = true; rfl) | simp only [go_sem, seval, Vc_bool] | refine (GX_split rfl).2 ?_
  refine CX_rd [0, 1, 2] h101 (by rfl) (by rfl) (by rfl) all_h (by rfl) (by decide) (by rfl) (by rw [List.map_cons, List.map_cons, List.map_cons, List.map_nil, List.map_cons, List.map_cons, List.map_cons, List.map_nil, ren_heldR, ren_ack]; rfl) (by rfl) ?_
  repeat' first | (with_reducible intro h; try simp only [h]) | (with_reducible refine And.intro ?_ ?_) | (change chk _ _ = true; rfl) | simp only [go_sem, seval, Vc_bool, e3, e4, hw, hlt, Int.toNat_natCast, Int.natCast_nonneg, Nat.zero_add] | refine (GX_split rfl).2 ?_
  refine CX_rd [2] (c40r_ok (l := x.acked) (x := cp) hA) (by rfl) (by rfl) (by rfl) ack_lt (by rfl) (by decide) (by rfl) (by rw [List.map_cons, List.map_nil, List.map_cons, List.map_nil, ren_ack]; rfl) (by rfl) ?_
  rw [show (x.acked.any fun y => decide (cp = y)) = false from hn]
  repeat' first | (with_reducible intro h; try simp only [h]) | (with_reducible refine And.intro ?_ ?_) | (change chk _ _ = true; rfl) | simp only [go_sem, seval, Vc_bool, e3, e4, hw, hlt, Int.toNat_natCast, Int.natCast_nonneg, Nat.zero_add] | refine (GX_split rfl).2 ?_
  · exact Rt_T (H := [_, _, _]) _ (by rfl) (by rfl) (all_h (c := ⟨cs, co, ck, true, cp, cf⟩)) (Nat.le_refl _)
theorem c97h_ok {s : Station} {slot : Int} {c : TCell} {j : Nat} {x : Held} {a : Action} (hk : c.kind = 1) (h0 : a.kind = 1) (hg : ACalls prog 192 [.ptr 0 0 0 0] [.cells 0 21 176 true [wEncH s 1 slot c], .cells 1 5 100 false (heldR s.held j 2 x), .cells 1 1 3 false (x.acked.map eI)] (.agg a.enc) [.cells 0 21 176 true [wEncH s 1 slot c], .cells 1 5 100 false (heldR s.held j 2 x), .cells 1 1 3 false (x.acked.map eI)]) :
    ACalls prog 97 [.ptr 0 0 0 0] [.cells 0 21 176 true [wEncH s 1 slot c], .cells 1 5 100 false (heldR s.held j 2 x), .cells 1 1 3 false (x.acked.map eI)] (.agg (Action.enc { a with off := c.off })) [.cells 0 21 176 true [wEncH s 1 slot c], .cells 1 5 100 false (heldR s.held j 2 x), .cells 1 1 3 false (x.acked.map eI)] := by
  rcases c with ⟨cs, co, ck, cd, cp, cf⟩
  obtain rfl : ck = 1 := hk
  rcases a with ⟨ak, ao, ⟨fk, f2, f3, f4, f5, f6, f7, f8, f9, f10, f11, f12⟩⟩
  obtain rfl : ak = 1 := h0
  refine calls_of hmx func97 (by kernel_rfl) (c := f97.body.getD .skip) rfl e97 (rs := [(.cell 2 true 14)]) (by kernel_rfl) (by simp [ntmps97]) ?_
  simp only [c97, argS]
  repeat' first | (with_reducible intro h; try simp only [h]) | (with_reducible refine And.intro ?_ ?_) | (change chk _ _ = true; rfl) | simp only [go_sem, seval, Vc_bool, mapSet_cons, mapSet_nil, mapAt_cons, mapAt_nil] | refine (GX_split rfl).2 ?_
  refine CX_rd [0, 1, 2] hg (by rfl) (by rfl) (by rfl) all_h (by rfl) (by decide) (by rfl) (by rw [List.map_cons, List.map_cons, List.map_cons, List.map_nil, List.map_cons, List.map_cons, List.map_cons, List.map_nil, ren_heldR, ren_ack]; rfl) (by rfl) ?_
  repeat' first | (with_reducible intro h; try simp only [h]) | (with_reducible refine And.intro ?_ ?_) | (change chk _ _ = true; rfl) | simp only [go_sem, seval, Vc_bool, mapSet_cons, mapSet_nil, mapAt_cons, mapAt_nil] | refine (GX_split rfl).2 ?_
  exact Rt_T (H := [_, _, _]) _ (by rfl) (by rfl) (all_h (c := ⟨cs, co, 1, cd, cp, cf⟩)) (Nat.le_refl _)

end Go.Av.T
set_option maxRecDepth 100000
set_option maxHeartbeats 1000000
set_option linter.unusedSimpArgs false
set_option linter.unusedVariables false
namespace Go.Av.T
open Go Go.Av Go.Av.Sp Go.Proofs.Tryz
def c304 : SC := (.seq (.reg [(.mv 4 (.c (.bool false)))]) (.seq (.reg [(.mv 5 (.t 0)), (.call (some 6) (.c (.func 259 [] [])) [(.t 5)]), (.mv 7 (.t 6)), (.g 7 true (some 8) (.mv 8 (.t 1))), (.g 7 true (some 9) (.call (some 9) (.c (.func 259 [] [])) [(.t 8)])), (.g 7 true (some 10) (.not 10 (.t 9))), (.pick 11 (.t 7) (.t 10) (.c (.bool false))), (.mv 12 (.t 11)), (.g 12 false (some 13) (.mv 13 (.t 0))), (.g 12 false (some 14) (.mv 14 (.t 1))), (.g 12 false (some 15) (.bin 15 .lss (.t 13) (.t 14))), (.pick 16 (.t 12) (.c (.bool true)) (.t 15)), (.mv 4 (.t 16))]) .ret))
theorem e304 : compC prog f304.ntmps (f304.body.getD .skip) = c304 := by kernel_rfl
def c305 : SC := (.seq (.reg [(.mv 2 (.c (.bool false)))]) (.seq (.reg [(.mv 3 (.t 0)), (.mv 4 (.t 0)), (.bin 5 .neq (.t 3) (.t 4)), (.mv 2 (.t 5))]) .ret))
theorem e305 : compC prog f305.ntmps (f305.body.getD .skip) = c305 := by kernel_rfl
def c202L1 : SC := (.seq (.seq (.reg [(.mv 13 (.t 7)), (.mv 14 (.t 8)), (.bin 15 .lss (.t 13) (.t 14))]) (.cond (.t 15) .skip (.exit 0))) (.block 1 (.seq (.reg [(.mv 16 (.t 7)), (.mv 17 (.t 8)), (.bin 18 .add (.t 16) (.t 17)), (.conv 19 .u64 (.t 18)), (.bin 20 .shr (.t 19) (.c (.int .u64 1))), (.conv 21 .i64 (.t 20)), (.mv 9 (.t 21))]) (.seq (.reg [(.mv 22 (.t 0)), (.mv 23 (.t 9)), (.ia 24 (.t 22) (.t 23) 1), (.ld 25 (.t 24) false 1), (.mv 26 (.t 1)), (.call (some 27) (.c (.func 304 [] [])) [(.t 25), (.t 26)])]) (.cond (.t 27) (.reg [(.mv 28 (.t 9)), (.bin 29 .add (.t 28) (.c (.int .i64 1))), (.mv 7 (.t 29))]) (.reg [(.mv 30 (.t 9)), (.mv 8 (.t 30))]))))))
def c202 : SC := (.seq (.reg [(.mv 4 (.c (.int .i64 0))), (.mv 5 (.c (.bool false)))]) (.seq (.reg [(.mv 10 (.t 0)), (.len 11 false (.t 10)), (.mv 6 (.t 11))]) (.seq (.reg [(.mv 12 (.t 6)), (.mv 7 (.c (.int .i64 0))), (.mv 8 (.t 12))]) (.seq (.block 0 (.loop c202L1)) (.seq (.reg [(.mv 31 (.t 7)), (.mv 32 (.t 7)), (.mv 33 (.t 6)), (.bin 34 .lss (.t 32) (.t 33)), (.mv 35 (.t 34)), (.g 35 true (some 36) (.mv 36 (.t 0))), (.g 35 true (some 37) (.mv 37 (.t 7))), (.g 35 true (some 38) (.ia 38 (.t 36) (.t 37) 1)), (.g 35 true (some 39) (.ld 39 (.t 38) false 1)), (.g 35 true (some 40) (.mv 40 (.t 1))), (.g 35 true (some 41) (.bin 41 .eql (.t 39) (.t 40))), (.g 35 true (some 42) (.mv 42 (.t 41))), (.g 42 false (some 43) (.mv 43 (.t 0))), (.g 42 false (some 44) (.mv 44 (.t 7))), (.g 42 false (some 45) (.ia 45 (.t 43) (.t 44) 1)), (.g 42 false (some 46) (.ld 46 (.t 45) false 1)), (.g 42 false (some 47) (.call (some 47) (.c (.func 305 [] [])) [(.t 46)])), (.g 42 false (some 48) (.mv 48 (.t 47))), (.g 48 true (some 49) (.mv 49 (.t 1))), (.g 48 true (some 50) (.call (some 50) (.c (.func 305 [] [])) [(.t 49)])), (.g 42 false (some 51) (.pick 51 (.t 48) (.t 50) (.c (.bool false)))), (.g 35 true (some 52) (.pick 52 (.t 42) (.c (.bool true)) (.t 51))), (.pick 53 (.t 35) (.t 52) (.c (.bool false))), (.mv 4 (.t 31)), (.mv 5 (.t 53))]) .ret)))))
theorem e202 : compC prog f202.ntmps (f202.body.getD .skip) = c202 := by kernel_rfl
def c102 : SC := (.seq (.reg [(.mv 4 (.c .nil))]) (.seq (.reg [(.mv 8 (.t 0)), (.mv 9 (.t 1)), (.call (some 10) (.c (.func 202 [] [])) [(.t 8), (.t 9)]), (.mv 7 (.t 10)), (.ext 11 (.t 7) 0), (.ext 12 (.t 7) 1), (.mv 5 (.t 11)), (.mv 6 (.t 12))]) (.seq (.seq (.reg [(.mv 13 (.t 6))]) (.cond (.t 13) (.seq (.reg [(.mv 14 (.t 0)), (.mv 4 (.t 14))]) .ret) .skip)) (.seq (.reg [(.mv 15 (.t 0)), (.mv 16 (.t 5)), (.mv 17 (.t 1)), (.bsl 18 3 1 [(.int .i64 0)] 1 [(0, (.t 17))]), (.call (some 19) (.c (.func 203 [] [])) [(.t 15), (.t 16), (.t 18)]), (.mv 4 (.t 19))]) .ret))))
theorem e102 : compC prog f102.ntmps (f102.body.getD .skip) = c102 := by kernel_rfl
theorem c304_pf (a : Int) (b : Int)  : ACalls prog 304 [.int .i64 a, .int .i64 b] [] (.bool (decide (a < b))) [] := by
  refine calls_of hmx func304 (by kernel_rfl) (c := f304.body.getD .skip) rfl e304 (rs := [(.t 4)]) (by kernel_rfl) (by simp [ntmps304]) ?_
  simp only [c304, argS]
  simp only [go_sem, seval]
  repeat' first | (refine Rt_pure ?_ rfl; simp only [retO, retO1, retOs, S, get_cons, Nat.reduceEqDiff, reduceIte, obj, getO_cons_zero, getO_cons_succ, List.getElem?_cons_zero, List.getElem?_cons_succ, List.drop_zero, List.drop_succ_cons, loadFrom_cell, loadFrom_agg, List.length_cons, List.length_nil, Nat.reduceAdd, Nat.reduceLeDiff, List.take_succ_cons, List.take_zero, List.take_nil]) | refine CX_pure c259_ok rfl rfl rfl rfl ?_ | refine GX_call (fun _ => c259_ok) (by rfl) (by intro h; simp only [h]; rfl) (by rfl) (by rfl) ?_ | (with_reducible intro h; try simp only [h]) | (with_reducible refine And.intro ?_ ?_) | (change chk _ _ = true; rfl) | simp only [go_sem, seval, Vc_bool] | refine (GX_split rfl).2 ?_
theorem c304_ok {a : Int} {b : Int}  : ACalls prog 304 [.int .i64 a, .int .i64 b] [] (.bool (decide (a < b))) [] := c304_pf a b 

theorem c305_pf (a : Int)  : ACalls prog 305 [.int .i64 a] [] (.bool false) [] := by
  refine calls_of hmx func305 (by kernel_rfl) (c := f305.body.getD .skip) rfl e305 (rs := [(.t 2)]) (by kernel_rfl) (by simp [ntmps305]) ?_
  simp only [c305, argS]
  have e : decide (a = a) = true := by simp
  simp only [go_sem, seval, e]
  (refine Rt_pure ?_ rfl; simp only [retO, retO1, retOs, S, get_cons, Nat.reduceEqDiff, reduceIte, obj, getO_cons_zero, getO_cons_succ, List.getElem?_cons_zero, List.getElem?_cons_succ, List.drop_zero, List.drop_succ_cons, loadFrom_cell, loadFrom_agg, List.length_cons, List.length_nil, Nat.reduceAdd, Nat.reduceLeDiff, List.take_succ_cons, List.take_zero, List.take_nil])
theorem c305_ok {a : Int}  : ACalls prog 305 [.int .i64 a] [] (.bool false) [] := c305_pf a 

section
variable {xs : List Int} {t : Int}
theorem bs3r_loop (hlen : xs.length < 2 ^ 62) (hs : ∀ i x, xs[i]? = some x → (cmp x t < 0 ↔ i < bsLo (fun y : Int => cmp y t) xs)) (rs : List RS) (r : AVal) (k' : List It)
    (hk : ∀ s, get s 0 = .row 0 1 0 xs.length → get s 1 = .int .i64 t → get s 6 = .int .i64 xs.length → get s 7 = .int .i64 (bsLo (fun y : Int => cmp y t) xs) → V prog f202.ntmps 1 (Ret rs 1 r [.cells 1 1 3 false (xs.map eI)]) k' s [.cells 1 1 3 false (xs.map eI)]) : ∀ (m i j : Nat), j - i ≤ m → i ≤ bsLo (fun y : Int => cmp y t) xs → bsLo (fun y : Int => cmp y t) xs ≤ j → j ≤ xs.length →
    Lp prog f202.ntmps 1 (Ret rs 1 r [.cells 1 1 3 false (xs.map eI)]) c202L1 (.blk 0 :: k') [(0, .row 0 1 0 xs.length), (1, .int .i64 t), (6, .int .i64 xs.length), (7, .int .i64 i), (8, .int .i64 j)] [.cells 1 1 3 false (xs.map eI)] := by
  intro m
  induction m with
  | zero =>
    intro i j h1 h2 h3 h4
    refine Lp.of_eq hmx c202L1.eq_1 ?_
    have e1 : decide ((i : Int) < (j : Int)) = false := by simp; omega
    simp only [go_sem, seval, e1]
    exact hk _ (by rfl) (by rfl) (by rfl) (by show AVal.int .i64 _ = _; congr 1; omega)
  | succ m ih =>
    intro i j h1 h2 h3 h4
    refine Lp.of_eq hmx c202L1.eq_1 ?_
    rcases Nat.lt_or_ge i j with hij | hij
    · have e1 : decide ((i : Int) < (j : Int)) = true := by simp; omega
      have e2 := mid_ok (i := i) (j := j) (by omega)
      have hm : (i + j) / 2 < xs.length := by omega
      have e3 : (xs.map eI)[(i + j) / 2]? = some (eI xs[(i + j) / 2]) := by rw [List.getElem?_map, List.getElem?_eq_getElem hm]; rfl
      have e4 : IntKind.i64.wrap (((i + j) / 2 : Nat) + (1 : Int)) = (((i + j) / 2 + 1 : Nat) : Int) := by rw [wrap_ok (by omega) (by omega)]; omega
      have hsx := hs ((i + j) / 2) _ (List.getElem?_eq_getElem hm)
      generalize xs[(i + j) / 2] = c at *
      have hlt : ((((i + j) / 2 : Nat) : Int) < (xs.length : Int)) = True := eq_true (by omega)
      repeat' first | refine CX_pure (c304_ok) rfl rfl rfl rfl ?_ | refine GX_call (fun _ => (c304_ok)) (by rfl) (by intro h; simp only [h]; rfl) (by rfl) (by rfl) ?_ | (with_reducible intro h; try simp only [h]) | (with_reducible refine And.intro ?_ ?_) | (change chk _ _ = true; rfl) | simp only [go_sem, seval, Vc_bool, e1, e2, e3, e4, hlt, Nat.zero_add, Int.toNat_natCast, Int.natCast_nonneg] | refine (GX_split rfl).2 ?_
      · exact Lp.bk0 (ih ((i + j) / 2 + 1) j (by omega) (by have := of_decide_eq_true h; rw [← cmp_lt, hsx] at this; omega) h3 h4) (by rfl)
      · exact Lp.bk0 (ih i ((i + j) / 2) (by omega) h2 (by have := of_decide_eq_false h; rw [← cmp_lt, hsx] at this; omega) (by omega)) (by rfl)
    · have e1 : decide ((i : Int) < (j : Int)) = false := by simp; omega
      simp only [go_sem, seval, e1]
      exact hk _ (by rfl) (by rfl) (by rfl) (by show AVal.int .i64 _ = _; congr 1; omega)
end
theorem c202r_ok {xs : List Int} {t : Int} (hlen : xs.length < 2 ^ 62) (hs : ∀ i x, xs[i]? = some x → (cmp x t < 0 ↔ i < bsLo (fun y : Int => cmp y t) xs)) :
    ACalls prog 202 [.row 0 1 0 xs.length, .int .i64 t] [.cells 1 1 3 false (xs.map eI)] (.tup [.int .i64 (bsLo (fun y : Int => cmp y t) xs), .bool (bsHit (fun y : Int => cmp y t) xs)]) [.cells 1 1 3 false (xs.map eI)] := by
  refine calls_of hmx func202 (by kernel_rfl) (c := f202.body.getD .skip) rfl e202 (rs := [(.t 4), (.t 5)]) (by kernel_rfl) (by simp [ntmps202]) ?_
  simp only [c202, argS]
  simp only [go_sem, seval, List.length_map]
  refine Lp.bk0 (bs3r_loop hlen hs _ _ _ (fun s z0 z1 z6 z7 => ?_) xs.length 0 xs.length (by omega) (Nat.zero_le _) (bsLo_le _) (Nat.le_refl _)) (by rfl)
  have hle := bsLo_le (c := fun y : Int => cmp y t) xs
  rcases Nat.lt_or_ge (bsLo (fun y : Int => cmp y t) xs) xs.length with h | h
  · have e1 : decide (((bsLo (fun y : Int => cmp y t) xs : Nat) : Int) < (xs.length : Int)) = true := by simp; omega
    have e2 : (xs.map eI)[bsLo (fun y : Int => cmp y t) xs]? = some (eI xs[bsLo (fun y : Int => cmp y t) xs]) := by rw [List.getElem?_map, List.getElem?_eq_getElem h]; rfl
    have e3 : bsHit (fun y : Int => cmp y t) xs = decide (xs[bsLo (fun y : Int => cmp y t) xs] = t) := by rw [bsHit, List.getElem?_eq_getElem h]; simp only [cmp_eq]
    rw [e3]
    generalize xs[bsLo (fun y : Int => cmp y t) xs] = c at *
    have hlt : (((bsLo (fun y : Int => cmp y t) xs : Nat) : Int) < (xs.length : Int)) = True := eq_true (by omega)
    cases hc : decide (c = t)
    · repeat' first | refine CX_pure (c305_ok) rfl rfl rfl rfl ?_ | refine GX_call (fun _ => (c305_ok)) (by rfl) (by intro h; simp only [h]; rfl) (by rfl) (by rfl) ?_ | (with_reducible intro h; try simp only [h]) | (with_reducible refine And.intro ?_ ?_) | (change chk _ _ = true; rfl) | simp only [go_sem, seval, Vc_bool, z0, z1, z6, z7, e1, e2, hlt, hc, Nat.zero_add, Int.toNat_natCast, Int.natCast_nonneg] | refine (GX_split rfl).2 ?_
      exact Rt_all (by rfl) (by rfl) ack_lt (Nat.le_refl _)
    · repeat' first | refine CX_pure (c305_ok) rfl rfl rfl rfl ?_ | refine GX_call (fun _ => (c305_ok)) (by rfl) (by intro h; simp only [h]; rfl) (by rfl) (by rfl) ?_ | (with_reducible intro h; try simp only [h]) | (with_reducible refine And.intro ?_ ?_) | (change chk _ _ = true; rfl) | simp only [go_sem, seval, Vc_bool, z0, z1, z6, z7, e1, e2, hlt, hc, Nat.zero_add, Int.toNat_natCast, Int.natCast_nonneg] | refine (GX_split rfl).2 ?_
      exact Rt_all (by rfl) (by rfl) ack_lt (Nat.le_refl _)
  · have e1 : decide (((bsLo (fun y : Int => cmp y t) xs : Nat) : Int) < (xs.length : Int)) = false := by simp; omega
    have e3 : bsHit (fun y : Int => cmp y t) xs = false := by rw [bsHit, List.getElem?_eq_none h]
    rw [e3]
    repeat' first | (with_reducible intro h; try simp only [h]) | (with_reducible refine And.intro ?_ ?_) | (change chk _ _ = true; rfl) | simp only [go_sem, seval, Vc_bool, z0, z1, z6, z7, e1] | refine (GX_split rfl).2 ?_
    exact Rt_all (by rfl) (by rfl) ack_lt (Nat.le_refl _)
theorem insInt_eq (l : List Int) (x : Int) : insertInt l x = l.take (bsLo (fun y : Int => cmp y x) l) ++ x :: l.drop (bsLo (fun y : Int => cmp y x) l) := by
  have e : (fun y : Int => decide (cmp y x < 0)) = fun y => decide (y < x) := by funext y; simp only [cmp_lt]
  obtain ⟨h1, h2⟩ := tw_len (fun y : Int => decide (y < x)) l
  rw [insertInt, bsLo, e, h1, h2]
theorem c102_ok {l : List Int} {x : Int} (hb : (l.length + 1) * 8 ≤ 140737488355328) (hs : l.Pairwise (fun a b => a ≤ b)) (hn : (l.any fun y => decide (x = y)) = false) :
    ACalls prog 102 [.row 0 1 0 l.length, .int .i64 x] [.cells 1 1 3 false (l.map eI)] (.sl 1 ((insertInt l x).map eI)) [.dead] := by
  have hle := bsLo_le (c := fun y : Int => cmp y x) l
  have hh : bsHit (fun y : Int => cmp y x) l = false := by
    unfold bsHit
    cases hc : l[bsLo (fun y : Int => cmp y x) l]? with
    | none => rfl
    | some y =>
      have hm := List.mem_of_getElem? hc
      simp only [cmp_eq, decide_eq_false_iff_not]
      intro e
      subst e
      rw [List.any_eq_false] at hn
      exact hn y hm (by simp)
  have h202 := c202r_ok (xs := l) (t := x) (by omega) (bs_srt (f := fun y : Int => y) hs)
  rw [hh] at h202
  rw [insInt_eq]
  generalize bsLo (fun y : Int => cmp y x) l = lo at *
  refine calls_of hmx func102 (by kernel_rfl) (c := f102.body.getD .skip) rfl e102 (rs := [(.t 4)]) (by kernel_rfl) (by simp [ntmps102]) ?_
  simp only [c102, argS]
  repeat' first | (with_reducible intro h; try simp only [h]) | (with_reducible refine And.intro ?_ ?_) | (change chk _ _ = true; rfl) | simp only [go_sem, seval, Vc_bool] | refine (GX_split rfl).2 ?_
  refine CX_rd [0] h202 (by rfl) (by rfl) (by rfl) ack_lt (by rfl) (by decide) (by rfl) (by rw [List.map_cons, List.map_nil, List.map_cons, List.map_nil, ren_ack]; rfl) (by rfl) ?_
  repeat' first | (with_reducible intro h; try simp only [h]) | (with_reducible refine And.intro ?_ ?_) | (change chk _ _ = true; rfl) | simp only [go_sem, seval, Vc_bool] | refine (GX_split rfl).2 ?_
  refine CX_eat2 0 1 (c203_ok (xs := l) (v := x) (i := lo) (q := 1) hle hb) (by rfl) (by rfl) (by rfl) lt_ack (by rfl) (by decide) (by rfl) (by rfl) (by rfl) (by rfl) (by rfl) ?_
  repeat' first | (with_reducible intro h; try simp only [h]) | (with_reducible refine And.intro ?_ ?_) | (change chk _ _ = true; rfl) | simp only [go_sem, seval, Vc_bool] | refine (GX_split rfl).2 ?_
  exact Rt_T (H := [_]) _ (by rfl) (by rfl) (by rfl) (Nat.le_refl _)
/-- A frame of a flow was acknowledged. -/
theorem c28_ack {s : Station} {slot : Int} {r : Sp.Result} {j : Nat} {x : Held} (hB : ClBd s) (hE : slotErr s slot = 0) (hx : s.held[j]? = some x) (hi : heldIdx s.held (cellAt s slot).flow = j) (hf : x.flow = (cellAt s slot).flow) (hL : s.held.length < 2 ^ 62) (hA : (x.acked.length + 1) * 8 ≤ 140737488355328)
    (hk : (cellAt s slot).kind = 1) (hs : (cellAt s slot).send = true) (hw : decide (x.upto < slot) = false) (hn : (x.acked.any fun y => decide ((cellAt s slot).peer = y)) = false) (hp : x.acked.Pairwise (fun a b => a ≤ b)) (hr : r.acked = true) :
    ACalls prog 28 [.agg s.enc, .int .i64 slot, .agg r.enc] [] (.tup [.agg (Station.enc { s with held := s.held.set j { x with acked := insertInt x.acked (cellAt s slot).peer } }), .agg Up.zero.enc, .int .i64 0]) [] := by
  have h96 := c96h_ok hB hE hx
  have h97 := c97h_ok (s := s) (slot := slot) (c := cellAt s slot) (a := ⟨1, 0, dataOf s x (cellAt s slot).peer⟩) hk rfl (c192h_ok (s := s) (slot := slot) (c := cellAt s slot) hx hi hL (by omega) hs hw hn)
  have h101 := c101h_ok (s := s) (slot := slot) (c := cellAt s slot) (flow := (cellAt s slot).flow) hx hL
  have h102 := c102_ok (l := x.acked) (x := (cellAt s slot).peer) hA hp hn
  rw [hi] at h101
  have hjl := (List.getElem?_eq_some_iff.1 hx).1
  have e3 : ∀ id, (heldR s.held j id x)[j]? = some (hEncR id x) := fun id => heldR_j hx
  have hlt : ((j : Int) < (s.held.length : Int)) = True := eq_true (by omega)
  revert h96 h97 h101 h102 hk hf
  generalize cellAt s slot = c
  rcases c with ⟨cs, co, ck, cd, cp, cf⟩
  intro hf hk h96 h97 h101 h102
  obtain rfl : ck = 1 := hk
  obtain rfl : x.flow = cf := hf
  refine calls_of hmx func28 (by kernel_rfl) (c := f28.body.getD .skip) rfl e28 (rs := [(.cell 6 true 14), (.cell 7 true 14), (.t 8)]) (by kernel_rfl) (by simp [ntmps28]) ?_
  simp only [c28, argS]
  repeat' first | (with_reducible intro h; try simp only [h]) | (with_reducible refine And.intro ?_ ?_) | (change chk _ _ = true; rfl) | simp only [go_sem, seval, Vc_bool] | refine (GX_split rfl).2 ?_
  refine CX_w [] [] (r1 := .tup [.ptr 4 0 0 0, .int .i64 0]) (H1 := [_, _, _, _, .cells 0 21 176 true [wEncH s 5 slot ⟨cs, co, 1, cd, cp, x.flow⟩], .cells 1 5 100 false (heldR s.held j 6 x), .cells 1 1 3 false (x.acked.map eI)]) h96 (by rfl) (by rfl) (by rfl) (by rfl) (by rfl) (by decide) (by rfl) (by rfl) (Nat.zero_le _) trivial (by rfl) (by rfl) (by show _ ++ List.map _ [_, _, _] = _; rw [List.map_cons, List.map_cons, List.map_cons, List.map_nil, ren_heldR, ren_ack]; rfl) ?_
  repeat' first | (with_reducible intro h; try simp only [h]) | (with_reducible refine And.intro ?_ ?_) | (change chk _ _ = true; rfl) | simp only [go_sem, seval, Vc_bool] | refine (GX_split rfl).2 ?_
  refine CX_rd [4, 5, 6] h97 (by rfl) (by rfl) (by rfl) (all_h (c := ⟨cs, co, 1, cd, cp, x.flow⟩)) (by rfl) (by decide) (by rfl) (by rw [List.map_cons, List.map_cons, List.map_cons, List.map_nil, List.map_cons, List.map_cons, List.map_cons, List.map_nil, ren_heldR, ren_ack]; rfl) (by rfl) ?_
  repeat' first | (with_reducible intro h; try simp only [h]) | (with_reducible refine And.intro ?_ ?_) | (change chk _ _ = true; rfl) | simp only [go_sem, seval, Vc_bool, hr, dataOf] | refine (GX_split rfl).2 ?_
  refine CX_rd [4, 5, 6] h101 (by rfl) (by rfl) (by rfl) (all_h (c := ⟨cs, co, 1, cd, cp, x.flow⟩)) (by rfl) (by decide) (by rfl) (by rw [List.map_cons, List.map_cons, List.map_cons, List.map_nil, List.map_cons, List.map_cons, List.map_cons, List.map_nil, ren_heldR, ren_ack]; rfl) (by rfl) ?_
  repeat' first | (with_reducible intro h; try simp only [h]) | (with_reducible refine And.intro ?_ ?_) | (change chk _ _ = true; rfl) | simp only [go_sem, seval, Vc_bool, hr, e3, hlt, Int.toNat_natCast, Int.natCast_nonneg, Nat.zero_add] | refine (GX_split rfl).2 ?_
  refine CX_eat 6 h102 (by rfl) (by rfl) (by rfl) lt_ack (by rfl) (by rfl) (by rfl) ?_
  have hse : (heldR s.held j 6 x).set j [.int .i64 x.flow, .int .i64 x.frame, .int .i64 x.upto, .str x.data, .sl 1 ((insertInt x.acked cp).map eI)] = (s.held.set j { x with acked := insertInt x.acked cp }).map Held.enc := heldR_set hx
  repeat' first | (with_reducible intro h; try simp only [h]) | (with_reducible refine And.intro ?_ ?_) | (change chk _ _ = true; rfl) | simp only [go_sem, seval, Vc_bool, hr, e3, hlt, hse, Int.toNat_natCast, Int.natCast_nonneg, Nat.zero_add] | refine (GX_split rfl).2 ?_
  refine Rt.gs (Gs_freeze 5 (s' := [(6, .ptr 2 0 0 0), (7, .ptr 3 0 0 0), (8, .int .i64 0)]) (H' := [.dead, .dead, .cells 0 14 31 true [Station.enc { s with held := s.held.set j { x with acked := insertInt x.acked cp } }], .cells 0 14 51 true [Up.zero.enc], .dead, .dead, .dead, .dead, .dead]) rfl ?_ ?_) (Rt_pure (by rfl) (by rfl))
  · repeat' (first | exact FzL.nil | refine FzL.cons ?_ ?_ | exact Fz.wk (Wk.refl _) | exact Fz.wk (Wk.nil _) | exact Fz.wk (Wk.emp _) | exact Fz.row0 _ _ _ _ | exact FzH.nil _ | exact FzO.refl _ | refine FzO.one ?_ | refine FzH.cons (by decide) ?_ ?_ | refine FzH.this rfl ?_ | exact FzO.dead (by simp) | (simp only [List.forall_mem_cons, List.not_mem_nil, false_implies, implies_true, and_true, go_sem, seval]) | refine And.intro ?_ ?_)
  · repeat' (first | exact FzL.nil | refine FzL.cons ?_ ?_ | exact Fz.wk (Wk.refl _) | exact Fz.wk (Wk.nil _) | exact Fz.wk (Wk.emp _) | exact Fz.row0 _ _ _ _ | exact FzH.nil _ | exact FzO.refl _ | refine FzO.one ?_ | refine FzH.cons (by decide) ?_ ?_ | refine FzH.this rfl ?_ | exact FzO.dead (by simp) | (simp only [List.forall_mem_cons, List.not_mem_nil, false_implies, implies_true, and_true, go_sem, seval]) | refine And.intro ?_ ?_)
    all_goals first | exact Fz.wk (Wk.refl _) | exact Fz.row 0 _ (by rw [List.drop_zero]; exact List.take_of_length_le (by simp)) (cloE_map fun _ => by rfl)

end Go.Av.T
