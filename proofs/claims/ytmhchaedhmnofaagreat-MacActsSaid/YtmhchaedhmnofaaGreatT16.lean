/- The seat: part T16. -/
import Derived.Test.YtmhchaedhmnofaaGreatT15
import Derived.KernelRfl
set_option maxRecDepth 100000
set_option maxHeartbeats 1000000
set_option linter.unusedSimpArgs false
set_option linter.unusedVariables false
namespace Go.Av.T
open Go Go.Av Go.Av.Sp Go.Proofs.Tryz
def c31L1 : SC := (.seq (.seq (.reg [(.mv 15 (.t 6)), (.fa 16 (.t 2) 2), (.ld 17 (.t 16) false 1), (.len 18 false (.t 17)), (.bin 19 .lss (.t 15) (.t 18))]) (.cond (.t 19) .skip (.exit 0))) (.seq (.block 1 (.seq (.regD [(.fa 22 (.t 2) 2), (.ld 23 (.t 22) false 1), (.mv 24 (.t 6)), (.ia 25 (.t 23) (.t 24) 6), (.fa 26 (.t 25) 0), (.ld 27 (.t 26) false 1), (.mv 28 (.t 1)), (.fa 29 (.t 2) 1), (.ld 30 (.t 29) false 1), (.bin 31 .rem (.t 28) (.t 30)), (.bin 32 .eql (.t 27) (.t 31))] []) (.cond (.t 32) (.seq (.reg [(.fa 33 (.t 2) 2), (.ld 34 (.t 33) false 1), (.mv 35 (.t 6)), (.ia 36 (.t 34) (.t 35) 6), (.ld 37 (.t 36) true 6), (.st (.t 4) (.t 37) 6), (.mv 5 (.c (.bool true)))]) .ret) .skip))) (.reg [(.mv 20 (.t 6)), (.bin 21 .add (.t 20) (.c (.int .i64 1))), (.mv 6 (.t 21))])))
def c31 : SC := (.seq (.reg [(.box 2 24 (.t 0)), (.alc 4 57 [(.int .i64 0), (.int .i64 0), (.int .i64 0), (.bool false), (.int .i64 0), (.int .i64 0)]), (.mv 5 (.c (.bool false)))]) (.seq (.seq (.reg [(.ld 7 (.t 2) true 3), (.call (some 8) (.c (.func 83 [] [])) [(.t 7)]), (.bin 9 .neq (.t 8) (.c (.int .i64 0))), (.mv 10 (.t 9)), (.g 10 false (some 11) (.mv 11 (.t 1))), (.g 10 false (some 12) (.bin 12 .lss (.t 11) (.c (.int .i64 0)))), (.pick 13 (.t 10) (.c (.bool true)) (.t 12))]) (.cond (.t 13) (.seq (.reg [(.bld 14 [(.int .i64 0), (.int .i64 0), (.int .i64 0), (.bool false), (.int .i64 0), (.int .i64 0)] []), (.st (.t 4) (.t 14) 6), (.mv 5 (.c (.bool false)))]) .ret) .skip)) (.seq (.seq (.reg [(.mv 6 (.c (.int .i64 0)))]) (.block 0 (.loop c31L1))) (.seq (.reg [(.bld 38 [(.int .i64 0), (.int .i64 0), (.int .i64 0), (.bool false), (.int .i64 0), (.int .i64 0)] []), (.st (.t 4) (.t 38) 6), (.mv 5 (.c (.bool false)))]) .ret))))
theorem e31 : compC prog f31.ntmps (f31.body.getD .skip) = c31 := by kernel_rfl
def c107L1 : SC := (.seq (.seq (.reg [(.mv 6 (.t 5)), (.fa 7 (.t 2) 5), (.ld 8 (.t 7) false 1), (.len 9 false (.t 8)), (.bin 10 .lss (.t 6) (.t 9))]) (.cond (.t 10) .skip (.exit 0))) (.seq (.block 1 (.seq (.reg [(.fa 13 (.t 2) 5), (.ld 14 (.t 13) false 1), (.mv 15 (.t 5)), (.ia 16 (.t 14) (.t 15) 5), (.fa 17 (.t 16) 0), (.ld 18 (.t 17) false 1), (.mv 19 (.t 1)), (.bin 20 .eql (.t 18) (.t 19))]) (.cond (.t 20) (.seq (.reg [(.mv 21 (.t 5)), (.mv 4 (.t 21))]) .ret) .skip))) (.reg [(.mv 11 (.t 5)), (.bin 12 .add (.t 11) (.c (.int .i64 1))), (.mv 5 (.t 12))])))
def c107 : SC := (.seq (.reg [(.box 2 31 (.t 0)), (.mv 4 (.c (.int .i64 0)))]) (.seq (.seq (.reg [(.mv 5 (.c (.int .i64 0)))]) (.block 0 (.loop c107L1))) (.seq (.reg [(.mv 4 (.c (.int .i64 (-1))))]) .ret)))
theorem e107 : compC prog f107.ntmps (f107.body.getD .skip) = c107 := by kernel_rfl
def c195L1 : SC := (.seq (.seq (.reg [(.mv 6 (.t 5)), (.mv 7 (.t 0)), (.len 8 false (.t 7)), (.bin 9 .lss (.t 6) (.t 8))]) (.cond (.t 9) .skip (.exit 0))) (.seq (.block 1 (.seq (.reg [(.mv 12 (.t 0)), (.mv 13 (.t 5)), (.ia 14 (.t 12) (.t 13) 1), (.ld 15 (.t 14) false 1), (.mv 16 (.t 1)), (.bin 17 .eql (.t 15) (.t 16))]) (.cond (.t 17) (.seq (.reg [(.mv 4 (.c (.bool true)))]) .ret) .skip))) (.reg [(.mv 10 (.t 5)), (.bin 11 .add (.t 10) (.c (.int .i64 1))), (.mv 5 (.t 11))])))
def c195 : SC := (.seq (.reg [(.mv 4 (.c (.bool false)))]) (.seq (.seq (.reg [(.mv 5 (.c (.int .i64 0)))]) (.block 0 (.loop c195L1))) (.seq (.reg [(.mv 4 (.c (.bool false)))]) .ret)))
theorem e195 : compC prog f195.ntmps (f195.body.getD .skip) = c195 := by kernel_rfl
def c196L1 : SC := (.seq (.seq (.reg [(.mv 11 (.t 6)), (.fa 12 (.t 2) 1), (.ld 13 (.t 12) false 1), (.len 14 false (.t 13)), (.bin 15 .lss (.t 11) (.t 14))]) (.cond (.t 15) .skip (.exit 0))) (.seq (.block 1 (.seq (.reg [(.fa 18 (.t 2) 1), (.ld 19 (.t 18) false 1), (.mv 20 (.t 6)), (.ia 21 (.t 19) (.t 20) 6), (.fa 22 (.t 21) 1), (.ld 23 (.t 22) false 1), (.mv 24 (.t 1)), (.bin 25 .eql (.t 23) (.t 24))]) (.cond (.t 25) (.seq (.reg [(.fa 26 (.t 2) 1), (.ld 27 (.t 26) false 1), (.mv 28 (.t 6)), (.ia 29 (.t 27) (.t 28) 6), (.ld 30 (.t 29) true 6), (.st (.t 4) (.t 30) 6), (.mv 5 (.c (.bool true)))]) .ret) .skip))) (.reg [(.mv 16 (.t 6)), (.bin 17 .add (.t 16) (.c (.int .i64 1))), (.mv 6 (.t 17))])))
def c196 : SC := (.seq (.reg [(.box 2 27 (.t 0)), (.alc 4 104 [(.int .i64 0), (.int .i64 0), (.int .i64 0), (.int .i64 0), (.int .i64 0), (.str (ByteArray.mk #[]))]), (.mv 5 (.c (.bool false)))]) (.seq (.seq (.reg [(.ld 7 (.t 2) true 2), (.call (some 8) (.c (.func 88 [] [])) [(.t 7)]), (.bin 9 .neq (.t 8) (.c (.int .i64 0)))]) (.cond (.t 9) (.seq (.reg [(.bld 10 [(.int .i64 0), (.int .i64 0), (.int .i64 0), (.int .i64 0), (.int .i64 0), (.str (ByteArray.mk #[]))] []), (.st (.t 4) (.t 10) 6), (.mv 5 (.c (.bool false)))]) .ret) .skip)) (.seq (.seq (.reg [(.mv 6 (.c (.int .i64 0)))]) (.block 0 (.loop c196L1))) (.seq (.reg [(.bld 31 [(.int .i64 0), (.int .i64 0), (.int .i64 0), (.int .i64 0), (.int .i64 0), (.str (ByteArray.mk #[]))] []), (.st (.t 4) (.t 31) 6), (.mv 5 (.c (.bool false)))]) .ret))))
theorem e196 : compC prog f196.ntmps (f196.body.getD .skip) = c196 := by kernel_rfl
def c197 : SC := (.seq (.reg [(.box 2 31 (.t 0)), (.box 3 104 (.t 1)), (.alc 4 41 [(.int .i64 0), (.int .i64 0), (.int .i64 0), (.int .i64 0), (.int .i64 0), (.int .i64 0), (.int .i64 0), (.int .i64 0), (.int .i64 0), (.int .i64 0), (.int .i64 0), (.str (ByteArray.mk #[]))])]) (.seq (.reg [(.fa 5 (.t 2) 0), (.fa 6 (.t 5) 0), (.ld 7 (.t 6) false 1), (.fa 8 (.t 3) 1), (.ld 9 (.t 8) false 1), (.fa 10 (.t 2) 7), (.ld 11 (.t 10) false 1), (.fa 12 (.t 2) 8), (.ld 13 (.t 12) false 1), (.fa 14 (.t 3) 5), (.ld 15 (.t 14) false 1), (.bld 16 [(.int .i64 0), (.int .i64 0), (.int .i64 0), (.int .i64 0), (.int .i64 0), (.int .i64 0), (.int .i64 0), (.int .i64 0), (.int .i64 0), (.int .i64 0), (.int .i64 0), (.str (ByteArray.mk #[]))] [(0, 1, (.c (.int .i64 4))), (1, 1, (.t 7)), (2, 1, (.t 9)), (3, 1, (.t 11)), (4, 1, (.t 13)), (11, 1, (.t 15))]), (.st (.t 4) (.t 16) 12)]) .ret))
theorem e197 : compC prog f197.ntmps (f197.body.getD .skip) = c197 := by kernel_rfl
theorem l31 (t : Table) (slot : Int) (hn0 : t.len ≠ 0) (hL : (t.cells).length < 2 ^ 62) (k' : List It) (hk : ∀ zs, get zs 4 = .ptr 1 0 0 0 → V prog f31.ntmps 0 (Ret [(.cell 4 true 6), (.t 5)] 0 (.tup [.agg TCell.zero.enc, .bool false]) []) k' zs [.cells 0 3 24 true [t.enc], .cells 0 6 57 true [TCell.zero.enc]]) : ∀ (rest done : List TCell), t.cells = done ++ rest →
    Lp prog f31.ntmps 0 (Ret [(.cell 4 true 6), (.t 5)] 0 (.tup [.agg (((rest).find? fun c => decide (c.slot = slot.tmod t.len)).getD TCell.zero).enc, .bool ((rest).find? fun c => decide (c.slot = slot.tmod t.len)).isSome]) []) c31L1 (.blk 0 :: k') [(2, .ptr 0 0 0 0), (4, .ptr 1 0 0 0), (1, .int .i64 slot), (6, .int .i64 done.length)] [.cells 0 3 24 true [t.enc], .cells 0 6 57 true [TCell.zero.enc]] := by
  intro rest
  induction rest with
  | nil =>
    intro done hd
    refine Lp.of_eq hmx c31L1.eq_1 ?_
    have h1 := rg_end hd
    simp only [go_sem, seval, h1, List.length_map]
    exact hk _ (by rfl)
  | cons c rest ih =>
    intro done hd
    refine Lp.of_eq hmx c31L1.eq_1 ?_
    obtain ⟨h1, h2, h3, h4⟩ := rg_hd TCell.enc hd hL
    have ih' := ih _ h4
    rcases List.eq_nil_or_concat done with h0 | ⟨ds, p, h0⟩
    · obtain ⟨p1, hp⟩ := rg_first' h0
      repeat' first | (refine Lp.bkE0 ih' (by rfl) ?_) | (refine Rt_pure ?_ rfl; simp only [retO, retO1, retOs, S, get_cons, Nat.reduceEqDiff, reduceIte, obj, getO_cons_zero, getO_cons_succ, List.getElem?_cons_zero, List.getElem?_cons_succ, List.drop_zero, List.drop_succ_cons, loadFrom_cell, loadFrom_agg, List.length_cons, List.length_nil, Nat.reduceAdd, Nat.reduceLeDiff, List.take_succ_cons, List.take_zero, List.take_nil]) | (with_reducible intro h; try simp only [h]) | (with_reducible refine And.intro ?_ ?_) | (change chk _ _ = true; rfl) | simp only [go_sem, seval, Vc_bool, h1, h2, h3, Int.toNat_natCast, Int.natCast_nonneg, List.length_map, p1] | refine (GX_split rfl).2 ?_
      all_goals (clear hk ih ih' h1 h2 h3 h4 hd hL)
      all_goals clear p1 h0
      all_goals first | exact hn0 | (simp only [List.find?_cons]; simp_all) | grind
    · rw [List.concat_eq_append] at h0
      obtain ⟨p1, p2, p3, hp⟩ := rg_prev' TCell.enc hd h0 hL
      repeat' first | (refine Lp.bkE0 ih' (by rfl) ?_) | (refine Rt_pure ?_ rfl; simp only [retO, retO1, retOs, S, get_cons, Nat.reduceEqDiff, reduceIte, obj, getO_cons_zero, getO_cons_succ, List.getElem?_cons_zero, List.getElem?_cons_succ, List.drop_zero, List.drop_succ_cons, loadFrom_cell, loadFrom_agg, List.length_cons, List.length_nil, Nat.reduceAdd, Nat.reduceLeDiff, List.take_succ_cons, List.take_zero, List.take_nil]) | (with_reducible intro h; try simp only [h]) | (with_reducible refine And.intro ?_ ?_) | (change chk _ _ = true; rfl) | simp only [go_sem, seval, Vc_bool, h1, h2, h3, Int.toNat_natCast, Int.natCast_nonneg, List.length_map, p1, p2, p3] | refine (GX_split rfl).2 ?_
      all_goals (clear hk ih ih' h1 h2 h3 h4 hd hL)
      all_goals clear p1 p2 p3 h0
      all_goals first | exact hn0 | (simp only [List.find?_cons]; simp_all) | grind

theorem c31_pf (t : Table) (slot : Int) (hL : t.cells.length < 2 ^ 62) : ACalls prog 31 [.agg [.int .i64 t.node, .int .i64 t.len, .sl 6 (t.cells.map TCell.enc)], .int .i64 slot] [] (.tup [.agg ((tabAt t slot).getD TCell.zero).enc, .bool (tabAt t slot).isSome]) [] := by
  refine calls_of hmx func31 (by kernel_rfl) (c := f31.body.getD .skip) rfl e31 (rs := [(.cell 4 true 6), (.t 5)]) (by kernel_rfl) (by simp [ntmps31]) ?_
  simp only [c31, argS]
  simp only [go_sem, seval]
  repeat' first | refine CX_pure (c83_ok hL) rfl rfl rfl rfl ?_ | refine GX_call (fun _ => (c83_ok hL)) (by rfl) (by intro h; simp only [h]; rfl) (by rfl) (by rfl) ?_ | (with_reducible intro h; try simp only [h]) | (with_reducible refine And.intro ?_ ?_) | (change chk _ _ = true; rfl) | simp only [go_sem, seval, Vc_bool] | refine (GX_split rfl).2 ?_
  · have e : tabAt t slot = none := by
      rw [tabAt, if_pos]
      simpa using h
    rw [e]
    (refine Rt_pure ?_ rfl; simp only [retO, retO1, retOs, S, get_cons, Nat.reduceEqDiff, reduceIte, obj, getO_cons_zero, getO_cons_succ, List.getElem?_cons_zero, List.getElem?_cons_succ, List.drop_zero, List.drop_succ_cons, loadFrom_cell, loadFrom_agg, List.length_cons, List.length_nil, Nat.reduceAdd, Nat.reduceLeDiff, List.take_succ_cons, List.take_zero, List.take_nil])
    rfl
  · simp only [Bool.or_eq_false_iff, Bool.not_eq_false', decide_eq_true_eq, decide_eq_false_iff_not] at h
    have e : tabAt t slot = t.cells.find? fun c => decide (c.slot = slot.tmod t.len) := by
      rw [tabAt, if_neg]
      simp [h.1]; omega
    rw [e]
    have := tab_len h.1
    refine Lp.bkE0 (l31 t slot (by omega) hL _ (fun zs z4 => ?_) t.cells [] rfl) (by rfl) rfl
    repeat' first | (with_reducible intro h; try simp only [h]) | (with_reducible refine And.intro ?_ ?_) | (change chk _ _ = true; rfl) | simp only [go_sem, seval, Vc_bool, z4] | refine (GX_split rfl).2 ?_
    refine Rt_pure ?_ (by rfl)
    simp only [retO, retOs, retO1, S, get_cons, Nat.reduceEqDiff, reduceIte, z4]
    rfl
theorem c31_ok {t_node : Int} {t_len : Int} {t_cells : List TCell} {slot : Int} (hL : t_cells.length < 2 ^ 62) : ACalls prog 31 [.agg [.int .i64 t_node, .int .i64 t_len, .sl 6 (t_cells.map TCell.enc)], .int .i64 slot] [] (.tup [.agg ((tabAt (⟨t_node, t_len, t_cells⟩ : Table) slot).getD TCell.zero).enc, .bool (tabAt (⟨t_node, t_len, t_cells⟩ : Table) slot).isSome]) [] := c31_pf (⟨t_node, t_len, t_cells⟩ : Table) slot hL

theorem l107 (s : Station) (x : Int) (hL : (s.held).length < 2 ^ 62) (k' : List It) (hk : ∀ zs, V prog f107.ntmps 0 (Ret [(.t 4)] 0 (.int .i64 (-1)) []) k' zs [.cells 0 14 31 true [s.enc]]) : ∀ (rest done : List Held), s.held = done ++ rest →
    Lp prog f107.ntmps 0 (Ret [(.t 4)] 0 (.int .i64 (idxFrom (fun h : Held => decide (h.flow = x)) done.length rest)) []) c107L1 (.blk 0 :: k') [(2, .ptr 0 0 0 0), (1, .int .i64 x), (5, .int .i64 done.length)] [.cells 0 14 31 true [s.enc]] := by
  intro rest
  induction rest with
  | nil =>
    intro done hd
    refine Lp.of_eq hmx c107L1.eq_1 ?_
    have h1 := rg_end hd
    simp only [go_sem, seval, h1, List.length_map]
    exact hk _
  | cons c rest ih =>
    intro done hd
    refine Lp.of_eq hmx c107L1.eq_1 ?_
    obtain ⟨h1, h2, h3, h4⟩ := rg_hd Held.enc hd hL
    have ih' := ih _ h4
    rcases List.eq_nil_or_concat done with h0 | ⟨ds, p, h0⟩
    · obtain ⟨p1, hp⟩ := rg_first' h0
      repeat' first | (refine Lp.bkE0 ih' (by rfl) ?_) | (refine Rt_pure ?_ rfl; simp only [retO, retO1, retOs, S, get_cons, Nat.reduceEqDiff, reduceIte, obj, getO_cons_zero, getO_cons_succ, List.getElem?_cons_zero, List.getElem?_cons_succ, List.drop_zero, List.drop_succ_cons, loadFrom_cell, loadFrom_agg, List.length_cons, List.length_nil, Nat.reduceAdd, Nat.reduceLeDiff, List.take_succ_cons, List.take_zero, List.take_nil]) | (with_reducible intro h; try simp only [h]) | (with_reducible refine And.intro ?_ ?_) | (change chk _ _ = true; rfl) | simp only [go_sem, seval, Vc_bool, h1, h2, h3, Int.toNat_natCast, Int.natCast_nonneg, List.length_map, p1] | refine (GX_split rfl).2 ?_
      all_goals (clear hk ih ih' h1 h2 h3 h4 hd hL)
      all_goals clear p1 h0
      all_goals (simp only [idxFrom]; grind)
    · rw [List.concat_eq_append] at h0
      obtain ⟨p1, p2, p3, hp⟩ := rg_prev' Held.enc hd h0 hL
      repeat' first | (refine Lp.bkE0 ih' (by rfl) ?_) | (refine Rt_pure ?_ rfl; simp only [retO, retO1, retOs, S, get_cons, Nat.reduceEqDiff, reduceIte, obj, getO_cons_zero, getO_cons_succ, List.getElem?_cons_zero, List.getElem?_cons_succ, List.drop_zero, List.drop_succ_cons, loadFrom_cell, loadFrom_agg, List.length_cons, List.length_nil, Nat.reduceAdd, Nat.reduceLeDiff, List.take_succ_cons, List.take_zero, List.take_nil]) | (with_reducible intro h; try simp only [h]) | (with_reducible refine And.intro ?_ ?_) | (change chk _ _ = true; rfl) | simp only [go_sem, seval, Vc_bool, h1, h2, h3, Int.toNat_natCast, Int.natCast_nonneg, List.length_map, p1, p2, p3] | refine (GX_split rfl).2 ?_
      all_goals (clear hk ih ih' h1 h2 h3 h4 hd hL)
      all_goals clear p1 p2 p3 h0
      all_goals (simp only [idxFrom]; grind)

theorem c107_pf (s : Station) (x : Int) (hL : s.held.length < 2 ^ 62) : ACalls prog 107 [.agg [.int .i64 s.tab.node, .int .i64 s.tab.len, .sl 6 (s.tab.cells.map TCell.enc), .int .i64 s.q.limit, .sl 6 (s.q.pk.map Packet.enc), .sl 5 (s.held.map Held.enc), .sl 2 (s.seen.map Seen.enc), .int .i64 s.list, .int .i64 s.seq, .int .i64 s.trying, .int .i64 s.tries, .int .i64 s.back, .int .i64 s.wait, .int .i64 s.seed], .int .i64 x] [] (.int .i64 (heldIdx s.held x)) [] := by
  refine calls_of hmx func107 (by kernel_rfl) (c := f107.body.getD .skip) rfl e107 (rs := [(.t 4)]) (by kernel_rfl) (by simp [ntmps107]) ?_
  simp only [c107, argS]
  simp only [go_sem, seval]
  refine Lp.bkE0 (l107 s x hL _ (fun zs => ?_) s.held [] rfl) (by rfl) rfl
  simp only [go_sem, seval]
  (refine Rt_pure ?_ rfl; simp only [retO, retO1, retOs, S, get_cons, Nat.reduceEqDiff, reduceIte, obj, getO_cons_zero, getO_cons_succ, List.getElem?_cons_zero, List.getElem?_cons_succ, List.drop_zero, List.drop_succ_cons, loadFrom_cell, loadFrom_agg, List.length_cons, List.length_nil, Nat.reduceAdd, Nat.reduceLeDiff, List.take_succ_cons, List.take_zero, List.take_nil])
theorem c107_ok {s_tab_node : Int} {s_tab_len : Int} {s_tab_cells : List TCell} {s_q_limit : Int} {s_q_pk : List Packet} {s_held : List Held} {s_seen : List Seen} {s_list : Int} {s_seq : Int} {s_trying : Int} {s_tries : Int} {s_back : Int} {s_wait : Int} {s_seed : Int} {x : Int} (hL : s_held.length < 2 ^ 62) : ACalls prog 107 [.agg [.int .i64 s_tab_node, .int .i64 s_tab_len, .sl 6 (s_tab_cells.map TCell.enc), .int .i64 s_q_limit, .sl 6 (s_q_pk.map Packet.enc), .sl 5 (s_held.map Held.enc), .sl 2 (s_seen.map Seen.enc), .int .i64 s_list, .int .i64 s_seq, .int .i64 s_trying, .int .i64 s_tries, .int .i64 s_back, .int .i64 s_wait, .int .i64 s_seed], .int .i64 x] [] (.int .i64 (heldIdx s_held x)) [] := c107_pf (⟨(⟨s_tab_node, s_tab_len, s_tab_cells⟩ : Table), (⟨s_q_limit, s_q_pk⟩ : Queue), s_held, s_seen, s_list, s_seq, s_trying, s_tries, s_back, s_wait, s_seed⟩ : Station) x hL

theorem l195 (l : List Int) (x : Int) (hL : (l).length < 2 ^ 62) (k' : List It) (hk : ∀ zs, V prog f195.ntmps 0 (Ret [(.t 4)] 0 (.bool false) []) k' zs []) : ∀ (rest done : List Int), l = done ++ rest →
    Lp prog f195.ntmps 0 (Ret [(.t 4)] 0 (.bool ((rest).any fun y => decide (y = x))) []) c195L1 (.blk 0 :: k') [(0, .sl 1 (l.map eI)), (1, .int .i64 x), (5, .int .i64 done.length)] [] := by
  intro rest
  induction rest with
  | nil =>
    intro done hd
    refine Lp.of_eq hmx c195L1.eq_1 ?_
    have h1 := rg_end hd
    simp only [go_sem, seval, h1, List.length_map]
    exact hk _
  | cons c rest ih =>
    intro done hd
    refine Lp.of_eq hmx c195L1.eq_1 ?_
    obtain ⟨h1, h2, h3, h4⟩ := rg_hd eI hd hL
    have ih' := ih _ h4
    rcases List.eq_nil_or_concat done with h0 | ⟨ds, p, h0⟩
    · obtain ⟨p1, hp⟩ := rg_first' h0
      repeat' first | (refine Lp.bkE0 ih' (by rfl) ?_) | (refine Rt_pure ?_ rfl; simp only [retO, retO1, retOs, S, get_cons, Nat.reduceEqDiff, reduceIte, obj, getO_cons_zero, getO_cons_succ, List.getElem?_cons_zero, List.getElem?_cons_succ, List.drop_zero, List.drop_succ_cons, loadFrom_cell, loadFrom_agg, List.length_cons, List.length_nil, Nat.reduceAdd, Nat.reduceLeDiff, List.take_succ_cons, List.take_zero, List.take_nil]) | (with_reducible intro h; try simp only [h]) | (with_reducible refine And.intro ?_ ?_) | (change chk _ _ = true; rfl) | simp only [go_sem, seval, Vc_bool, h1, h2, h3, Int.toNat_natCast, Int.natCast_nonneg, List.length_map, p1] | refine (GX_split rfl).2 ?_
      all_goals (clear hk ih ih' h1 h2 h3 h4 hd hL)
      all_goals clear p1 h0
      all_goals (simp only [List.any_cons]; grind)
    · rw [List.concat_eq_append] at h0
      obtain ⟨p1, p2, p3, hp⟩ := rg_prev' eI hd h0 hL
      repeat' first | (refine Lp.bkE0 ih' (by rfl) ?_) | (refine Rt_pure ?_ rfl; simp only [retO, retO1, retOs, S, get_cons, Nat.reduceEqDiff, reduceIte, obj, getO_cons_zero, getO_cons_succ, List.getElem?_cons_zero, List.getElem?_cons_succ, List.drop_zero, List.drop_succ_cons, loadFrom_cell, loadFrom_agg, List.length_cons, List.length_nil, Nat.reduceAdd, Nat.reduceLeDiff, List.take_succ_cons, List.take_zero, List.take_nil]) | (with_reducible intro h; try simp only [h]) | (with_reducible refine And.intro ?_ ?_) | (change chk _ _ = true; rfl) | simp only [go_sem, seval, Vc_bool, h1, h2, h3, Int.toNat_natCast, Int.natCast_nonneg, List.length_map, p1, p2, p3] | refine (GX_split rfl).2 ?_
      all_goals (clear hk ih ih' h1 h2 h3 h4 hd hL)
      all_goals clear p1 p2 p3 h0
      all_goals (simp only [List.any_cons]; grind)

theorem c195_ok {l : List Int} {x : Int} (hL : l.length < 2 ^ 62) : ACalls prog 195 [.sl 1 (l.map eI), .int .i64 x] [] (.bool (l.any fun y => decide (y = x))) [] := by
  refine calls_of hmx func195 (by kernel_rfl) (c := f195.body.getD .skip) rfl e195 (rs := [(.t 4)]) (by kernel_rfl) (by simp [ntmps195]) ?_
  simp only [c195, argS]
  simp only [go_sem, seval]
  refine Lp.bkE0 (l195 l x hL _ (fun s => ?_) l [] rfl) (by rfl) rfl
  simp only [go_sem, seval]
  (refine Rt_pure ?_ rfl; simp only [retO, retO1, retOs, S, get_cons, Nat.reduceEqDiff, reduceIte, obj, getO_cons_zero, getO_cons_succ, List.getElem?_cons_zero, List.getElem?_cons_succ, List.drop_zero, List.drop_succ_cons, loadFrom_cell, loadFrom_agg, List.length_cons, List.length_nil, Nat.reduceAdd, Nat.reduceLeDiff, List.take_succ_cons, List.take_zero, List.take_nil])
theorem l196 (q : Queue) (to : Int) (hL : (q.pk).length < 2 ^ 62) (k' : List It) (hk : ∀ zs, get zs 4 = .ptr 1 0 0 0 → V prog f196.ntmps 0 (Ret [(.cell 4 true 6), (.t 5)] 0 (.tup [.agg Packet.zero.enc, .bool false]) []) k' zs [.cells 0 2 27 true [q.enc], .cells 0 6 104 true [Packet.zero.enc]]) : ∀ (rest done : List Packet), q.pk = done ++ rest →
    Lp prog f196.ntmps 0 (Ret [(.cell 4 true 6), (.t 5)] 0 (.tup [.agg (((rest).find? fun p => decide (p.to = to)).getD Packet.zero).enc, .bool ((rest).find? fun p => decide (p.to = to)).isSome]) []) c196L1 (.blk 0 :: k') [(2, .ptr 0 0 0 0), (4, .ptr 1 0 0 0), (1, .int .i64 to), (6, .int .i64 done.length)] [.cells 0 2 27 true [q.enc], .cells 0 6 104 true [Packet.zero.enc]] := by
  intro rest
  induction rest with
  | nil =>
    intro done hd
    refine Lp.of_eq hmx c196L1.eq_1 ?_
    have h1 := rg_end hd
    simp only [go_sem, seval, h1, List.length_map]
    exact hk _ (by rfl)
  | cons c rest ih =>
    intro done hd
    refine Lp.of_eq hmx c196L1.eq_1 ?_
    obtain ⟨h1, h2, h3, h4⟩ := rg_hd Packet.enc hd hL
    have ih' := ih _ h4
    rcases List.eq_nil_or_concat done with h0 | ⟨ds, p, h0⟩
    · obtain ⟨p1, hp⟩ := rg_first' h0
      repeat' first | (refine Lp.bkE0 ih' (by rfl) ?_) | (refine Rt_pure ?_ rfl; simp only [retO, retO1, retOs, S, get_cons, Nat.reduceEqDiff, reduceIte, obj, getO_cons_zero, getO_cons_succ, List.getElem?_cons_zero, List.getElem?_cons_succ, List.drop_zero, List.drop_succ_cons, loadFrom_cell, loadFrom_agg, List.length_cons, List.length_nil, Nat.reduceAdd, Nat.reduceLeDiff, List.take_succ_cons, List.take_zero, List.take_nil]) | (with_reducible intro h; try simp only [h]) | (with_reducible refine And.intro ?_ ?_) | (change chk _ _ = true; rfl) | simp only [go_sem, seval, Vc_bool, h1, h2, h3, Int.toNat_natCast, Int.natCast_nonneg, List.length_map, p1] | refine (GX_split rfl).2 ?_
      all_goals (clear hk ih ih' h1 h2 h3 h4 hd hL)
      all_goals clear p1 h0
      all_goals first | (simp only [List.find?_cons]; simp_all) | grind
    · rw [List.concat_eq_append] at h0
      obtain ⟨p1, p2, p3, hp⟩ := rg_prev' Packet.enc hd h0 hL
      repeat' first | (refine Lp.bkE0 ih' (by rfl) ?_) | (refine Rt_pure ?_ rfl; simp only [retO, retO1, retOs, S, get_cons, Nat.reduceEqDiff, reduceIte, obj, getO_cons_zero, getO_cons_succ, List.getElem?_cons_zero, List.getElem?_cons_succ, List.drop_zero, List.drop_succ_cons, loadFrom_cell, loadFrom_agg, List.length_cons, List.length_nil, Nat.reduceAdd, Nat.reduceLeDiff, List.take_succ_cons, List.take_zero, List.take_nil]) | (with_reducible intro h; try simp only [h]) | (with_reducible refine And.intro ?_ ?_) | (change chk _ _ = true; rfl) | simp only [go_sem, seval, Vc_bool, h1, h2, h3, Int.toNat_natCast, Int.natCast_nonneg, List.length_map, p1, p2, p3] | refine (GX_split rfl).2 ?_
      all_goals (clear hk ih ih' h1 h2 h3 h4 hd hL)
      all_goals clear p1 p2 p3 h0
      all_goals first | (simp only [List.find?_cons]; simp_all) | grind

theorem c196_pf (q : Queue) (to : Int) (hL : q.pk.length < 2 ^ 62) : ACalls prog 196 [.agg [.int .i64 q.limit, .sl 6 (q.pk.map Packet.enc)], .int .i64 to] [] (oPk (qFirst q to)) [] := by
  have e0 : qErr q ≠ 0 → qFirst q to = none := fun h => by rw [qFirst, if_pos h]
  have e1 : qErr q = 0 → qFirst q to = q.pk.find? fun p => decide (p.to = to) := fun h => by rw [qFirst, if_neg (by simpa using h)]
  refine calls_of hmx func196 (by kernel_rfl) (c := f196.body.getD .skip) rfl e196 (rs := [(.cell 4 true 6), (.t 5)]) (by kernel_rfl) (by simp [ntmps196]) ?_
  simp only [c196, argS]
  simp only [go_sem, seval]
  repeat' first | refine CX_pure (c88_ok hL) rfl rfl rfl rfl ?_ | refine GX_call (fun _ => (c88_ok hL)) (by rfl) (by intro h; simp only [h]; rfl) (by rfl) (by rfl) ?_ | (with_reducible intro h; try simp only [h]) | (with_reducible refine And.intro ?_ ?_) | (change chk _ _ = true; rfl) | simp only [go_sem, seval, Vc_bool] | refine (GX_split rfl).2 ?_
  · rw [e0 (by simpa using h)]
    (refine Rt_pure ?_ rfl; simp only [retO, retO1, retOs, S, get_cons, Nat.reduceEqDiff, reduceIte, obj, getO_cons_zero, getO_cons_succ, List.getElem?_cons_zero, List.getElem?_cons_succ, List.drop_zero, List.drop_succ_cons, loadFrom_cell, loadFrom_agg, List.length_cons, List.length_nil, Nat.reduceAdd, Nat.reduceLeDiff, List.take_succ_cons, List.take_zero, List.take_nil])
    rfl
  · rw [e1 (by simpa using h)]
    refine Lp.bkE0 (l196 q to hL _ (fun zs z4 => ?_) q.pk [] rfl) (by rfl) rfl
    repeat' first | (with_reducible intro h; try simp only [h]) | (with_reducible refine And.intro ?_ ?_) | (change chk _ _ = true; rfl) | simp only [go_sem, seval, Vc_bool, z4] | refine (GX_split rfl).2 ?_
    refine Rt_pure ?_ (by rfl)
    simp only [retO, retOs, retO1, S, get_cons, Nat.reduceEqDiff, reduceIte, z4]
    rfl
theorem c196_ok {q_limit : Int} {q_pk : List Packet} {to : Int} (hL : q_pk.length < 2 ^ 62) : ACalls prog 196 [.agg [.int .i64 q_limit, .sl 6 (q_pk.map Packet.enc)], .int .i64 to] [] (oPk (qFirst (⟨q_limit, q_pk⟩ : Queue) to)) [] := c196_pf (⟨q_limit, q_pk⟩ : Queue) to hL

theorem c197_ok {s : Station} {p : Packet} : ACalls prog 197 [.agg s.enc, .agg p.enc] [] (.agg (msgOf s p).enc) [] := by
  refine calls_of hmx func197 (by kernel_rfl) (c := f197.body.getD .skip) rfl e197 (rs := [(.cell 4 true 12)]) (by kernel_rfl) (by simp [ntmps197]) ?_
  simp only [c197, argS]
  simp only [go_sem, seval]
  exact Rt_pure (by rfl) (by rfl)
def c303L1 : SC := (.seq (.seq (.reg [(.mv 6 (.t 5)), (.fa 7 (.t 2) 2), (.ld 8 (.t 7) false 1), (.len 9 false (.t 8)), (.bin 10 .lss (.t 6) (.t 9))]) (.cond (.t 10) .skip (.exit 0))) (.seq (.block 1 (.seq (.reg [(.fa 13 (.t 2) 2), (.ld 14 (.t 13) false 1), (.mv 15 (.t 5)), (.ia 16 (.t 14) (.t 15) 6), (.fa 17 (.t 16) 2), (.ld 18 (.t 17) false 1), (.bin 19 .eql (.t 18) (.c (.int .i64 2))), (.mv 20 (.t 19)), (.g 20 true (some 21) (.fa 21 (.t 2) 2)), (.g 20 true (some 22) (.ld 22 (.t 21) false 1)), (.g 20 true (some 23) (.mv 23 (.t 5))), (.g 20 true (some 24) (.ia 24 (.t 22) (.t 23) 6)), (.g 20 true (some 25) (.fa 25 (.t 24) 3)), (.g 20 true (some 26) (.ld 26 (.t 25) false 1)), (.pick 27 (.t 20) (.t 26) (.c (.bool false))), (.mv 28 (.t 27)), (.g 28 true (some 29) (.fa 29 (.t 2) 2)), (.g 28 true (some 30) (.ld 30 (.t 29) false 1)), (.g 28 true (some 31) (.mv 31 (.t 5))), (.g 28 true (some 32) (.ia 32 (.t 30) (.t 31) 6)), (.g 28 true (some 33) (.fa 33 (.t 32) 4)), (.g 28 true (some 34) (.ld 34 (.t 33) false 1)), (.g 28 true (some 35) (.mv 35 (.t 1))), (.g 28 true (some 36) (.bin 36 .eql (.t 34) (.t 35))), (.pick 37 (.t 28) (.t 36) (.c (.bool false)))]) (.cond (.t 37) (.seq (.reg [(.mv 4 (.c (.bool true)))]) .ret) .skip))) (.reg [(.mv 11 (.t 5)), (.bin 12 .add (.t 11) (.c (.int .i64 1))), (.mv 5 (.t 12))])))
def c303 : SC := (.seq (.reg [(.box 2 24 (.t 0)), (.mv 4 (.c (.bool false)))]) (.seq (.seq (.reg [(.mv 5 (.c (.int .i64 0)))]) (.block 0 (.loop c303L1))) (.seq (.reg [(.mv 4 (.c (.bool false)))]) .ret)))
theorem e303 : compC prog f303.ntmps (f303.body.getD .skip) = c303 := by kernel_rfl
def c198L1 : SC := (.seq (.seq (.reg [(.mv 6 (.t 4)), (.fa 7 (.t 1) 3), (.fa 8 (.t 7) 1), (.ld 9 (.t 8) false 1), (.len 10 false (.t 9)), (.bin 11 .lss (.t 6) (.t 10))]) (.cond (.t 11) .skip (.exit 0))) (.seq (.block 1 (.seq (.reg [(.fa 14 (.t 1) 3), (.fa 15 (.t 14) 1), (.ld 16 (.t 15) false 1), (.mv 17 (.t 4)), (.ia 18 (.t 16) (.t 17) 6), (.ld 19 (.t 18) true 6), (.alc 5 104 [(.int .i64 0), (.int .i64 0), (.int .i64 0), (.int .i64 0), (.int .i64 0), (.str (ByteArray.mk #[]))]), (.st (.t 5) (.t 19) 6)]) (.seq (.reg [(.fa 20 (.t 5) 1), (.ld 21 (.t 20) false 1), (.bin 22 .eql (.t 21) (.c (.int .i64 (-1)))), (.mv 23 (.t 22)), (.g 23 false (some 24) (.fa 24 (.t 1) 0)), (.g 23 false (some 25) (.ld 25 (.t 24) true 3)), (.g 23 false (some 26) (.fa 26 (.t 5) 1)), (.g 23 false (some 27) (.ld 27 (.t 26) false 1)), (.g 23 false (some 28) (.call (some 28) (.c (.func 303 [] [])) [(.t 25), (.t 27)])), (.g 23 false (some 29) (.not 29 (.t 28))), (.pick 30 (.t 23) (.c (.bool true)) (.t 29))]) (.cond (.t 30) (.seq (.reg [(.ld 31 (.t 5) true 6), (.st (.t 2) (.t 31) 6), (.mv 3 (.c (.bool true)))]) .ret) .skip)))) (.reg [(.mv 12 (.t 4)), (.bin 13 .add (.t 12) (.c (.int .i64 1))), (.mv 4 (.t 13))])))
def c198 : SC := (.seq (.reg [(.box 1 31 (.t 0)), (.alc 2 104 [(.int .i64 0), (.int .i64 0), (.int .i64 0), (.int .i64 0), (.int .i64 0), (.str (ByteArray.mk #[]))]), (.mv 3 (.c (.bool false)))]) (.seq (.seq (.reg [(.mv 4 (.c (.int .i64 0)))]) (.block 0 (.loop c198L1))) (.seq (.reg [(.bld 32 [(.int .i64 0), (.int .i64 0), (.int .i64 0), (.int .i64 0), (.int .i64 0), (.str (ByteArray.mk #[]))] []), (.st (.t 2) (.t 32) 6), (.mv 3 (.c (.bool false)))]) .ret)))
theorem e198 : compC prog f198.ntmps (f198.body.getD .skip) = c198 := by kernel_rfl
def agreedB (t : Table) (to : Int) : Bool := t.cells.any fun c => decide (c.kind = 2) && c.send && decide (c.peer = to)
theorem l303 (t : Table) (to : Int) (hL : (t.cells).length < 2 ^ 62) (k' : List It) (hk : ∀ zs, V prog f303.ntmps 0 (Ret [(.t 4)] 0 (.bool false) []) k' zs [.cells 0 3 24 true [t.enc]]) : ∀ (rest done : List TCell), t.cells = done ++ rest →
    Lp prog f303.ntmps 0 (Ret [(.t 4)] 0 (.bool ((rest).any fun c => decide (c.kind = 2) && c.send && decide (c.peer = to))) []) c303L1 (.blk 0 :: k') [(2, .ptr 0 0 0 0), (1, .int .i64 to), (5, .int .i64 done.length)] [.cells 0 3 24 true [t.enc]] := by
  intro rest
  induction rest with
  | nil =>
    intro done hd
    refine Lp.of_eq hmx c303L1.eq_1 ?_
    have h1 := rg_end hd
    simp only [go_sem, seval, h1, List.length_map]
    exact hk _
  | cons c rest ih =>
    intro done hd
    refine Lp.of_eq hmx c303L1.eq_1 ?_
    obtain ⟨h1, h2, h3, h4⟩ := rg_hd TCell.enc hd hL
    have ih' := ih _ h4
    rcases List.eq_nil_or_concat done with h0 | ⟨ds, p, h0⟩
    · obtain ⟨p1, hp⟩ := rg_first' h0
      cases hw0 : (decide (c.kind = 2)) <;> cases hw1 : (c.send)
      all_goals
        repeat' first | (refine Lp.bkE0 ih' (by rfl) ?_) | (refine Rt_pure ?_ rfl; simp only [retO, retO1, retOs, S, get_cons, Nat.reduceEqDiff, reduceIte, obj, getO_cons_zero, getO_cons_succ, List.getElem?_cons_zero, List.getElem?_cons_succ, List.drop_zero, List.drop_succ_cons, loadFrom_cell, loadFrom_agg, List.length_cons, List.length_nil, Nat.reduceAdd, Nat.reduceLeDiff, List.take_succ_cons, List.take_zero, List.take_nil]) | (with_reducible intro h; try simp only [h]) | (with_reducible refine And.intro ?_ ?_) | (change chk _ _ = true; rfl) | simp only [go_sem, seval, Vc_bool, h1, h2, h3, Int.toNat_natCast, Int.natCast_nonneg, List.length_map, hw0, hw1, p1] | refine (GX_split rfl).2 ?_
        all_goals (clear hk ih ih' h1 h2 h3 h4 hd hL)
        all_goals clear p1 h0
        all_goals (simp only [List.any_cons]; grind)
    · rw [List.concat_eq_append] at h0
      obtain ⟨p1, p2, p3, hp⟩ := rg_prev' TCell.enc hd h0 hL
      cases hw0 : (decide (c.kind = 2)) <;> cases hw1 : (c.send)
      all_goals
        repeat' first | (refine Lp.bkE0 ih' (by rfl) ?_) | (refine Rt_pure ?_ rfl; simp only [retO, retO1, retOs, S, get_cons, Nat.reduceEqDiff, reduceIte, obj, getO_cons_zero, getO_cons_succ, List.getElem?_cons_zero, List.getElem?_cons_succ, List.drop_zero, List.drop_succ_cons, loadFrom_cell, loadFrom_agg, List.length_cons, List.length_nil, Nat.reduceAdd, Nat.reduceLeDiff, List.take_succ_cons, List.take_zero, List.take_nil]) | (with_reducible intro h; try simp only [h]) | (with_reducible refine And.intro ?_ ?_) | (change chk _ _ = true; rfl) | simp only [go_sem, seval, Vc_bool, h1, h2, h3, Int.toNat_natCast, Int.natCast_nonneg, List.length_map, hw0, hw1, p1, p2, p3] | refine (GX_split rfl).2 ?_
        all_goals (clear hk ih ih' h1 h2 h3 h4 hd hL)
        all_goals clear p1 p2 p3 h0
        all_goals (simp only [List.any_cons]; grind)

theorem c303_pf (t : Table) (to : Int) (hL : t.cells.length < 2 ^ 62) : ACalls prog 303 [.agg [.int .i64 t.node, .int .i64 t.len, .sl 6 (t.cells.map TCell.enc)], .int .i64 to] [] (.bool (agreedB t to)) [] := by
  refine calls_of hmx func303 (by kernel_rfl) (c := f303.body.getD .skip) rfl e303 (rs := [(.t 4)]) (by kernel_rfl) (by simp [ntmps303]) ?_
  simp only [c303, argS]
  simp only [go_sem, seval]
  refine Lp.bkE0 (l303 t to hL _ (fun zs => ?_) t.cells [] rfl) (by rfl) rfl
  simp only [go_sem, seval]
  (refine Rt_pure ?_ rfl; simp only [retO, retO1, retOs, S, get_cons, Nat.reduceEqDiff, reduceIte, obj, getO_cons_zero, getO_cons_succ, List.getElem?_cons_zero, List.getElem?_cons_succ, List.drop_zero, List.drop_succ_cons, loadFrom_cell, loadFrom_agg, List.length_cons, List.length_nil, Nat.reduceAdd, Nat.reduceLeDiff, List.take_succ_cons, List.take_zero, List.take_nil])
theorem c303_ok {t_node : Int} {t_len : Int} {t_cells : List TCell} {to : Int} (hL : t_cells.length < 2 ^ 62) : ACalls prog 303 [.agg [.int .i64 t_node, .int .i64 t_len, .sl 6 (t_cells.map TCell.enc)], .int .i64 to] [] (.bool (agreedB (⟨t_node, t_len, t_cells⟩ : Table) to)) [] := c303_pf (⟨t_node, t_len, t_cells⟩ : Table) to hL

theorem l198 (s : Station) (hC : s.tab.cells.length < 2 ^ 62) (hL : (s.q.pk).length < 2 ^ 62) (k' : List It) (hk : ∀ zs, get zs 2 = .ptr 1 0 0 0 → V prog f198.ntmps 0 (Ret [(.cell 2 true 6), (.t 3)] 0 (.tup [.agg Packet.zero.enc, .bool false]) []) k' zs [.cells 0 14 31 true [s.enc], .cells 0 6 104 true [Packet.zero.enc]]) : ∀ (rest done : List Packet), s.q.pk = done ++ rest →
    Lp prog f198.ntmps 0 (Ret [(.cell 2 true 6), (.t 3)] 0 (.tup [.agg (((rest).find? (candP s)).getD Packet.zero).enc, .bool ((rest).find? (candP s)).isSome]) []) c198L1 (.blk 0 :: k') [(1, .ptr 0 0 0 0), (2, .ptr 1 0 0 0), (4, .int .i64 done.length)] [.cells 0 14 31 true [s.enc], .cells 0 6 104 true [Packet.zero.enc]] := by
  intro rest
  induction rest with
  | nil =>
    intro done hd
    refine Lp.of_eq hmx c198L1.eq_1 ?_
    have h1 := rg_end hd
    simp only [go_sem, seval, h1, List.length_map]
    exact hk _ (by rfl)
  | cons c rest ih =>
    intro done hd
    refine Lp.of_eq hmx c198L1.eq_1 ?_
    obtain ⟨h1, h2, h3, h4⟩ := rg_hd Packet.enc hd hL
    have ih' := ih _ h4
    rcases List.eq_nil_or_concat done with h0 | ⟨ds, p, h0⟩
    · obtain ⟨p1, hp⟩ := rg_first' h0
      repeat' first | (refine Lp.bkE [_] ih' (by rfl) (by rfl) (by rfl) (Nat.zero_le _) ?_) | (refine Rt_pure ?_ rfl; simp only [retO, retO1, retOs, S, get_cons, Nat.reduceEqDiff, reduceIte, obj, getO_cons_zero, getO_cons_succ, List.getElem?_cons_zero, List.getElem?_cons_succ, List.drop_zero, List.drop_succ_cons, loadFrom_cell, loadFrom_agg, List.length_cons, List.length_nil, Nat.reduceAdd, Nat.reduceLeDiff, List.take_succ_cons, List.take_zero, List.take_nil]) | refine CX_pure (c303_pf s.tab c.to hC) rfl rfl rfl rfl ?_ | refine GX_call (fun _ => (c303_pf s.tab c.to hC)) (by rfl) (by intro h; simp only [h]; rfl) (by rfl) (by rfl) ?_ | (with_reducible intro h; try simp only [h]) | (with_reducible refine And.intro ?_ ?_) | (change chk _ _ = true; rfl) | simp only [go_sem, seval, Vc_bool, h1, h2, h3, Int.toNat_natCast, Int.natCast_nonneg, List.length_map, p1] | refine (GX_split rfl).2 ?_
      all_goals (clear hk ih ih' h1 h2 h3 h4 hd hL)
      all_goals clear p1 h0
      all_goals first | (simp only [List.find?_cons, candP]; simp_all [agreedB]; done) | (simp only [List.find?_cons, candP, agreedB] at *; grind)
    · rw [List.concat_eq_append] at h0
      obtain ⟨p1, p2, p3, hp⟩ := rg_prev' Packet.enc hd h0 hL
      repeat' first | (refine Lp.bkE [_] ih' (by rfl) (by rfl) (by rfl) (Nat.zero_le _) ?_) | (refine Rt_pure ?_ rfl; simp only [retO, retO1, retOs, S, get_cons, Nat.reduceEqDiff, reduceIte, obj, getO_cons_zero, getO_cons_succ, List.getElem?_cons_zero, List.getElem?_cons_succ, List.drop_zero, List.drop_succ_cons, loadFrom_cell, loadFrom_agg, List.length_cons, List.length_nil, Nat.reduceAdd, Nat.reduceLeDiff, List.take_succ_cons, List.take_zero, List.take_nil]) | refine CX_pure (c303_pf s.tab c.to hC) rfl rfl rfl rfl ?_ | refine GX_call (fun _ => (c303_pf s.tab c.to hC)) (by rfl) (by intro h; simp only [h]; rfl) (by rfl) (by rfl) ?_ | (with_reducible intro h; try simp only [h]) | (with_reducible refine And.intro ?_ ?_) | (change chk _ _ = true; rfl) | simp only [go_sem, seval, Vc_bool, h1, h2, h3, Int.toNat_natCast, Int.natCast_nonneg, List.length_map, p1, p2, p3] | refine (GX_split rfl).2 ?_
      all_goals (clear hk ih ih' h1 h2 h3 h4 hd hL)
      all_goals clear p1 p2 p3 h0
      all_goals first | (simp only [List.find?_cons, candP]; simp_all [agreedB]; done) | (simp only [List.find?_cons, candP, agreedB] at *; grind)

theorem c198_pf (s : Station) (hC : s.tab.cells.length < 2 ^ 62) (hL : s.q.pk.length < 2 ^ 62) : ACalls prog 198 [.agg [.int .i64 s.tab.node, .int .i64 s.tab.len, .sl 6 (s.tab.cells.map TCell.enc), .int .i64 s.q.limit, .sl 6 (s.q.pk.map Packet.enc), .sl 5 (s.held.map Held.enc), .sl 2 (s.seen.map Seen.enc), .int .i64 s.list, .int .i64 s.seq, .int .i64 s.trying, .int .i64 s.tries, .int .i64 s.back, .int .i64 s.wait, .int .i64 s.seed]] [] (oPk (candidate s)) [] := by
  have e : candidate s = s.q.pk.find? (candP s) := rfl
  rw [e]
  refine calls_of hmx func198 (by kernel_rfl) (c := f198.body.getD .skip) rfl e198 (rs := [(.cell 2 true 6), (.t 3)]) (by kernel_rfl) (by simp [ntmps198]) ?_
  simp only [c198, argS]
  simp only [go_sem, seval]
  refine Lp.bkE0 (l198 s hC hL _ (fun zs z4 => ?_) s.q.pk [] rfl) (by rfl) rfl
  repeat' first | (with_reducible intro h; try simp only [h]) | (with_reducible refine And.intro ?_ ?_) | (change chk _ _ = true; rfl) | simp only [go_sem, seval, Vc_bool, z4] | refine (GX_split rfl).2 ?_
  refine Rt_pure ?_ (by rfl)
  simp only [retO, retOs, retO1, S, get_cons, Nat.reduceEqDiff, reduceIte, z4]
  rfl
theorem c198_ok {s_tab_node : Int} {s_tab_len : Int} {s_tab_cells : List TCell} {s_q_limit : Int} {s_q_pk : List Packet} {s_held : List Held} {s_seen : List Seen} {s_list : Int} {s_seq : Int} {s_trying : Int} {s_tries : Int} {s_back : Int} {s_wait : Int} {s_seed : Int} (hC : s_tab_cells.length < 2 ^ 62) (hL : s_q_pk.length < 2 ^ 62) : ACalls prog 198 [.agg [.int .i64 s_tab_node, .int .i64 s_tab_len, .sl 6 (s_tab_cells.map TCell.enc), .int .i64 s_q_limit, .sl 6 (s_q_pk.map Packet.enc), .sl 5 (s_held.map Held.enc), .sl 2 (s_seen.map Seen.enc), .int .i64 s_list, .int .i64 s_seq, .int .i64 s_trying, .int .i64 s_tries, .int .i64 s_back, .int .i64 s_wait, .int .i64 s_seed]] [] (oPk (candidate (⟨(⟨s_tab_node, s_tab_len, s_tab_cells⟩ : Table), (⟨s_q_limit, s_q_pk⟩ : Queue), s_held, s_seen, s_list, s_seq, s_trying, s_tries, s_back, s_wait, s_seed⟩ : Station))) [] := c198_pf (⟨(⟨s_tab_node, s_tab_len, s_tab_cells⟩ : Table), (⟨s_q_limit, s_q_pk⟩ : Queue), s_held, s_seen, s_list, s_seq, s_trying, s_tries, s_back, s_wait, s_seed⟩ : Station) hC hL


end Go.Av.T
set_option maxRecDepth 100000
set_option maxHeartbeats 1000000
set_option linter.unusedSimpArgs false
set_option linter.unusedVariables false
namespace Go.Av.T
open Go Go.Av Go.Av.Sp Go.Proofs.Tryz
def c98 : SC := (.seq (.reg [(.box 2 31 (.t 0)), (.alc 4 170 [(.int .i64 0), (.int .i64 0), (.int .i64 0), (.int .i64 0), (.int .i64 0), (.int .i64 0), (.int .i64 0), (.int .i64 0), (.int .i64 0), (.int .i64 0), (.int .i64 0), (.int .i64 0), (.int .i64 0), (.str (ByteArray.mk #[])), (.int .i64 0), (.int .i64 0), (.int .i64 0), (.bool false), (.int .i64 0), (.int .i64 0), (.int .i64 0), (.int .i64 0), (.int .i64 0), (.int .i64 0), (.int .i64 0), (.str (ByteArray.mk #[])), (.bool false)])]) (.seq (.reg [(.fa 13 (.t 2) 0), (.ld 14 (.t 13) true 3), (.mv 15 (.t 1)), (.call (some 16) (.c (.func 31 [] [])) [(.t 14), (.t 15)]), (.mv 12 (.t 16)), (.ext 17 (.t 12) 0), (.ext 18 (.t 12) 1), (.alc 5 57 [(.int .i64 0), (.int .i64 0), (.int .i64 0), (.bool false), (.int .i64 0), (.int .i64 0)]), (.st (.t 5) (.t 17) 6), (.mv 6 (.t 18))]) (.seq (.seq (.reg [(.mv 19 (.t 6)), (.not 20 (.t 19))]) (.cond (.t 20) (.seq (.reg [(.bld 21 [(.int .i64 0), (.int .i64 0), (.int .i64 0), (.int .i64 0), (.int .i64 0), (.int .i64 0), (.int .i64 0), (.int .i64 0), (.int .i64 0), (.int .i64 0), (.int .i64 0), (.int .i64 0), (.int .i64 0), (.str (ByteArray.mk #[])), (.int .i64 0), (.int .i64 0), (.int .i64 0), (.bool false), (.int .i64 0), (.int .i64 0), (.int .i64 0), (.int .i64 0), (.int .i64 0), (.int .i64 0), (.int .i64 0), (.str (ByteArray.mk #[])), (.bool false)] []), (.st (.t 4) (.t 21) 27)]) .ret) .skip)) (.seq (.reg [(.ld 22 (.t 5) true 6), (.fa 23 (.t 5) 1), (.ld 24 (.t 23) false 1), (.bld 25 [(.int .i64 0), (.int .i64 0), (.int .i64 0), (.int .i64 0), (.int .i64 0), (.int .i64 0), (.int .i64 0), (.int .i64 0), (.int .i64 0), (.int .i64 0), (.int .i64 0), (.int .i64 0), (.int .i64 0), (.str (ByteArray.mk #[]))] [(0, 1, (.c (.int .i64 2))), (1, 1, (.t 24))]), (.bld 26 [(.int .i64 0), (.int .i64 0), (.int .i64 0), (.int .i64 0), (.int .i64 0), (.int .i64 0), (.int .i64 0), (.int .i64 0), (.int .i64 0), (.int .i64 0), (.int .i64 0), (.int .i64 0), (.int .i64 0), (.str (ByteArray.mk #[])), (.int .i64 0), (.int .i64 0), (.int .i64 0), (.bool false), (.int .i64 0), (.int .i64 0), (.int .i64 0), (.int .i64 0), (.int .i64 0), (.int .i64 0), (.int .i64 0), (.str (ByteArray.mk #[])), (.bool false)] [(14, 6, (.t 22)), (0, 14, (.t 25))]), (.alc 7 170 [(.int .i64 0), (.int .i64 0), (.int .i64 0), (.int .i64 0), (.int .i64 0), (.int .i64 0), (.int .i64 0), (.int .i64 0), (.int .i64 0), (.int .i64 0), (.int .i64 0), (.int .i64 0), (.int .i64 0), (.str (ByteArray.mk #[])), (.int .i64 0), (.int .i64 0), (.int .i64 0), (.bool false), (.int .i64 0), (.int .i64 0), (.int .i64 0), (.int .i64 0), (.int .i64 0), (.int .i64 0), (.int .i64 0), (.str (ByteArray.mk #[])), (.bool false)]), (.st (.t 7) (.t 26) 27)]) (.seq (.block 0 (.seq (.reg [(.fa 28 (.t 5) 2), (.ld 29 (.t 28) false 1), (.bin 30 .eql (.t 29) (.c (.int .i64 1))), (.mv 31 (.t 30)), (.g 31 true (some 32) (.fa 32 (.t 5) 3)), (.g 31 true (some 33) (.ld 33 (.t 32) false 1)), (.pick 34 (.t 31) (.t 33) (.c (.bool false))), (.mv 27 (.t 34))]) (.cond (.t 27) (.seq (.reg [(.ld 35 (.t 2) true 14), (.fa 36 (.t 5) 5), (.ld 37 (.t 36) false 1), (.call (some 38) (.c (.func 107 [] [])) [(.t 35), (.t 37)]), (.mv 8 (.t 38))]) (.seq (.seq (.regD [(.mv 39 (.t 8)), (.bin 40 .lss (.t 39) (.c (.int .i64 0))), (.mv 41 (.t 40)), (.g 41 false (some 42) (.mv 42 (.t 1))), (.g 41 false (some 43) (.fa 43 (.t 2) 5)), (.g 41 false (some 44) (.ld 44 (.t 43) false 1)), (.g 41 false (some 45) (.mv 45 (.t 8))), (.g 41 false (some 46) (.ia 46 (.t 44) (.t 45) 5)), (.g 41 false (some 47) (.fa 47 (.t 46) 2)), (.g 41 false (some 48) (.ld 48 (.t 47) false 1)), (.g 41 false (some 49) (.bin 49 .gtr (.t 42) (.t 48))), (.pick 50 (.t 41) (.c (.bool true)) (.t 49)), (.mv 51 (.t 50)), (.g 51 false (some 52) (.fa 52 (.t 2) 5)), (.g 51 false (some 53) (.ld 53 (.t 52) false 1)), (.g 51 false (some 54) (.mv 54 (.t 8))), (.g 51 false (some 55) (.ia 55 (.t 53) (.t 54) 5)), (.g 51 false (some 56) (.fa 56 (.t 55) 4)), (.g 51 false (some 57) (.ld 57 (.t 56) false 1)), (.g 51 false (some 58) (.fa 58 (.t 5) 4)), (.g 51 false (some 59) (.ld 59 (.t 58) false 1)), (.g 51 false (some 60) (.call (some 60) (.c (.func 195 [] [])) [(.t 57), (.t 59)])), (.pick 61 (.t 51) (.c (.bool true)) (.t 60))] []) (.cond (.t 61) (.seq (.reg [(.ld 62 (.t 5) true 6), (.bld 63 [(.int .i64 0), (.int .i64 0), (.int .i64 0), (.int .i64 0), (.int .i64 0), (.int .i64 0), (.int .i64 0), (.int .i64 0), (.int .i64 0), (.int .i64 0), (.int .i64 0), (.int .i64 0), (.int .i64 0), (.str (ByteArray.mk #[])), (.int .i64 0), (.int .i64 0), (.int .i64 0), (.bool false), (.int .i64 0), (.int .i64 0), (.int .i64 0), (.int .i64 0), (.int .i64 0), (.int .i64 0), (.int .i64 0), (.str (ByteArray.mk #[])), (.bool false)] [(14, 6, (.t 62))]), (.st (.t 4) (.t 63) 27)]) .ret) .skip)) (.seq (.reg [(.fa 64 (.t 2) 5), (.ld 65 (.t 64) false 1), (.mv 66 (.t 8)), (.ia 67 (.t 65) (.t 66) 5), (.ld 68 (.t 67) true 5), (.alc 9 100 [(.int .i64 0), (.int .i64 0), (.int .i64 0), (.str (ByteArray.mk #[])), .nil]), (.st (.t 9) (.t 68) 5)]) (.seq (.reg [(.fa 69 (.t 7) 0), (.fa 70 (.t 69) 0), (.st (.t 70) (.c (.int .i64 1)) 1)]) (.reg [(.fa 71 (.t 2) 0), (.fa 72 (.t 71) 0), (.ld 73 (.t 72) false 1), (.fa 74 (.t 5) 4), (.ld 75 (.t 74) false 1), (.fa 76 (.t 2) 7), (.ld 77 (.t 76) false 1), (.fa 78 (.t 9) 1), (.ld 79 (.t 78) false 1), (.bin 80 .rem (.t 79) (.c (.int .i64 256))), (.fa 81 (.t 9) 0), (.ld 82 (.t 81) false 1), (.fa 83 (.t 9) 1), (.ld 84 (.t 83) false 1), (.fa 85 (.t 9) 3), (.ld 86 (.t 85) false 1), (.bld 87 [(.int .i64 0), (.int .i64 0), (.int .i64 0), (.int .i64 0), (.int .i64 0), (.int .i64 0), (.int .i64 0), (.int .i64 0), (.int .i64 0), (.int .i64 0), (.int .i64 0), (.str (ByteArray.mk #[]))] [(0, 1, (.c (.int .i64 1))), (1, 1, (.t 73)), (2, 1, (.t 75)), (3, 1, (.t 77)), (4, 1, (.t 80)), (5, 1, (.t 82)), (6, 1, (.t 84)), (11, 1, (.t 86))]), (.fa 88 (.t 7) 0), (.fa 89 (.t 88) 2), (.st (.t 89) (.t 87) 12)]))))) (.seq (.reg [(.fa 91 (.t 5) 2), (.ld 92 (.t 91) false 1), (.bin 93 .eql (.t 92) (.c (.int .i64 2))), (.mv 94 (.t 93)), (.g 94 true (some 95) (.fa 95 (.t 5) 3)), (.g 94 true (some 96) (.ld 96 (.t 95) false 1)), (.pick 97 (.t 94) (.t 96) (.c (.bool false))), (.mv 90 (.t 97))]) (.cond (.t 90) (.seq (.reg [(.fa 99 (.t 2) 3), (.ld 100 (.t 99) true 2), (.fa 101 (.t 5) 4), (.ld 102 (.t 101) false 1), (.call (some 103) (.c (.func 196 [] [])) [(.t 100), (.t 102)]), (.mv 98 (.t 103)), (.ext 104 (.t 98) 0), (.ext 105 (.t 98) 1), (.alc 10 104 [(.int .i64 0), (.int .i64 0), (.int .i64 0), (.int .i64 0), (.int .i64 0), (.str (ByteArray.mk #[]))]), (.st (.t 10) (.t 104) 6), (.mv 11 (.t 105))]) (.seq (.seq (.reg [(.mv 106 (.t 11)), (.not 107 (.t 106))]) (.cond (.t 107) (.seq (.reg [(.ld 108 (.t 5) true 6), (.bld 109 [(.int .i64 0), (.int .i64 0), (.int .i64 0), (.int .i64 0), (.int .i64 0), (.int .i64 0), (.int .i64 0), (.int .i64 0), (.int .i64 0), (.int .i64 0), (.int .i64 0), (.int .i64 0), (.int .i64 0), (.str (ByteArray.mk #[])), (.int .i64 0), (.int .i64 0), (.int .i64 0), (.bool false), (.int .i64 0), (.int .i64 0), (.int .i64 0), (.int .i64 0), (.int .i64 0), (.int .i64 0), (.int .i64 0), (.str (ByteArray.mk #[])), (.bool false)] [(14, 6, (.t 108))]), (.st (.t 4) (.t 109) 27)]) .ret) .skip)) (.seq (.reg [(.ld 110 (.t 10) true 6), (.fa 111 (.t 7) 20), (.st (.t 111) (.t 110) 6), (.fa 112 (.t 7) 26), (.st (.t 112) (.c (.bool true)) 1)]) (.reg [(.ld 113 (.t 2) true 14), (.ld 114 (.t 10) true 6), (.call (some 115) (.c (.func 197 [] [])) [(.t 113), (.t 114)]), (.fa 116 (.t 7) 0), (.fa 117 (.t 116) 0), (.st (.t 117) (.c (.int .i64 1)) 1), (.fa 118 (.t 7) 0), (.fa 119 (.t 118) 2), (.st (.t 119) (.t 115) 12)])))) (.seq (.reg [(.fa 121 (.t 5) 2), (.ld 122 (.t 121) false 1), (.bin 123 .eql (.t 122) (.c (.int .i64 3))), (.mv 120 (.t 123))]) (.cond (.t 120) (.seq (.reg [(.ld 125 (.t 2) true 14), (.call (some 126) (.c (.func 198 [] [])) [(.t 125)]), (.mv 124 (.t 126)), (.ext 127 (.t 124) 0), (.ext 128 (.t 124) 1), (.fa 129 (.t 7) 20), (.st (.t 129) (.t 127) 6), (.fa 130 (.t 7) 26), (.st (.t 130) (.t 128) 1)]) (.seq (.reg [(.fa 131 (.t 7) 26), (.ld 132 (.t 131) false 1), (.mv 133 (.t 132)), (.g 133 true (some 134) (.fa 134 (.t 2) 12)), (.g 133 true (some 135) (.ld 135 (.t 134) false 1)), (.g 133 true (some 136) (.bin 136 .eql (.t 135) (.c (.int .i64 0)))), (.pick 137 (.t 133) (.t 136) (.c (.bool false)))]) (.cond (.t 137) (.reg [(.ld 138 (.t 2) true 14), (.fa 139 (.t 7) 20), (.ld 140 (.t 139) true 6), (.call (some 141) (.c (.func 197 [] [])) [(.t 138), (.t 140)]), (.fa 142 (.t 7) 0), (.fa 143 (.t 142) 0), (.st (.t 143) (.c (.int .i64 1)) 1), (.fa 144 (.t 7) 0), (.fa 145 (.t 144) 2), (.st (.t 145) (.t 141) 12)]) .skip))) .skip))))))) (.seq (.reg [(.ld 146 (.t 7) true 27), (.st (.t 4) (.t 146) 27)]) .ret))))))
theorem e98 : compC prog f98.ntmps (f98.body.getD .skip) = c98 := by kernel_rfl
def c26 : SC := (.seq (.reg [(.box 2 31 (.t 0)), (.alc 4 43 [(.int .i64 0), (.int .i64 0), (.int .i64 0), (.int .i64 0), (.int .i64 0), (.int .i64 0), (.int .i64 0), (.int .i64 0), (.int .i64 0), (.int .i64 0), (.int .i64 0), (.int .i64 0), (.int .i64 0), (.str (ByteArray.mk #[]))]), (.mv 5 (.c (.int .i64 0)))]) (.seq (.seq (.reg [(.ld 6 (.t 2) true 14), (.call (some 7) (.c (.func 23 [] [])) [(.t 6)]), (.bin 8 .neq (.t 7) (.c (.int .i64 0)))]) (.cond (.t 8) (.seq (.reg [(.bld 9 [(.int .i64 0), (.int .i64 0), (.int .i64 0), (.int .i64 0), (.int .i64 0), (.int .i64 0), (.int .i64 0), (.int .i64 0), (.int .i64 0), (.int .i64 0), (.int .i64 0), (.int .i64 0), (.int .i64 0), (.str (ByteArray.mk #[]))] []), (.st (.t 4) (.t 9) 14), (.mv 5 (.c (.int .i64 1)))]) .ret) .skip)) (.seq (.seq (.reg [(.mv 10 (.t 1)), (.bin 11 .lss (.t 10) (.c (.int .i64 0))), (.mv 12 (.t 11)), (.g 12 false (some 13) (.mv 13 (.t 1))), (.g 12 false (some 14) (.bin 14 .gtr (.t 13) (.c (.int .i64 109951162)))), (.pick 15 (.t 12) (.c (.bool true)) (.t 14))]) (.cond (.t 15) (.seq (.reg [(.bld 16 [(.int .i64 0), (.int .i64 0), (.int .i64 0), (.int .i64 0), (.int .i64 0), (.int .i64 0), (.int .i64 0), (.int .i64 0), (.int .i64 0), (.int .i64 0), (.int .i64 0), (.int .i64 0), (.int .i64 0), (.str (ByteArray.mk #[]))] []), (.st (.t 4) (.t 16) 14), (.mv 5 (.c (.int .i64 2)))]) .ret) .skip)) (.seq (.reg [(.ld 17 (.t 2) true 14), (.mv 18 (.t 1)), (.call (some 19) (.c (.func 98 [] [])) [(.t 17), (.t 18)]), (.fld 20 (.t 19) 0 true 14), (.st (.t 4) (.t 20) 14), (.mv 5 (.c (.int .i64 0)))]) .ret))))
theorem e26 : compC prog f26.ntmps (f26.body.getD .skip) = c26 := by kernel_rfl
def c4 : SC := (.seq (.reg [(.box 2 31 (.t 0)), (.mv 4 (.c (.bool false)))]) (.seq (.seq (.reg [(.call (some 9) (.c (.func 18 [] [])) []), (.not 10 (.t 9))]) (.cond (.t 10) (.seq (.reg [(.mv 4 (.c (.bool false)))]) .ret) .skip)) (.seq (.seq (.reg [(.ld 11 (.t 2) true 14), (.call (some 12) (.c (.func 19 [] [])) [(.t 11)]), (.not 13 (.t 12))]) (.cond (.t 13) (.seq (.reg [(.mv 4 (.c (.bool true)))]) .ret) .skip)) (.seq (.reg [(.ld 15 (.t 2) true 14), (.mv 16 (.t 1)), (.call (some 17) (.c (.func 25 [] [])) [(.t 15), (.t 16)]), (.mv 14 (.t 17)), (.ext 18 (.t 14) 0), (.ext 19 (.t 14) 1), (.alc 5 43 [(.int .i64 0), (.int .i64 0), (.int .i64 0), (.int .i64 0), (.int .i64 0), (.int .i64 0), (.int .i64 0), (.int .i64 0), (.int .i64 0), (.int .i64 0), (.int .i64 0), (.int .i64 0), (.int .i64 0), (.str (ByteArray.mk #[]))]), (.st (.t 5) (.t 18) 14), (.mv 6 (.t 19))]) (.seq (.reg [(.ld 21 (.t 2) true 14), (.mv 22 (.t 1)), (.call (some 23) (.c (.func 26 [] [])) [(.t 21), (.t 22)]), (.mv 20 (.t 23)), (.ext 24 (.t 20) 0), (.ext 25 (.t 20) 1), (.alc 7 43 [(.int .i64 0), (.int .i64 0), (.int .i64 0), (.int .i64 0), (.int .i64 0), (.int .i64 0), (.int .i64 0), (.int .i64 0), (.int .i64 0), (.int .i64 0), (.int .i64 0), (.int .i64 0), (.int .i64 0), (.str (ByteArray.mk #[]))]), (.st (.t 7) (.t 24) 14), (.mv 8 (.t 25))]) (.seq (.reg [(.ld 26 (.t 5) true 14), (.ld 27 (.t 7) true 14), (.binA 28 false [1, 1, 1, 1, 1, 1, 1, 1, 1, 1, 1, 1, 1, 3] (.t 26) (.t 27)), (.mv 29 (.t 28)), (.g 29 true (some 30) (.mv 30 (.t 6))), (.g 29 true (some 31) (.mv 31 (.t 8))), (.g 29 true (some 32) (.bin 32 .eql (.t 30) (.t 31))), (.pick 33 (.t 29) (.t 32) (.c (.bool false))), (.mv 4 (.t 33))]) .ret))))))
theorem e4 : compC prog f4.ntmps (f4.body.getD .skip) = c4 := by kernel_rfl
def plEnc (p : Plan) : List AVal := [.int .i64 p.act.kind, .int .i64 p.act.off, .int .i64 p.act.fr.kind, .int .i64 p.act.fr.src, .int .i64 p.act.fr.tgt, .int .i64 p.act.fr.list, .int .i64 p.act.fr.seq, .int .i64 p.act.fr.flow, .int .i64 p.act.fr.num, .int .i64 p.act.fr.err, .int .i64 p.act.fr.slot, .int .i64 p.act.fr.rank, .int .i64 p.act.fr.epoch, .str p.act.fr.data, .int .i64 p.cell.slot, .int .i64 p.cell.off, .int .i64 p.cell.kind, .bool p.cell.send, .int .i64 p.cell.peer, .int .i64 p.cell.flow, .int .i64 (p.pk.getD Packet.zero).id, .int .i64 (p.pk.getD Packet.zero).to, .int .i64 (p.pk.getD Packet.zero).pri, .int .i64 (p.pk.getD Packet.zero).born, .int .i64 (p.pk.getD Packet.zero).life, .str (p.pk.getD Packet.zero).data, .bool p.pk.isSome]
attribute [go_sem] plEnc
theorem c98_ok {s : Station} {slot : Int} (hB : StBd s) : ACalls prog 98 [.agg s.enc, .int .i64 slot] [] (.agg (plEnc (plan s slot))) [] := by
  obtain ⟨b1, b2, b3, b4, b5⟩ := hB
  have h31 := c31_pf s.tab slot b1
  have hm : ∀ (l : List Int) (x : Int), (l.any fun y => decide (y = x)) = true ↔ x ∈ l := by intro l x; simp [List.any_eq_true]
  refine calls_of hmx func98 (by kernel_rfl) (c := f98.body.getD .skip) rfl e98 (rs := [(.cell 4 true 27)]) (by kernel_rfl) (by simp [ntmps98]) ?_
  simp only [c98, argS]
  cases hc : tabAt s.tab slot with
  | none =>
    rw [hc] at h31
    have e : plan s slot = ⟨Action.zero, TCell.zero, none⟩ := by simp only [plan, hc]
    rw [e]
    repeat' first | refine CX_pure (h31) rfl rfl rfl rfl ?_ | refine GX_call (fun _ => (h31)) (by rfl) (by intro h; simp only [h]; rfl) (by rfl) (by rfl) ?_ | (with_reducible intro h; try simp only [h]) | (with_reducible refine And.intro ?_ ?_) | (change chk _ _ = true; rfl) | simp only [go_sem, seval, Vc_bool, Option.isSome_none] | refine (GX_split rfl).2 ?_
    exact Rt_pure (by rfl) (by rfl)
  | some c =>
    rw [hc] at h31
    simp only [Option.getD_some, Option.isSome_some] at h31
    have h198 := c198_pf s b1 b2
    have h196 := c196_pf s.q c.peer b2
    have h107 := c107_pf s c.flow b3
    by_cases h3 : c.kind = 3
    · have k1 : decide (c.kind = 1) = false := by simp [h3]
      have k2 : decide (c.kind = 2) = false := by simp [h3]
      have k3 : decide (c.kind = 3) = true := by simp [h3]
      cases hq : candidate s with
      | none =>
        rw [hq, oPk_none] at h198
        have e : plan s slot = ⟨⟨2, c.off, Frame.zero⟩, c, none⟩ := by simp [plan, hc, h3, hq]
        rw [e]
        repeat' first | refine CX_pure (h31) rfl rfl rfl rfl ?_ | refine CX_pure (h198) rfl rfl rfl rfl ?_ | refine GX_call (fun _ => (h31)) (by rfl) (by intro h; simp only [h]; rfl) (by rfl) (by rfl) ?_ | refine GX_call (fun _ => (h198)) (by rfl) (by intro h; simp only [h]; rfl) (by rfl) (by rfl) ?_ | (with_reducible intro h; try simp only [h]) | (with_reducible refine And.intro ?_ ?_) | (change chk _ _ = true; rfl) | simp only [go_sem, seval, Vc_bool, k1, k2, k3] | refine (GX_split rfl).2 ?_
        exact Rt_pure (by rfl) (by rfl)
      | some p =>
        rw [hq, oPk_some] at h198
        cases hw : decide (s.wait = 0)
        · have e : plan s slot = ⟨⟨2, c.off, Frame.zero⟩, c, some p⟩ := by simp [plan, hc, h3, hq, of_decide_eq_false hw]
          rw [e]
          repeat' first | refine CX_pure (h31) rfl rfl rfl rfl ?_ | refine CX_pure (h198) rfl rfl rfl rfl ?_ | refine GX_call (fun _ => (h31)) (by rfl) (by intro h; simp only [h]; rfl) (by rfl) (by rfl) ?_ | refine GX_call (fun _ => (h198)) (by rfl) (by intro h; simp only [h]; rfl) (by rfl) (by rfl) ?_ | (with_reducible intro h; try simp only [h]) | (with_reducible refine And.intro ?_ ?_) | (change chk _ _ = true; rfl) | simp only [go_sem, seval, Vc_bool, k1, k2, k3, hw] | refine (GX_split rfl).2 ?_
          exact Rt_pure (by rfl) (by rfl)
        · have e : plan s slot = ⟨⟨1, c.off, msgOf s p⟩, c, some p⟩ := by simp [plan, hc, h3, hq, of_decide_eq_true hw]
          rw [e]
          repeat' first | refine CX_pure (h31) rfl rfl rfl rfl ?_ | refine CX_pure (h198) rfl rfl rfl rfl ?_ | refine CX_pure (c197_ok (s := s) (p := p)) rfl rfl rfl rfl ?_ | refine GX_call (fun _ => (h31)) (by rfl) (by intro h; simp only [h]; rfl) (by rfl) (by rfl) ?_ | refine GX_call (fun _ => (h198)) (by rfl) (by intro h; simp only [h]; rfl) (by rfl) (by rfl) ?_ | refine GX_call (fun _ => (c197_ok (s := s) (p := p))) (by rfl) (by intro h; simp only [h]; rfl) (by rfl) (by rfl) ?_ | (with_reducible intro h; try simp only [h]) | (with_reducible refine And.intro ?_ ?_) | (change chk _ _ = true; rfl) | simp only [go_sem, seval, Vc_bool, k1, k2, k3, hw] | refine (GX_split rfl).2 ?_
          exact Rt_pure (by rfl) (by rfl)
    · have k3 : decide (c.kind = 3) = false := by simpa using h3
      cases hs : c.send
      · have e : plan s slot = ⟨⟨2, c.off, Frame.zero⟩, c, none⟩ := by simp [plan, hc, hs, h3]
        rw [e]
        cases k1 : decide (c.kind = 1) <;> cases k2 : decide (c.kind = 2)
        all_goals repeat' first | refine CX_pure (h31) rfl rfl rfl rfl ?_ | refine GX_call (fun _ => (h31)) (by rfl) (by intro h; simp only [h]; rfl) (by rfl) (by rfl) ?_ | (with_reducible intro h; try simp only [h]) | (with_reducible refine And.intro ?_ ?_) | (change chk _ _ = true; rfl) | simp only [go_sem, seval, Vc_bool, hs, k1, k2, k3] | refine (GX_split rfl).2 ?_
        all_goals exact Rt_pure (by rfl) (by rfl)
      · cases k1 : decide (c.kind = 1)
        · have g1 : ¬ c.kind = 1 := of_decide_eq_false k1
          cases k2 : decide (c.kind = 2)
          · have e : plan s slot = ⟨⟨2, c.off, Frame.zero⟩, c, none⟩ := by simp [plan, hc, hs, h3, g1, of_decide_eq_false k2]
            rw [e]
            repeat' first | refine CX_pure (h31) rfl rfl rfl rfl ?_ | refine GX_call (fun _ => (h31)) (by rfl) (by intro h; simp only [h]; rfl) (by rfl) (by rfl) ?_ | (with_reducible intro h; try simp only [h]) | (with_reducible refine And.intro ?_ ?_) | (change chk _ _ = true; rfl) | simp only [go_sem, seval, Vc_bool, hs, k1, k2, k3] | refine (GX_split rfl).2 ?_
            exact Rt_pure (by rfl) (by rfl)
          · have g2 : c.kind = 2 := of_decide_eq_true k2
            cases hq : qFirst s.q c.peer with
            | none =>
              rw [hq, oPk_none] at h196
              have e : plan s slot = ⟨Action.zero, c, none⟩ := by simp [plan, hc, hs, g2, hq]
              rw [e]
              repeat' first | refine CX_pure (h31) rfl rfl rfl rfl ?_ | refine CX_pure (h196) rfl rfl rfl rfl ?_ | refine GX_call (fun _ => (h31)) (by rfl) (by intro h; simp only [h]; rfl) (by rfl) (by rfl) ?_ | refine GX_call (fun _ => (h196)) (by rfl) (by intro h; simp only [h]; rfl) (by rfl) (by rfl) ?_ | (with_reducible intro h; try simp only [h]) | (with_reducible refine And.intro ?_ ?_) | (change chk _ _ = true; rfl) | simp only [go_sem, seval, Vc_bool, hs, k1, k2, k3] | refine (GX_split rfl).2 ?_
              exact Rt_pure (by rfl) (by rfl)
            | some p =>
              rw [hq, oPk_some] at h196
              have e : plan s slot = ⟨⟨1, c.off, msgOf s p⟩, c, some p⟩ := by simp [plan, hc, hs, g2, hq]
              rw [e]
              repeat' first | refine CX_pure (h31) rfl rfl rfl rfl ?_ | refine CX_pure (h196) rfl rfl rfl rfl ?_ | refine CX_pure (c197_ok (s := s) (p := p)) rfl rfl rfl rfl ?_ | refine GX_call (fun _ => (h31)) (by rfl) (by intro h; simp only [h]; rfl) (by rfl) (by rfl) ?_ | refine GX_call (fun _ => (h196)) (by rfl) (by intro h; simp only [h]; rfl) (by rfl) (by rfl) ?_ | refine GX_call (fun _ => (c197_ok (s := s) (p := p))) (by rfl) (by intro h; simp only [h]; rfl) (by rfl) (by rfl) ?_ | (with_reducible intro h; try simp only [h]) | (with_reducible refine And.intro ?_ ?_) | (change chk _ _ = true; rfl) | simp only [go_sem, seval, Vc_bool, hs, k1, k2, k3] | refine (GX_split rfl).2 ?_
              exact Rt_pure (by rfl) (by rfl)
        · have g1 : c.kind = 1 := of_decide_eq_true k1
          rcases idxFrom_find (fun h : Held => decide (h.flow = c.flow)) s.held with ⟨h1, h2⟩ | ⟨i, x, h1, h2, h3', h4, h5⟩
          · have e1 : heldIdx s.held c.flow = -1 := h1
            have e2 : heldOf s.held c.flow = none := h2
            rw [e1] at h107
            have e : plan s slot = ⟨Action.zero, c, none⟩ := by simp [plan, hc, hs, g1, e2]
            rw [e]
            repeat' first | refine CX_pure (h31) rfl rfl rfl rfl ?_ | refine CX_pure (h107) rfl rfl rfl rfl ?_ | refine GX_call (fun _ => (h31)) (by rfl) (by intro h; simp only [h]; rfl) (by rfl) (by rfl) ?_ | refine GX_call (fun _ => (h107)) (by rfl) (by intro h; simp only [h]; rfl) (by rfl) (by rfl) ?_ | (with_reducible intro h; try simp only [h]) | (with_reducible refine And.intro ?_ ?_) | (change chk _ _ = true; rfl) | simp only [go_sem, seval, Vc_bool, hs, k1] | refine (GX_split rfl).2 ?_
            exact Rt_pure (by rfl) (by rfl)
          · have e1 : heldIdx s.held c.flow = i := h3'
            have e2 : heldOf s.held c.flow = some x := h4
            have e3 : (s.held.map Held.enc)[i]? = some x.enc := by rw [List.getElem?_map, h1]; rfl
            have e4 : decide ((i : Int) < 0) = false := by simp
            have hx : x.acked.length < 2 ^ 62 := b4 x (List.mem_of_getElem? h1)
            rw [e1] at h107
            cases hw : decide (x.upto < slot)
            · have g : ¬ x.upto < slot := of_decide_eq_false hw
              cases ha : x.acked.any fun y => decide (y = c.peer)
              · have g' : c.peer ∉ x.acked := fun h => by rw [(hm _ _).2 h] at ha; cases ha
                have e : plan s slot = ⟨⟨1, c.off, dataOf s x c.peer⟩, c, none⟩ := by simp [plan, hc, hs, g1, e2, g, g']
                rw [e]
                repeat' first | refine CX_pure (h31) rfl rfl rfl rfl ?_ | refine CX_pure (h107) rfl rfl rfl rfl ?_ | refine CX_pure (c195_ok (l := x.acked) (x := c.peer) hx) rfl rfl rfl rfl ?_ | refine GX_call (fun _ => (h31)) (by rfl) (by intro h; simp only [h]; rfl) (by rfl) (by rfl) ?_ | refine GX_call (fun _ => (h107)) (by rfl) (by intro h; simp only [h]; rfl) (by rfl) (by rfl) ?_ | refine GX_call (fun _ => (c195_ok (l := x.acked) (x := c.peer) hx)) (by rfl) (by intro h; simp only [h]; rfl) (by rfl) (by rfl) ?_ | (with_reducible intro h; try simp only [h]) | (with_reducible refine And.intro ?_ ?_) | (change chk _ _ = true; rfl) | simp only [go_sem, seval, Vc_bool, hs, k1, e3, e4, hw, ha, Int.toNat_natCast, Int.natCast_nonneg] | refine (GX_split rfl).2 ?_
                · exact Rt_pure (by rfl) (by rfl)
              · have g' : c.peer ∈ x.acked := (hm _ _).1 ha
                have e : plan s slot = ⟨Action.zero, c, none⟩ := by simp [plan, hc, hs, g1, e2, g']
                rw [e]
                repeat' first | refine CX_pure (h31) rfl rfl rfl rfl ?_ | refine CX_pure (h107) rfl rfl rfl rfl ?_ | refine CX_pure (c195_ok (l := x.acked) (x := c.peer) hx) rfl rfl rfl rfl ?_ | refine GX_call (fun _ => (h31)) (by rfl) (by intro h; simp only [h]; rfl) (by rfl) (by rfl) ?_ | refine GX_call (fun _ => (h107)) (by rfl) (by intro h; simp only [h]; rfl) (by rfl) (by rfl) ?_ | refine GX_call (fun _ => (c195_ok (l := x.acked) (x := c.peer) hx)) (by rfl) (by intro h; simp only [h]; rfl) (by rfl) (by rfl) ?_ | (with_reducible intro h; try simp only [h]) | (with_reducible refine And.intro ?_ ?_) | (change chk _ _ = true; rfl) | simp only [go_sem, seval, Vc_bool, hs, k1, e3, e4, hw, ha, Int.toNat_natCast, Int.natCast_nonneg] | refine (GX_split rfl).2 ?_
                exact Rt_pure (by rfl) (by rfl)
            · have g : x.upto < slot := of_decide_eq_true hw
              have e : plan s slot = ⟨Action.zero, c, none⟩ := by simp [plan, hc, hs, g1, e2, g]
              rw [e]
              repeat' first | refine CX_pure (h31) rfl rfl rfl rfl ?_ | refine CX_pure (h107) rfl rfl rfl rfl ?_ | refine CX_pure (c195_ok (l := x.acked) (x := c.peer) hx) rfl rfl rfl rfl ?_ | refine GX_call (fun _ => (h31)) (by rfl) (by intro h; simp only [h]; rfl) (by rfl) (by rfl) ?_ | refine GX_call (fun _ => (h107)) (by rfl) (by intro h; simp only [h]; rfl) (by rfl) (by rfl) ?_ | refine GX_call (fun _ => (c195_ok (l := x.acked) (x := c.peer) hx)) (by rfl) (by intro h; simp only [h]; rfl) (by rfl) (by rfl) ?_ | (with_reducible intro h; try simp only [h]) | (with_reducible refine And.intro ?_ ?_) | (change chk _ _ = true; rfl) | simp only [go_sem, seval, Vc_bool, hs, k1, e3, e4, hw, Int.toNat_natCast, Int.natCast_nonneg] | refine (GX_split rfl).2 ?_
              exact Rt_pure (by rfl) (by rfl)
theorem c26_ok {s : Station} {slot : Int} (hB : StBd s) : ACalls prog 26 [.agg s.enc, .int .i64 slot] [] (.tup [.agg (actSt s slot).1.enc, .int .i64 (actSt s slot).2]) [] := by
  refine calls_of hmx func26 (by kernel_rfl) (c := f26.body.getD .skip) rfl e26 (rs := [(.cell 4 true 14), (.t 5)]) (by kernel_rfl) (by simp [ntmps26]) ?_
  simp only [c26, argS]
  repeat' first | refine CX_pure (c23_ok (s := s) hB) rfl rfl rfl rfl ?_ | refine CX_pure (c98_ok (s := s) (slot := slot) hB) rfl rfl rfl rfl ?_ | refine GX_call (fun _ => (c23_ok (s := s) hB)) (by rfl) (by intro h; simp only [h]; rfl) (by rfl) (by rfl) ?_ | refine GX_call (fun _ => (c98_ok (s := s) (slot := slot) hB)) (by rfl) (by intro h; simp only [h]; rfl) (by rfl) (by rfl) ?_ | (with_reducible intro h; try simp only [h]) | (with_reducible refine And.intro ?_ ?_) | (change chk _ _ = true; rfl) | simp only [go_sem, seval, Vc_bool] | refine (GX_split rfl).2 ?_
  · have e : actSt s slot = (Action.zero, 1) := by
      have h1 : slotErr s slot = 1 := by grind [slotErr, stErr]
      simp [actSt, h1]
    rw [e]
    exact Rt_pure (by rfl) (by rfl)
  · have e : actSt s slot = (Action.zero, 2) := by
      have h1 : slotErr s slot = 2 := by grind [slotErr, stErr]
      simp [actSt, h1]
    rw [e]
    exact Rt_pure (by rfl) (by rfl)
  · have e : actSt s slot = ((plan s slot).act, 0) := by
      have h1 : slotErr s slot = 0 := by grind [slotErr, stErr]
      simp [actSt, h1]
    rw [e]
    exact Rt_pure (by rfl) (by rfl)

end Go.Av.T
