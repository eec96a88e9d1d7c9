/- The seat: part T4. -/
import Derived.Test.YtmhchaedhmnofaaGreatT3
import Derived.KernelRfl
import Derived.Test.YtmhchaedhmnofaaGreatS1
import Derived.Test.YtmhchaedhmnofaaGreatA7
set_option maxRecDepth 100000
set_option maxHeartbeats 1000000
set_option linter.unusedSimpArgs false
set_option linter.unusedVariables false
namespace Go.Av.T
open Go Go.Av Go.Av.Sp Go.Proofs.Tryz
def c68 : SC := (.seq (.reg [(.box 1 24 (.t 0)), (.mv 2 (.c (.bool false)))]) (.seq (.reg [(.fa 3 (.t 1) 2), (.ld 4 (.t 3) false 1), (.len 5 false (.t 4)), (.call (some 6) (.c (.func 178 [] [])) [(.t 5)]), (.mv 7 (.t 6)), (.g 7 true (some 8) (.fa 8 (.t 1) 1)), (.g 7 true (some 9) (.ld 9 (.t 8) false 1)), (.g 7 true (some 10) (.bin 10 .leq (.t 9) (.c (.int .i64 64)))), (.g 7 true (some 11) (.mv 11 (.t 10))), (.g 11 false (some 12) (.fa 12 (.t 1) 1)), (.g 11 false (some 13) (.ld 13 (.t 12) false 1)), (.g 11 false (some 14) (.bin 14 .gtr (.t 13) (.c (.int .i64 512)))), (.g 7 true (some 15) (.pick 15 (.t 11) (.c (.bool true)) (.t 14))), (.pick 16 (.t 7) (.t 15) (.c (.bool false))), (.mv 2 (.t 16))]) .ret))
theorem e68 : compC prog f68.ntmps (f68.body.getD .skip) = c68 := by kernel_rfl
def c79L1 : SC := (.seq (.seq (.reg [(.mv 8 (.t 3)), (.fa 9 (.t 1) 1), (.ld 10 (.t 9) false 1), (.len 11 false (.t 10)), (.bin 12 .lss (.t 8) (.t 11))]) (.cond (.t 12) .skip (.exit 0))) (.seq (.block 1 (.seq (.reg [(.fa 15 (.t 1) 1), (.ld 16 (.t 15) false 1), (.mv 17 (.t 3)), (.ia 18 (.t 16) (.t 17) 6), (.fa 19 (.t 18) 5), (.ld 20 (.t 19) false 1), (.len 21 true (.t 20)), (.bin 22 .gtr (.t 21) (.c (.int .i64 200)))]) (.cond (.t 22) (.seq (.reg [(.mv 2 (.c (.bool false)))]) .ret) .skip))) (.reg [(.mv 13 (.t 3)), (.bin 14 .add (.t 13) (.c (.int .i64 1))), (.mv 3 (.t 14))])))
def c79 : SC := (.seq (.reg [(.box 1 27 (.t 0)), (.mv 2 (.c (.bool false)))]) (.seq (.seq (.reg [(.fa 4 (.t 1) 1), (.ld 5 (.t 4) false 1), (.len 6 false (.t 5)), (.bin 7 .gtr (.t 6) (.c (.int .i64 70)))]) (.cond (.t 7) (.seq (.reg [(.mv 2 (.c (.bool false)))]) .ret) .skip)) (.seq (.seq (.reg [(.mv 3 (.c (.int .i64 0)))]) (.block 0 (.loop c79L1))) (.seq (.reg [(.mv 2 (.c (.bool true)))]) .ret))))
theorem e79 : compC prog f79.ntmps (f79.body.getD .skip) = c79 := by kernel_rfl
def c19L1 : SC := (.seq (.seq (.reg [(.mv 26 (.t 3)), (.fa 27 (.t 1) 5), (.ld 28 (.t 27) false 1), (.len 29 false (.t 28)), (.bin 30 .lss (.t 26) (.t 29))]) (.cond (.t 30) .skip (.exit 0))) (.seq (.block 1 (.seq (.reg [(.fa 33 (.t 1) 5), (.ld 34 (.t 33) false 1), (.mv 35 (.t 3)), (.ia 36 (.t 34) (.t 35) 5), (.fa 37 (.t 36) 3), (.ld 38 (.t 37) false 1), (.len 39 true (.t 38)), (.bin 40 .gtr (.t 39) (.c (.int .i64 200))), (.mv 41 (.t 40)), (.g 41 false (some 42) (.fa 42 (.t 1) 5)), (.g 41 false (some 43) (.ld 43 (.t 42) false 1)), (.g 41 false (some 44) (.mv 44 (.t 3))), (.g 41 false (some 45) (.ia 45 (.t 43) (.t 44) 5)), (.g 41 false (some 46) (.fa 46 (.t 45) 4)), (.g 41 false (some 47) (.ld 47 (.t 46) false 1)), (.g 41 false (some 48) (.len 48 false (.t 47))), (.g 41 false (some 49) (.bin 49 .gtr (.t 48) (.c (.int .i64 40)))), (.pick 50 (.t 41) (.c (.bool true)) (.t 49))]) (.cond (.t 50) (.seq (.reg [(.mv 2 (.c (.bool false)))]) .ret) .skip))) (.reg [(.mv 31 (.t 3)), (.bin 32 .add (.t 31) (.c (.int .i64 1))), (.mv 3 (.t 32))])))
def c19 : SC := (.seq (.reg [(.box 1 31 (.t 0)), (.mv 2 (.c (.bool false)))]) (.seq (.seq (.reg [(.fa 4 (.t 1) 0), (.ld 5 (.t 4) true 3), (.call (some 6) (.c (.func 68 [] [])) [(.t 5)]), (.not 7 (.t 6)), (.mv 8 (.t 7)), (.g 8 false (some 9) (.fa 9 (.t 1) 3)), (.g 8 false (some 10) (.ld 10 (.t 9) true 2)), (.g 8 false (some 11) (.call (some 11) (.c (.func 79 [] [])) [(.t 10)])), (.g 8 false (some 12) (.not 12 (.t 11))), (.pick 13 (.t 8) (.c (.bool true)) (.t 12)), (.mv 14 (.t 13)), (.g 14 false (some 15) (.fa 15 (.t 1) 5)), (.g 14 false (some 16) (.ld 16 (.t 15) false 1)), (.g 14 false (some 17) (.len 17 false (.t 16))), (.g 14 false (some 18) (.bin 18 .gtr (.t 17) (.c (.int .i64 20)))), (.pick 19 (.t 14) (.c (.bool true)) (.t 18)), (.mv 20 (.t 19)), (.g 20 false (some 21) (.fa 21 (.t 1) 6)), (.g 20 false (some 22) (.ld 22 (.t 21) false 1)), (.g 20 false (some 23) (.len 23 false (.t 22))), (.g 20 false (some 24) (.bin 24 .gtr (.t 23) (.c (.int .i64 40)))), (.pick 25 (.t 20) (.c (.bool true)) (.t 24))]) (.cond (.t 25) (.seq (.reg [(.mv 2 (.c (.bool false)))]) .ret) .skip)) (.seq (.seq (.reg [(.mv 3 (.c (.int .i64 0)))]) (.block 0 (.loop c19L1))) (.seq (.reg [(.mv 2 (.c (.bool true)))]) .ret))))
theorem e19 : compC prog f19.ntmps (f19.body.getD .skip) = c19 := by kernel_rfl
def c21 : SC := (.seq (.reg [(.box 3 24 (.t 0)), (.alc 6 31 [(.int .i64 0), (.int .i64 0), .nil, (.int .i64 0), .nil, .nil, .nil, (.int .i64 0), (.int .i64 0), (.int .i64 0), (.int .i64 0), (.int .i64 0), (.int .i64 0), (.int .i64 0)]), (.mv 7 (.c (.int .i64 0)))]) (.seq (.seq (.reg [(.ld 8 (.t 3) true 3), (.call (some 9) (.c (.func 83 [] [])) [(.t 8)]), (.bin 10 .neq (.t 9) (.c (.int .i64 0)))]) (.cond (.t 10) (.seq (.reg [(.bld 11 [(.int .i64 0), (.int .i64 0), .nil, (.int .i64 0), .nil, .nil, .nil, (.int .i64 0), (.int .i64 0), (.int .i64 0), (.int .i64 0), (.int .i64 0), (.int .i64 0), (.int .i64 0)] []), (.st (.t 6) (.t 11) 14), (.mv 7 (.c (.int .i64 1)))]) .ret) .skip)) (.seq (.seq (.reg [(.mv 12 (.t 1)), (.bin 13 .lss (.t 12) (.c (.int .i64 1))), (.mv 14 (.t 13)), (.g 14 false (some 15) (.mv 15 (.t 1))), (.g 14 false (some 16) (.bin 16 .gtr (.t 15) (.c (.int .i64 64)))), (.pick 17 (.t 14) (.c (.bool true)) (.t 16)), (.mv 18 (.t 17)), (.g 18 false (some 19) (.mv 19 (.t 2))), (.g 18 false (some 20) (.bin 20 .lss (.t 19) (.c (.int .i64 0)))), (.pick 21 (.t 18) (.c (.bool true)) (.t 20)), (.mv 22 (.t 21)), (.g 22 false (some 23) (.mv 23 (.t 2))), (.g 22 false (some 24) (.bin 24 .geq (.t 23) (.c (.int .i64 2147483648)))), (.pick 25 (.t 22) (.c (.bool true)) (.t 24))]) (.cond (.t 25) (.seq (.reg [(.bld 26 [(.int .i64 0), (.int .i64 0), .nil, (.int .i64 0), .nil, .nil, .nil, (.int .i64 0), (.int .i64 0), (.int .i64 0), (.int .i64 0), (.int .i64 0), (.int .i64 0), (.int .i64 0)] []), (.st (.t 6) (.t 26) 14), (.mv 7 (.c (.int .i64 2)))]) .ret) .skip)) (.seq (.reg [(.ld 27 (.t 3) true 3), (.mv 28 (.t 1)), (.bld 29 [(.int .i64 0), .nil] [(0, 1, (.t 28))]), (.mv 30 (.t 2)), (.bld 31 [(.int .i64 0), (.int .i64 0), .nil, (.int .i64 0), .nil, .nil, .nil, (.int .i64 0), (.int .i64 0), (.int .i64 0), (.int .i64 0), (.int .i64 0), (.int .i64 0), (.int .i64 0)] [(0, 3, (.t 27)), (3, 2, (.t 29)), (9, 1, (.c (.int .i64 (-1)))), (13, 1, (.t 30))]), (.st (.t 6) (.t 31) 14), (.mv 7 (.c (.int .i64 0)))]) .ret))))
theorem e21 : compC prog f21.ntmps (f21.body.getD .skip) = c21 := by kernel_rfl
theorem c68_pf (t : Table)  : ACalls prog 68 [.agg [.int .i64 t.node, .int .i64 t.len, .sl 6 (t.cells.map TCell.enc)]] [] (.bool (tabFew t)) [] := by
  refine calls_of hmx func68 (by kernel_rfl) (c := f68.body.getD .skip) rfl e68 (rs := [(.t 2)]) (by kernel_rfl) (by simp [ntmps68]) ?_
  simp only [c68, argS]
  simp only [go_sem, seval, List.length_map]
  repeat' first | (refine Rt_pure ?_ rfl; simp only [retO, retO1, retOs, S, get_cons, Nat.reduceEqDiff, reduceIte, obj, getO_cons_zero, getO_cons_succ, List.getElem?_cons_zero, List.getElem?_cons_succ, List.drop_zero, List.drop_succ_cons, loadFrom_cell, loadFrom_agg, List.length_cons, List.length_nil, Nat.reduceAdd, Nat.reduceLeDiff, List.take_succ_cons, List.take_zero, List.take_nil]) | refine CX_pure c178_ok rfl rfl rfl rfl ?_ | refine GX_call (fun _ => c178_ok) (by rfl) (by intro h; simp only [h]; rfl) (by rfl) (by rfl) ?_ | (with_reducible intro h; try simp only [h]) | (with_reducible refine And.intro ?_ ?_) | (change chk _ _ = true; rfl) | simp only [go_sem, seval, Vc_bool, List.length_map] | refine (GX_split rfl).2 ?_
  all_goals grind [tabFew]
theorem c68_ok {t_node : Int} {t_len : Int} {t_cells : List TCell}  : ACalls prog 68 [.agg [.int .i64 t_node, .int .i64 t_len, .sl 6 (t_cells.map TCell.enc)]] [] (.bool (tabFew (⟨t_node, t_len, t_cells⟩ : Table))) [] := c68_pf (⟨t_node, t_len, t_cells⟩ : Table) 

theorem l79 (q : Queue) (hL : (q.pk).length < 2 ^ 62) (k' : List It) (hk : ∀ zs, V prog f79.ntmps 0 (Ret [(.t 2)] 0 (.bool true) []) k' zs [.cells 0 2 27 true [q.enc]]) : ∀ (rest done : List Packet), q.pk = done ++ rest →
    Lp prog f79.ntmps 0 (Ret [(.t 2)] 0 (.bool ((rest).all fun p => decide ((p.data.size : Int) ≤ 200))) []) c79L1 (.blk 0 :: k') [(1, .ptr 0 0 0 0), (3, .int .i64 done.length)] [.cells 0 2 27 true [q.enc]] := by
  intro rest
  induction rest with
  | nil =>
    intro done hd
    refine Lp.of_eq hmx c79L1.eq_1 ?_
    have h1 := rg_end hd
    simp only [go_sem, seval, h1, List.length_map]
    exact hk _
  | cons c rest ih =>
    intro done hd
    refine Lp.of_eq hmx c79L1.eq_1 ?_
    obtain ⟨h1, h2, h3, h4⟩ := rg_hd Packet.enc hd hL
    have ih' := ih _ h4
    rcases List.eq_nil_or_concat done with h0 | ⟨ds, p, h0⟩
    · obtain ⟨p1, hp⟩ := rg_first' h0
      repeat' first | (refine Lp.bkE0 ih' (by rfl) ?_) | (refine Rt_pure ?_ rfl; simp only [retO, retO1, retOs, S, get_cons, Nat.reduceEqDiff, reduceIte, obj, getO_cons_zero, getO_cons_succ, List.getElem?_cons_zero, List.getElem?_cons_succ, List.drop_zero, List.drop_succ_cons, loadFrom_cell, loadFrom_agg, List.length_cons, List.length_nil, Nat.reduceAdd, Nat.reduceLeDiff, List.take_succ_cons, List.take_zero, List.take_nil]) | (with_reducible intro h; try simp only [h]) | (with_reducible refine And.intro ?_ ?_) | (change chk _ _ = true; rfl) | simp only [go_sem, seval, Vc_bool, h1, h2, h3, Int.toNat_natCast, Int.natCast_nonneg, List.length_map, p1] | refine (GX_split rfl).2 ?_
      all_goals (clear hk ih ih' h1 h2 h3 h4 hd hL)
      all_goals clear p1 h0
      all_goals (simp only [List.all_cons]; grind)
    · rw [List.concat_eq_append] at h0
      obtain ⟨p1, p2, p3, hp⟩ := rg_prev' Packet.enc hd h0 hL
      repeat' first | (refine Lp.bkE0 ih' (by rfl) ?_) | (refine Rt_pure ?_ rfl; simp only [retO, retO1, retOs, S, get_cons, Nat.reduceEqDiff, reduceIte, obj, getO_cons_zero, getO_cons_succ, List.getElem?_cons_zero, List.getElem?_cons_succ, List.drop_zero, List.drop_succ_cons, loadFrom_cell, loadFrom_agg, List.length_cons, List.length_nil, Nat.reduceAdd, Nat.reduceLeDiff, List.take_succ_cons, List.take_zero, List.take_nil]) | (with_reducible intro h; try simp only [h]) | (with_reducible refine And.intro ?_ ?_) | (change chk _ _ = true; rfl) | simp only [go_sem, seval, Vc_bool, h1, h2, h3, Int.toNat_natCast, Int.natCast_nonneg, List.length_map, p1, p2, p3] | refine (GX_split rfl).2 ?_
      all_goals (clear hk ih ih' h1 h2 h3 h4 hd hL)
      all_goals clear p1 p2 p3 h0
      all_goals (simp only [List.all_cons]; grind)

theorem c79_pf (q : Queue) (hL : q.pk.length < 2 ^ 62) : ACalls prog 79 [.agg [.int .i64 q.limit, .sl 6 (q.pk.map Packet.enc)]] [] (.bool (qFew q)) [] := by
  refine calls_of hmx func79 (by kernel_rfl) (c := f79.body.getD .skip) rfl e79 (rs := [(.t 2)]) (by kernel_rfl) (by simp [ntmps79]) ?_
  simp only [c79, argS]
  simp only [go_sem, seval, List.length_map, Vc_bool]
  refine ⟨fun h => ?_, fun h => ?_⟩
  · (refine Rt_pure ?_ rfl; simp only [retO, retO1, retOs, S, get_cons, Nat.reduceEqDiff, reduceIte, obj, getO_cons_zero, getO_cons_succ, List.getElem?_cons_zero, List.getElem?_cons_succ, List.drop_zero, List.drop_succ_cons, loadFrom_cell, loadFrom_agg, List.length_cons, List.length_nil, Nat.reduceAdd, Nat.reduceLeDiff, List.take_succ_cons, List.take_zero, List.take_nil])
    grind [qFew]
  · refine Lp.bkE0 (l79 q hL _ (fun zs => ?_) q.pk [] rfl) (by rfl) ?_
    · simp only [go_sem, seval]
      (refine Rt_pure ?_ rfl; simp only [retO, retO1, retOs, S, get_cons, Nat.reduceEqDiff, reduceIte, obj, getO_cons_zero, getO_cons_succ, List.getElem?_cons_zero, List.getElem?_cons_succ, List.drop_zero, List.drop_succ_cons, loadFrom_cell, loadFrom_agg, List.length_cons, List.length_nil, Nat.reduceAdd, Nat.reduceLeDiff, List.take_succ_cons, List.take_zero, List.take_nil])
    · simp only [qFew]
      grind
theorem c79_ok {q_limit : Int} {q_pk : List Packet} (hL : q_pk.length < 2 ^ 62) : ACalls prog 79 [.agg [.int .i64 q_limit, .sl 6 (q_pk.map Packet.enc)]] [] (.bool (qFew (⟨q_limit, q_pk⟩ : Queue))) [] := c79_pf (⟨q_limit, q_pk⟩ : Queue) hL

theorem l19 (s : Station) (hL : (s.held).length < 2 ^ 62) (k' : List It) (hk : ∀ zs, V prog f19.ntmps 0 (Ret [(.t 2)] 0 (.bool true) []) k' zs [.cells 0 14 31 true [s.enc]]) : ∀ (rest done : List Held), s.held = done ++ rest →
    Lp prog f19.ntmps 0 (Ret [(.t 2)] 0 (.bool ((rest).all fun h => decide ((h.data.size : Int) ≤ 200) && decide ((h.acked.length : Int) ≤ 40))) []) c19L1 (.blk 0 :: k') [(1, .ptr 0 0 0 0), (3, .int .i64 done.length)] [.cells 0 14 31 true [s.enc]] := by
  intro rest
  induction rest with
  | nil =>
    intro done hd
    refine Lp.of_eq hmx c19L1.eq_1 ?_
    have h1 := rg_end hd
    simp only [go_sem, seval, h1, List.length_map]
    exact hk _
  | cons c rest ih =>
    intro done hd
    refine Lp.of_eq hmx c19L1.eq_1 ?_
    obtain ⟨h1, h2, h3, h4⟩ := rg_hd Held.enc hd hL
    have ih' := ih _ h4
    rcases List.eq_nil_or_concat done with h0 | ⟨ds, p, h0⟩
    · obtain ⟨p1, hp⟩ := rg_first' h0
      cases hw0 : (decide (200 < (c.data.size : Int)))
      all_goals
        repeat' first | (refine Lp.bkE0 ih' (by rfl) ?_) | (refine Rt_pure ?_ rfl; simp only [retO, retO1, retOs, S, get_cons, Nat.reduceEqDiff, reduceIte, obj, getO_cons_zero, getO_cons_succ, List.getElem?_cons_zero, List.getElem?_cons_succ, List.drop_zero, List.drop_succ_cons, loadFrom_cell, loadFrom_agg, List.length_cons, List.length_nil, Nat.reduceAdd, Nat.reduceLeDiff, List.take_succ_cons, List.take_zero, List.take_nil]) | (with_reducible intro h; try simp only [h]) | (with_reducible refine And.intro ?_ ?_) | (change chk _ _ = true; rfl) | simp only [go_sem, seval, Vc_bool, h1, h2, h3, Int.toNat_natCast, Int.natCast_nonneg, List.length_map, hw0, p1] | refine (GX_split rfl).2 ?_
        all_goals (clear hk ih ih' h1 h2 h3 h4 hd hL)
        all_goals clear p1 h0
        all_goals (simp only [List.all_cons]; simp only [decide_eq_true_eq, decide_eq_false_iff_not] at hw0; grind)
    · rw [List.concat_eq_append] at h0
      obtain ⟨p1, p2, p3, hp⟩ := rg_prev' Held.enc hd h0 hL
      cases hw0 : (decide (200 < (c.data.size : Int)))
      all_goals
        repeat' first | (refine Lp.bkE0 ih' (by rfl) ?_) | (refine Rt_pure ?_ rfl; simp only [retO, retO1, retOs, S, get_cons, Nat.reduceEqDiff, reduceIte, obj, getO_cons_zero, getO_cons_succ, List.getElem?_cons_zero, List.getElem?_cons_succ, List.drop_zero, List.drop_succ_cons, loadFrom_cell, loadFrom_agg, List.length_cons, List.length_nil, Nat.reduceAdd, Nat.reduceLeDiff, List.take_succ_cons, List.take_zero, List.take_nil]) | (with_reducible intro h; try simp only [h]) | (with_reducible refine And.intro ?_ ?_) | (change chk _ _ = true; rfl) | simp only [go_sem, seval, Vc_bool, h1, h2, h3, Int.toNat_natCast, Int.natCast_nonneg, List.length_map, hw0, p1, p2, p3] | refine (GX_split rfl).2 ?_
        all_goals (clear hk ih ih' h1 h2 h3 h4 hd hL)
        all_goals clear p1 p2 p3 h0
        all_goals (simp only [List.all_cons]; simp only [decide_eq_true_eq, decide_eq_false_iff_not] at hw0; grind)

theorem c19_pf (s : Station) (hB2 : s.q.pk.length < 2 ^ 62) (hB3 : s.held.length < 2 ^ 62) : ACalls prog 19 [.agg [.int .i64 s.tab.node, .int .i64 s.tab.len, .sl 6 (s.tab.cells.map TCell.enc), .int .i64 s.q.limit, .sl 6 (s.q.pk.map Packet.enc), .sl 5 (s.held.map Held.enc), .sl 2 (s.seen.map Seen.enc), .int .i64 s.list, .int .i64 s.seq, .int .i64 s.trying, .int .i64 s.tries, .int .i64 s.back, .int .i64 s.wait, .int .i64 s.seed]] [] (.bool (stFew s)) [] := by
  refine calls_of hmx func19 (by kernel_rfl) (c := f19.body.getD .skip) rfl e19 (rs := [(.t 2)]) (by kernel_rfl) (by simp [ntmps19]) ?_
  simp only [c19, argS]
  simp only [go_sem, seval]
  repeat' first | (refine Lp.bkE0 (l19 s hB3 _ (fun zs => ?_) s.held [] rfl) (by rfl) ?_) | (refine Rt_pure ?_ rfl; simp only [retO, retO1, retOs, S, get_cons, Nat.reduceEqDiff, reduceIte, obj, getO_cons_zero, getO_cons_succ, List.getElem?_cons_zero, List.getElem?_cons_succ, List.drop_zero, List.drop_succ_cons, loadFrom_cell, loadFrom_agg, List.length_cons, List.length_nil, Nat.reduceAdd, Nat.reduceLeDiff, List.take_succ_cons, List.take_zero, List.take_nil]) | refine CX_pure c68_ok rfl rfl rfl rfl ?_ | refine CX_pure (c79_ok hB2) rfl rfl rfl rfl ?_ | refine GX_call (fun _ => c68_ok) (by rfl) (by intro h; simp only [h]; rfl) (by rfl) (by rfl) ?_ | refine GX_call (fun _ => (c79_ok hB2)) (by rfl) (by intro h; simp only [h]; rfl) (by rfl) (by rfl) ?_ | (with_reducible intro h; try simp only [h]) | (with_reducible refine And.intro ?_ ?_) | (change chk _ _ = true; rfl) | simp only [go_sem, seval, Vc_bool, List.length_map] | refine (GX_split rfl).2 ?_
  all_goals simp only [stFew, heldFew]
  all_goals grind
theorem c19_ok {s_tab_node : Int} {s_tab_len : Int} {s_tab_cells : List TCell} {s_q_limit : Int} {s_q_pk : List Packet} {s_held : List Held} {s_seen : List Seen} {s_list : Int} {s_seq : Int} {s_trying : Int} {s_tries : Int} {s_back : Int} {s_wait : Int} {s_seed : Int} (hB2 : s_q_pk.length < 2 ^ 62) (hB3 : s_held.length < 2 ^ 62) : ACalls prog 19 [.agg [.int .i64 s_tab_node, .int .i64 s_tab_len, .sl 6 (s_tab_cells.map TCell.enc), .int .i64 s_q_limit, .sl 6 (s_q_pk.map Packet.enc), .sl 5 (s_held.map Held.enc), .sl 2 (s_seen.map Seen.enc), .int .i64 s_list, .int .i64 s_seq, .int .i64 s_trying, .int .i64 s_tries, .int .i64 s_back, .int .i64 s_wait, .int .i64 s_seed]] [] (.bool (stFew (⟨(⟨s_tab_node, s_tab_len, s_tab_cells⟩ : Table), (⟨s_q_limit, s_q_pk⟩ : Queue), s_held, s_seen, s_list, s_seq, s_trying, s_tries, s_back, s_wait, s_seed⟩ : Station))) [] := c19_pf (⟨(⟨s_tab_node, s_tab_len, s_tab_cells⟩ : Table), (⟨s_q_limit, s_q_pk⟩ : Queue), s_held, s_seen, s_list, s_seq, s_trying, s_tries, s_back, s_wait, s_seed⟩ : Station) hB2 hB3

theorem c21_pf (t : Table) (limit : Int) (seed : Int) (hL : t.cells.length < 2 ^ 62) : ACalls prog 21 [.agg [.int .i64 t.node, .int .i64 t.len, .sl 6 (t.cells.map TCell.enc)], .int .i64 limit, .int .i64 seed] [] (.tup [.agg (newSt t limit seed).1.enc, .int .i64 (newSt t limit seed).2]) [] := by
  refine calls_of hmx func21 (by kernel_rfl) (c := f21.body.getD .skip) rfl e21 (rs := [(.cell 6 true 14), (.t 7)]) (by kernel_rfl) (by simp [ntmps21]) ?_
  simp only [c21, argS]
  simp only [go_sem, seval]
  repeat' first | refine CX_pure (c83_ok hL) rfl rfl rfl rfl ?_ | refine GX_call (fun _ => (c83_ok hL)) (by rfl) (by intro h; simp only [h]; rfl) (by rfl) (by rfl) ?_ | (with_reducible intro h; try simp only [h]) | (with_reducible refine And.intro ?_ ?_) | (change chk _ _ = true; rfl) | simp only [go_sem, seval, Vc_bool] | refine (GX_split rfl).2 ?_
  · have e : newSt t limit seed = (Station.zero, 1) := by grind [newSt]
    rw [e]
    refine Rt.gs (Gs_tell (s' := [(6, .ptr 1 0 0 0), (7, .int .i64 1)]) (H' := [.dead, .cells 0 14 31 true [Station.zero.enc]]) ?_ ?_) (Rt_pure ?_ rfl)
    · repeat' (first | exact FzL.nil | refine FzL.cons ?_ ?_ | exact Fz.wk (Wk.refl _) | exact Fz.wk (Wk.nil _) | exact Fz.wk (Wk.emp _) | exact Fz.row0 _ _ _ _ | exact FzH.nil _ | exact FzO.refl _ | refine FzO.one ?_ | refine FzH.cons (by decide) ?_ ?_ | refine FzH.this rfl ?_ | exact FzO.dead (by simp) | (simp only [List.forall_mem_cons, List.not_mem_nil, false_implies, implies_true, and_true, go_sem, seval]) | refine And.intro ?_ ?_)
    · repeat' (first | exact FzL.nil | refine FzL.cons ?_ ?_ | exact Fz.wk (Wk.refl _) | exact Fz.wk (Wk.nil _) | exact Fz.wk (Wk.emp _) | exact Fz.row0 _ _ _ _ | exact FzH.nil _ | exact FzO.refl _ | refine FzO.one ?_ | refine FzH.cons (by decide) ?_ ?_ | refine FzH.this rfl ?_ | exact FzO.dead (by simp) | (simp only [List.forall_mem_cons, List.not_mem_nil, false_implies, implies_true, and_true, go_sem, seval]) | refine And.intro ?_ ?_)
    · rfl
  · have e : newSt t limit seed = (Station.zero, 2) := by grind [newSt, wi]
    rw [e]
    refine Rt.gs (Gs_tell (s' := [(6, .ptr 1 0 0 0), (7, .int .i64 2)]) (H' := [.dead, .cells 0 14 31 true [Station.zero.enc]]) ?_ ?_) (Rt_pure ?_ rfl)
    · repeat' (first | exact FzL.nil | refine FzL.cons ?_ ?_ | exact Fz.wk (Wk.refl _) | exact Fz.wk (Wk.nil _) | exact Fz.wk (Wk.emp _) | exact Fz.row0 _ _ _ _ | exact FzH.nil _ | exact FzO.refl _ | refine FzO.one ?_ | refine FzH.cons (by decide) ?_ ?_ | refine FzH.this rfl ?_ | exact FzO.dead (by simp) | (simp only [List.forall_mem_cons, List.not_mem_nil, false_implies, implies_true, and_true, go_sem, seval]) | refine And.intro ?_ ?_)
    · repeat' (first | exact FzL.nil | refine FzL.cons ?_ ?_ | exact Fz.wk (Wk.refl _) | exact Fz.wk (Wk.nil _) | exact Fz.wk (Wk.emp _) | exact Fz.row0 _ _ _ _ | exact FzH.nil _ | exact FzO.refl _ | refine FzO.one ?_ | refine FzH.cons (by decide) ?_ ?_ | refine FzH.this rfl ?_ | exact FzO.dead (by simp) | (simp only [List.forall_mem_cons, List.not_mem_nil, false_implies, implies_true, and_true, go_sem, seval]) | refine And.intro ?_ ?_)
    · rfl
  · have e : newSt t limit seed = (⟨t, ⟨limit, []⟩, [], [], 0, 0, -1, 0, 0, 0, seed⟩, 0) := by grind [newSt, wi]
    rw [e]
    refine Rt.gs (Gs_tell (s' := [(6, .ptr 1 0 0 0), (7, .int .i64 0)]) (H' := [.dead, .cells 0 14 31 true [Station.enc ⟨t, ⟨limit, []⟩, [], [], 0, 0, -1, 0, 0, 0, seed⟩]]) ?_ ?_) (Rt_pure ?_ rfl)
    · repeat' (first | exact FzL.nil | refine FzL.cons ?_ ?_ | exact Fz.wk (Wk.refl _) | exact Fz.wk (Wk.nil _) | exact Fz.wk (Wk.emp _) | exact Fz.row0 _ _ _ _ | exact FzH.nil _ | exact FzO.refl _ | refine FzO.one ?_ | refine FzH.cons (by decide) ?_ ?_ | refine FzH.this rfl ?_ | exact FzO.dead (by simp) | (simp only [List.forall_mem_cons, List.not_mem_nil, false_implies, implies_true, and_true, go_sem, seval]) | refine And.intro ?_ ?_)
    · repeat' (first | exact FzL.nil | refine FzL.cons ?_ ?_ | exact Fz.wk (Wk.refl _) | exact Fz.wk (Wk.nil _) | exact Fz.wk (Wk.emp _) | exact Fz.row0 _ _ _ _ | exact FzH.nil _ | exact FzO.refl _ | refine FzO.one ?_ | refine FzH.cons (by decide) ?_ ?_ | refine FzH.this rfl ?_ | exact FzO.dead (by simp) | (simp only [List.forall_mem_cons, List.not_mem_nil, false_implies, implies_true, and_true, go_sem, seval]) | refine And.intro ?_ ?_)
    · rfl
theorem c21_ok {t_node : Int} {t_len : Int} {t_cells : List TCell} {limit : Int} {seed : Int} (hL : t_cells.length < 2 ^ 62) : ACalls prog 21 [.agg [.int .i64 t_node, .int .i64 t_len, .sl 6 (t_cells.map TCell.enc)], .int .i64 limit, .int .i64 seed] [] (.tup [.agg (newSt (⟨t_node, t_len, t_cells⟩ : Table) limit seed).1.enc, .int .i64 (newSt (⟨t_node, t_len, t_cells⟩ : Table) limit seed).2]) [] := c21_pf (⟨t_node, t_len, t_cells⟩ : Table) limit seed hL


end Go.Av.T
set_option maxRecDepth 100000
set_option maxHeartbeats 1000000
set_option linter.unusedSimpArgs false
set_option linter.unusedVariables false
namespace Go.Av.T
open Go Go.Av Go.Av.Sp Go.Proofs.Tryz
/-- The code of slices.Clone. -/
def cClone (t k bytes : Nat) (zs : List AVal) : SC := (.seq (.reg [(.mv 2 (.c .nil))]) (.seq (.seq (.reg [(.mv 3 (.t 0)), (.binN 4 1 false (.t 3))]) (.cond (.t 4) (.seq (.reg [(.mv 2 (.c .nil))]) .ret) .skip)) (.seq (.reg [(.bsl 5 t k zs 0 []), (.mv 6 (.t 0)), (.app 7 t k bytes (.t 5) (.t 6)), (.mv 2 (.t 7))]) .ret)))
theorem e82 : compC prog f82.ntmps (f82.body.getD .skip) = cClone 57 6 48 [(.int .i64 0), (.int .i64 0), (.int .i64 0), (.bool false), (.int .i64 0), (.int .i64 0)] := by kernel_rfl
theorem e153 : compC prog f153.ntmps (f153.body.getD .skip) = cClone 3 1 8 [.int .i64 0] := by kernel_rfl
theorem e260 : compC prog f260.ntmps (f260.body.getD .skip) = cClone 104 6 56 [(.int .i64 0), (.int .i64 0), (.int .i64 0), (.int .i64 0), (.int .i64 0), (.str (ByteArray.mk #[]))] := by kernel_rfl
theorem e261 : compC prog f261.ntmps (f261.body.getD .skip) = cClone 100 5 64 [(.int .i64 0), (.int .i64 0), (.int .i64 0), (.str (ByteArray.mk #[])), .nil] := by kernel_rfl
theorem e262 : compC prog f262.ntmps (f262.body.getD .skip) = cClone 160 2 16 [(.int .i64 0), (.int .i64 0)] := by kernel_rfl
theorem clone_V {t k bytes : Nat} {zs : List AVal} {xs : List (List AVal)} (hk : 0 < k) (hzs : zs.length = k) (hc : cloE xs) (hb : xs.length * bytes ≤ 140737488355328) :
    V prog 8 0 (Ret [.t 2] 0 (.sl k xs) []) [.code (cClone t k bytes zs)] (argS [.sl k xs] 0) [] := by
  simp only [cClone, argS]
  cases xs with
  | nil =>
    simp only [go_sem, seval, hk]
    intro b
    cases b
    · simp only [go_sem, seval, hk, Nat.zero_mul]
      refine Rt.gs (Gs_tell (s' := [(2, .sl k [])]) (H' := [.dead]) ?_ ?_) (Rt_pure ?_ rfl)
      · repeat' (first | exact FzL.nil | refine FzL.cons ?_ ?_ | exact Fz.wk (Wk.refl _) | exact Fz.wk (Wk.nil _) | exact Fz.wk (Wk.emp _) | exact Fz.row0 _ _ _ _ | exact FzH.nil _ | exact FzO.refl _ | refine FzO.one ?_ | refine FzH.cons (by decide) ?_ ?_ | refine FzH.this rfl ?_ | exact FzO.dead (by simp) | (simp only [List.forall_mem_cons, List.not_mem_nil, false_implies, implies_true, and_true, go_sem, seval]) | refine And.intro ?_ ?_)
      · repeat' (first | exact FzL.nil | refine FzL.cons ?_ ?_ | exact Fz.wk (Wk.refl _) | exact Fz.wk (Wk.nil _) | exact Fz.wk (Wk.emp _) | exact Fz.row0 _ _ _ _ | exact FzH.nil _ | exact FzO.refl _ | refine FzO.one ?_ | refine FzH.cons (by decide) ?_ ?_ | refine FzH.this rfl ?_ | exact FzO.dead (by simp) | (simp only [List.forall_mem_cons, List.not_mem_nil, false_implies, implies_true, and_true, go_sem, seval]) | refine And.intro ?_ ?_)
      · rfl
    · simp only [go_sem, seval]
      refine Rt.gs (Gs_tell (s' := [(2, .sl k [])]) (H' := []) ?_ ?_) (Rt_pure ?_ rfl)
      · repeat' (first | exact FzL.nil | refine FzL.cons ?_ ?_ | exact Fz.wk (Wk.refl _) | exact Fz.wk (Wk.nil _) | exact Fz.wk (Wk.emp _) | exact Fz.row0 _ _ _ _ | exact FzH.nil _ | exact FzO.refl _ | refine FzO.one ?_ | refine FzH.cons (by decide) ?_ ?_ | refine FzH.this rfl ?_ | exact FzO.dead (by simp) | (simp only [List.forall_mem_cons, List.not_mem_nil, false_implies, implies_true, and_true, go_sem, seval]) | refine And.intro ?_ ?_)
      · repeat' (first | exact FzL.nil | refine FzL.cons ?_ ?_ | exact Fz.wk (Wk.refl _) | exact Fz.wk (Wk.nil _) | exact Fz.wk (Wk.emp _) | exact Fz.row0 _ _ _ _ | exact FzH.nil _ | exact FzO.refl _ | refine FzO.one ?_ | refine FzH.cons (by decide) ?_ ?_ | refine FzH.this rfl ?_ | exact FzO.dead (by simp) | (simp only [List.forall_mem_cons, List.not_mem_nil, false_implies, implies_true, and_true, go_sem, seval]) | refine And.intro ?_ ?_)
      · rfl
  | cons x xs =>
    simp only [go_sem, seval, hk, Nat.zero_add]
    refine ⟨by simpa using hb, ?_⟩
    refine Rt.gs (Gs_freeze 0 (s' := [(2, .sl k (x :: xs))]) (H' := [.dead]) rfl ?_ ?_) (Rt_pure ?_ rfl)
    · repeat' (first | exact FzL.nil | refine FzL.cons ?_ ?_ | exact Fz.wk (Wk.refl _) | exact Fz.wk (Wk.nil _) | exact Fz.wk (Wk.emp _) | exact Fz.row0 _ _ _ _ | exact FzH.nil _ | exact FzO.refl _ | refine FzO.one ?_ | refine FzH.cons (by decide) ?_ ?_ | refine FzH.this rfl ?_ | exact FzO.dead (by simp) | (simp only [List.forall_mem_cons, List.not_mem_nil, false_implies, implies_true, and_true, go_sem, seval]) | refine And.intro ?_ ?_)
      exact Fz.row 0 (xs.length + 1) (by rw [List.drop_zero, ← List.length_cons, List.take_length]) hc
    · repeat' (first | exact FzL.nil | refine FzL.cons ?_ ?_ | exact Fz.wk (Wk.refl _) | exact Fz.wk (Wk.nil _) | exact Fz.wk (Wk.emp _) | exact Fz.row0 _ _ _ _ | exact FzH.nil _ | exact FzO.refl _ | refine FzO.one ?_ | refine FzH.cons (by decide) ?_ ?_ | refine FzH.this rfl ?_ | exact FzO.dead (by simp) | (simp only [List.forall_mem_cons, List.not_mem_nil, false_implies, implies_true, and_true, go_sem, seval]) | refine And.intro ?_ ?_)
    · rfl

theorem clone_R {t k bytes : Nat} {zs : List AVal} {x : List AVal} {xs : List (List AVal)} (hk : 0 < k) (hzs : zs.length = k) (hc : (x :: xs).all (ltL 1) = true) (hb : (x :: xs).length * bytes ≤ 140737488355328) :
    V prog 8 0 (Ret [.t 2] 0 (.row 0 1 0 (x :: xs).length) [.cells 1 k t false (x :: xs)]) [.code (cClone t k bytes zs)] (argS [.sl k (x :: xs)] 0) [] := by
  simp only [cClone, argS]
  simp only [go_sem, seval, hk, Nat.zero_add]
  refine ⟨by simpa using hb, ?_⟩
  refine Rt_all rfl (by rfl) ?_ (Nat.zero_le _)
  rw [List.all_cons, List.all_nil, Bool.and_true]
  exact hc
theorem cloE_map {α : Type} {f : α → List AVal} {xs : List α} (h : ∀ x, (f x).all clo = true) : cloE (xs.map f) := by
  intro e he c hc
  obtain ⟨x, _, rfl⟩ := List.mem_map.1 he
  exact List.all_eq_true.1 (h x) c hc
theorem lt_map {α : Type} {m : Nat} {f : α → List AVal} {xs : List α} (h : ∀ x, ltL m (f x) = true) : (xs.map f).all (ltL m) = true := by
  rw [List.all_map]
  exact List.all_eq_true.2 fun x _ => h x
theorem c82_ok {xs : List TCell} (hb : xs.length * 48 ≤ 140737488355328) : ACalls prog 82 [.sl 6 (xs.map TCell.enc)] [] (.sl 6 (xs.map TCell.enc)) [] := by
  refine calls_of hmx func82 (by kernel_rfl) (c := f82.body.getD .skip) rfl e82 (rs := [.t 2]) (by kernel_rfl) (show (1:Nat) ≤ 8 by decide) ?_
  exact clone_V (by decide) rfl (cloE_map fun _ => by rfl) (by rw [List.length_map]; exact hb)
theorem c82r_ok {x : TCell} {xs : List TCell} (hb : (x :: xs).length * 48 ≤ 140737488355328) : ACalls prog 82 [.sl 6 ((x :: xs).map TCell.enc)] [] (.row 0 1 0 (x :: xs).length) [.cells 1 6 57 false ((x :: xs).map TCell.enc)] := by
  refine calls_of hmx func82 (by kernel_rfl) (c := f82.body.getD .skip) rfl e82 (rs := [.t 2]) (by kernel_rfl) (show (1:Nat) ≤ 8 by decide) ?_
  have h := clone_R (t := 57) (k := 6) (bytes := 48) (zs := [(.int .i64 0), (.int .i64 0), (.int .i64 0), (.bool false), (.int .i64 0), (.int .i64 0)]) (x := TCell.enc x) (xs := xs.map TCell.enc) (by decide) rfl (lt_map (xs := x :: xs) fun _ => by rfl) (by simpa using hb)
  simp only [List.map_cons, List.length_cons, List.length_map] at h ⊢
  exact h
theorem c153_ok {xs : List Int} (hb : xs.length * 8 ≤ 140737488355328) : ACalls prog 153 [.sl 1 (xs.map eI)] [] (.sl 1 (xs.map eI)) [] := by
  refine calls_of hmx func153 (by kernel_rfl) (c := f153.body.getD .skip) rfl e153 (rs := [.t 2]) (by kernel_rfl) (show (1:Nat) ≤ 8 by decide) ?_
  exact clone_V (by decide) rfl (cloE_map fun _ => by rfl) (by rw [List.length_map]; exact hb)
theorem c153r_ok {x : Int} {xs : List Int} (hb : (x :: xs).length * 8 ≤ 140737488355328) : ACalls prog 153 [.sl 1 ((x :: xs).map eI)] [] (.row 0 1 0 (x :: xs).length) [.cells 1 1 3 false ((x :: xs).map eI)] := by
  refine calls_of hmx func153 (by kernel_rfl) (c := f153.body.getD .skip) rfl e153 (rs := [.t 2]) (by kernel_rfl) (show (1:Nat) ≤ 8 by decide) ?_
  have h := clone_R (t := 3) (k := 1) (bytes := 8) (zs := [.int .i64 0]) (x := eI x) (xs := xs.map eI) (by decide) rfl (lt_map (xs := x :: xs) fun _ => by rfl) (by simpa using hb)
  simp only [List.map_cons, List.length_cons, List.length_map] at h ⊢
  exact h
theorem c260_ok {xs : List Packet} (hb : xs.length * 56 ≤ 140737488355328) : ACalls prog 260 [.sl 6 (xs.map Packet.enc)] [] (.sl 6 (xs.map Packet.enc)) [] := by
  refine calls_of hmx func260 (by kernel_rfl) (c := f260.body.getD .skip) rfl e260 (rs := [.t 2]) (by kernel_rfl) (show (1:Nat) ≤ 8 by decide) ?_
  exact clone_V (by decide) rfl (cloE_map fun _ => by rfl) (by rw [List.length_map]; exact hb)
theorem c260r_ok {x : Packet} {xs : List Packet} (hb : (x :: xs).length * 56 ≤ 140737488355328) : ACalls prog 260 [.sl 6 ((x :: xs).map Packet.enc)] [] (.row 0 1 0 (x :: xs).length) [.cells 1 6 104 false ((x :: xs).map Packet.enc)] := by
  refine calls_of hmx func260 (by kernel_rfl) (c := f260.body.getD .skip) rfl e260 (rs := [.t 2]) (by kernel_rfl) (show (1:Nat) ≤ 8 by decide) ?_
  have h := clone_R (t := 104) (k := 6) (bytes := 56) (zs := [(.int .i64 0), (.int .i64 0), (.int .i64 0), (.int .i64 0), (.int .i64 0), (.str (ByteArray.mk #[]))]) (x := Packet.enc x) (xs := xs.map Packet.enc) (by decide) rfl (lt_map (xs := x :: xs) fun _ => by rfl) (by simpa using hb)
  simp only [List.map_cons, List.length_cons, List.length_map] at h ⊢
  exact h
theorem c261_ok {xs : List Held} (hb : xs.length * 64 ≤ 140737488355328) : ACalls prog 261 [.sl 5 (xs.map Held.enc)] [] (.sl 5 (xs.map Held.enc)) [] := by
  refine calls_of hmx func261 (by kernel_rfl) (c := f261.body.getD .skip) rfl e261 (rs := [.t 2]) (by kernel_rfl) (show (1:Nat) ≤ 8 by decide) ?_
  exact clone_V (by decide) rfl (cloE_map fun _ => by rfl) (by rw [List.length_map]; exact hb)
theorem c261r_ok {x : Held} {xs : List Held} (hb : (x :: xs).length * 64 ≤ 140737488355328) : ACalls prog 261 [.sl 5 ((x :: xs).map Held.enc)] [] (.row 0 1 0 (x :: xs).length) [.cells 1 5 100 false ((x :: xs).map Held.enc)] := by
  refine calls_of hmx func261 (by kernel_rfl) (c := f261.body.getD .skip) rfl e261 (rs := [.t 2]) (by kernel_rfl) (show (1:Nat) ≤ 8 by decide) ?_
  have h := clone_R (t := 100) (k := 5) (bytes := 64) (zs := [(.int .i64 0), (.int .i64 0), (.int .i64 0), (.str (ByteArray.mk #[])), .nil]) (x := Held.enc x) (xs := xs.map Held.enc) (by decide) rfl (lt_map (xs := x :: xs) fun _ => by rfl) (by simpa using hb)
  simp only [List.map_cons, List.length_cons, List.length_map] at h ⊢
  exact h
theorem c262_ok {xs : List Seen} (hb : xs.length * 16 ≤ 140737488355328) : ACalls prog 262 [.sl 2 (xs.map Seen.enc)] [] (.sl 2 (xs.map Seen.enc)) [] := by
  refine calls_of hmx func262 (by kernel_rfl) (c := f262.body.getD .skip) rfl e262 (rs := [.t 2]) (by kernel_rfl) (show (1:Nat) ≤ 8 by decide) ?_
  exact clone_V (by decide) rfl (cloE_map fun _ => by rfl) (by rw [List.length_map]; exact hb)
theorem c262r_ok {x : Seen} {xs : List Seen} (hb : (x :: xs).length * 16 ≤ 140737488355328) : ACalls prog 262 [.sl 2 ((x :: xs).map Seen.enc)] [] (.row 0 1 0 (x :: xs).length) [.cells 1 2 160 false ((x :: xs).map Seen.enc)] := by
  refine calls_of hmx func262 (by kernel_rfl) (c := f262.body.getD .skip) rfl e262 (rs := [.t 2]) (by kernel_rfl) (show (1:Nat) ≤ 8 by decide) ?_
  have h := clone_R (t := 160) (k := 2) (bytes := 16) (zs := [(.int .i64 0), (.int .i64 0)]) (x := Seen.enc x) (xs := xs.map Seen.enc) (by decide) rfl (lt_map (xs := x :: xs) fun _ => by rfl) (by simpa using hb)
  simp only [List.map_cons, List.length_cons, List.length_map] at h ⊢
  exact h

end Go.Av.T
set_option maxRecDepth 100000
set_option maxHeartbeats 1000000
set_option linter.unusedSimpArgs false
set_option linter.unusedVariables false
namespace Go.Av.T
open Go Go.Av Go.Av.Sp Go.Proofs.Tryz
def c20 : SC := (.seq (.reg [(.box 3 24 (.t 0)), (.alc 6 31 [(.int .i64 0), (.int .i64 0), .nil, (.int .i64 0), .nil, .nil, .nil, (.int .i64 0), (.int .i64 0), (.int .i64 0), (.int .i64 0), (.int .i64 0), (.int .i64 0), (.int .i64 0)]), (.mv 7 (.c (.int .i64 0)))]) (.seq (.seq (.reg [(.ld 8 (.t 3) true 3), (.call (some 9) (.c (.func 80 [] [])) [(.t 8)]), (.bin 10 .neq (.t 9) (.c (.int .i64 0)))]) (.cond (.t 10) (.seq (.reg [(.bld 11 [(.int .i64 0), (.int .i64 0), .nil, (.int .i64 0), .nil, .nil, .nil, (.int .i64 0), (.int .i64 0), (.int .i64 0), (.int .i64 0), (.int .i64 0), (.int .i64 0), (.int .i64 0)] []), (.st (.t 6) (.t 11) 14), (.mv 7 (.c (.int .i64 1)))]) .ret) .skip)) (.seq (.seq (.reg [(.mv 12 (.t 1)), (.bin 13 .lss (.t 12) (.c (.int .i64 1))), (.mv 14 (.t 13)), (.g 14 false (some 15) (.mv 15 (.t 1))), (.g 14 false (some 16) (.bin 16 .gtr (.t 15) (.c (.int .i64 64)))), (.pick 17 (.t 14) (.c (.bool true)) (.t 16)), (.mv 18 (.t 17)), (.g 18 false (some 19) (.mv 19 (.t 2))), (.g 18 false (some 20) (.call (some 20) (.c (.func 81 [] [])) [(.t 19), (.c (.int .i64 2147483647))])), (.g 18 false (some 21) (.not 21 (.t 20))), (.pick 22 (.t 18) (.c (.bool true)) (.t 21))]) (.cond (.t 22) (.seq (.reg [(.bld 23 [(.int .i64 0), (.int .i64 0), .nil, (.int .i64 0), .nil, .nil, .nil, (.int .i64 0), (.int .i64 0), (.int .i64 0), (.int .i64 0), (.int .i64 0), (.int .i64 0), (.int .i64 0)] []), (.st (.t 6) (.t 23) 14), (.mv 7 (.c (.int .i64 2)))]) .ret) .skip)) (.seq (.reg [(.fa 24 (.t 3) 2), (.ld 25 (.t 24) false 1), (.call (some 26) (.c (.func 82 [] [])) [(.t 25)]), (.fa 27 (.t 3) 2), (.st (.t 27) (.t 26) 1)]) (.seq (.reg [(.ld 28 (.t 3) true 3), (.mv 29 (.t 1)), (.bld 30 [(.int .i64 0), .nil] [(0, 1, (.t 29))]), (.mv 31 (.t 2)), (.bld 32 [(.int .i64 0), (.int .i64 0), .nil, (.int .i64 0), .nil, .nil, .nil, (.int .i64 0), (.int .i64 0), (.int .i64 0), (.int .i64 0), (.int .i64 0), (.int .i64 0), (.int .i64 0)] [(0, 3, (.t 28)), (3, 2, (.t 30)), (9, 1, (.c (.int .i64 (-1)))), (13, 1, (.t 31))]), (.st (.t 6) (.t 32) 14), (.mv 7 (.c (.int .i64 0)))]) .ret)))))
theorem e20 : compC prog f20.ntmps (f20.body.getD .skip) = c20 := by kernel_rfl
def c152L1 : SC := (.seq (.reg [(.bin 28 .lss (.t 27) (.t 26))]) (.seq (.cond (.t 28) .skip (.exit 0)) (.seq (.block 1 (.seq (.reg [(.mv 29 (.t 27)), (.mv 3 (.t 29))]) (.regD [(.fa 30 (.t 1) 5), (.ld 31 (.t 30) false 1), (.mv 32 (.t 3)), (.fa 33 (.t 1) 5), (.ld 34 (.t 33) false 1), (.mv 35 (.t 3)), (.ia 36 (.t 34) (.t 35) 5), (.fa 37 (.t 36) 4), (.ld 38 (.t 37) false 1), (.call (some 39) (.c (.func 153 [] [])) [(.t 38)]), (.ia 40 (.t 31) (.t 32) 5), (.fa 41 (.t 40) 4), (.st (.t 41) (.t 39) 1)] [(1, 9)]))) (.reg [(.bin 42 .add (.t 27) (.c (.int .i64 1))), (.mv 27 (.t 42))]))))
def c152 : SC := (.seq (.reg [(.box 1 31 (.t 0)), (.alc 2 31 [(.int .i64 0), (.int .i64 0), .nil, (.int .i64 0), .nil, .nil, .nil, (.int .i64 0), (.int .i64 0), (.int .i64 0), (.int .i64 0), (.int .i64 0), (.int .i64 0), (.int .i64 0)])]) (.seq (.regD [(.fa 4 (.t 1) 0), (.fa 5 (.t 4) 2), (.ld 6 (.t 5) false 1), (.call (some 7) (.c (.func 82 [] [])) [(.t 6)]), (.fa 8 (.t 1) 3), (.fa 9 (.t 8) 1), (.ld 10 (.t 9) false 1), (.call (some 11) (.c (.func 260 [] [])) [(.t 10)]), (.fa 12 (.t 1) 0), (.fa 13 (.t 12) 2), (.st (.t 13) (.t 7) 1), (.fa 14 (.t 1) 3), (.fa 15 (.t 14) 1), (.st (.t 15) (.t 11) 1)] [(3, 6)]) (.seq (.regD [(.fa 16 (.t 1) 5), (.ld 17 (.t 16) false 1), (.call (some 18) (.c (.func 261 [] [])) [(.t 17)]), (.fa 19 (.t 1) 6), (.ld 20 (.t 19) false 1), (.call (some 21) (.c (.func 262 [] [])) [(.t 20)]), (.fa 22 (.t 1) 5), (.st (.t 22) (.t 18) 1), (.fa 23 (.t 1) 6), (.st (.t 23) (.t 21) 1)] [(2, 4)]) (.seq (.seq (.reg [(.fa 24 (.t 1) 5), (.ld 25 (.t 24) false 1), (.len 26 false (.t 25)), (.mv 27 (.c (.int .i64 0)))]) (.block 0 (.loop c152L1))) (.seq (.reg [(.ld 43 (.t 1) true 14), (.st (.t 2) (.t 43) 14)]) .ret)))))
theorem e152 : compC prog f152.ntmps (f152.body.getD .skip) = c152 := by kernel_rfl
theorem tabErr0_len {t : Table} (h : (!decide (tabErr t = 0)) = false) : t.cells.length ≤ 512 := by
  simp only [Bool.not_eq_false', decide_eq_true_eq] at h
  grind [tabErr]
theorem c20_pf (t : Table) (limit : Int) (seed : Int) (hL : t.cells.length < 2 ^ 62) : ACalls prog 20 [.agg [.int .i64 t.node, .int .i64 t.len, .sl 6 (t.cells.map TCell.enc)], .int .i64 limit, .int .i64 seed] [] (.tup [.agg (newSt t limit seed).1.enc, .int .i64 (newSt t limit seed).2]) [] := by
  refine calls_of hmx func20 (by kernel_rfl) (c := f20.body.getD .skip) rfl e20 (rs := [(.cell 6 true 14), (.t 7)]) (by kernel_rfl) (by simp [ntmps20]) ?_
  simp only [c20, argS]
  simp only [go_sem, seval]
  repeat' first | refine CX_pure (c80_ok hL) rfl rfl rfl rfl ?_ | refine CX_pure c81_ok rfl rfl rfl rfl ?_ | refine CX_pure (c82_ok (Nat.le_trans (Nat.mul_le_mul_right 48 (tabErr0_len (by assumption))) (by decide))) rfl rfl rfl rfl ?_ | refine GX_call (fun _ => (c80_ok hL)) (by rfl) (by intro h; simp only [h]; rfl) (by rfl) (by rfl) ?_ | refine GX_call (fun _ => c81_ok) (by rfl) (by intro h; simp only [h]; rfl) (by rfl) (by rfl) ?_ | refine GX_call (fun _ => (c82_ok (Nat.le_trans (Nat.mul_le_mul_right 48 (tabErr0_len (by assumption))) (by decide)))) (by rfl) (by intro h; simp only [h]; rfl) (by rfl) (by rfl) ?_ | (with_reducible intro h; try simp only [h]) | (with_reducible refine And.intro ?_ ?_) | (change chk _ _ = true; rfl) | simp only [go_sem, seval, Vc_bool] | refine (GX_split rfl).2 ?_
  · have e : newSt t limit seed = (Station.zero, 1) := by grind [newSt]
    rw [e]
    refine Rt.gs (Gs_tell (s' := [(6, .ptr 1 0 0 0), (7, .int .i64 1)]) (H' := [.dead, .cells 0 14 31 true [Station.zero.enc]]) ?_ ?_) (Rt_pure ?_ rfl)
    · repeat' (first | exact FzL.nil | refine FzL.cons ?_ ?_ | exact Fz.wk (Wk.refl _) | exact Fz.wk (Wk.nil _) | exact Fz.wk (Wk.emp _) | exact Fz.row0 _ _ _ _ | exact FzH.nil _ | exact FzO.refl _ | refine FzO.one ?_ | refine FzH.cons (by decide) ?_ ?_ | refine FzH.this rfl ?_ | exact FzO.dead (by simp) | (simp only [List.forall_mem_cons, List.not_mem_nil, false_implies, implies_true, and_true, go_sem, seval]) | refine And.intro ?_ ?_)
    · repeat' (first | exact FzL.nil | refine FzL.cons ?_ ?_ | exact Fz.wk (Wk.refl _) | exact Fz.wk (Wk.nil _) | exact Fz.wk (Wk.emp _) | exact Fz.row0 _ _ _ _ | exact FzH.nil _ | exact FzO.refl _ | refine FzO.one ?_ | refine FzH.cons (by decide) ?_ ?_ | refine FzH.this rfl ?_ | exact FzO.dead (by simp) | (simp only [List.forall_mem_cons, List.not_mem_nil, false_implies, implies_true, and_true, go_sem, seval]) | refine And.intro ?_ ?_)
    · rfl
  · have e : newSt t limit seed = (Station.zero, 2) := by grind [newSt, wi]
    rw [e]
    refine Rt.gs (Gs_tell (s' := [(6, .ptr 1 0 0 0), (7, .int .i64 2)]) (H' := [.dead, .cells 0 14 31 true [Station.zero.enc]]) ?_ ?_) (Rt_pure ?_ rfl)
    · repeat' (first | exact FzL.nil | refine FzL.cons ?_ ?_ | exact Fz.wk (Wk.refl _) | exact Fz.wk (Wk.nil _) | exact Fz.wk (Wk.emp _) | exact Fz.row0 _ _ _ _ | exact FzH.nil _ | exact FzO.refl _ | refine FzO.one ?_ | refine FzH.cons (by decide) ?_ ?_ | refine FzH.this rfl ?_ | exact FzO.dead (by simp) | (simp only [List.forall_mem_cons, List.not_mem_nil, false_implies, implies_true, and_true, go_sem, seval]) | refine And.intro ?_ ?_)
    · repeat' (first | exact FzL.nil | refine FzL.cons ?_ ?_ | exact Fz.wk (Wk.refl _) | exact Fz.wk (Wk.nil _) | exact Fz.wk (Wk.emp _) | exact Fz.row0 _ _ _ _ | exact FzH.nil _ | exact FzO.refl _ | refine FzO.one ?_ | refine FzH.cons (by decide) ?_ ?_ | refine FzH.this rfl ?_ | exact FzO.dead (by simp) | (simp only [List.forall_mem_cons, List.not_mem_nil, false_implies, implies_true, and_true, go_sem, seval]) | refine And.intro ?_ ?_)
    · rfl
  · have e : newSt t limit seed = (⟨t, ⟨limit, []⟩, [], [], 0, 0, -1, 0, 0, 0, seed⟩, 0) := by grind [newSt, wi]
    rw [e]
    refine Rt.gs (Gs_tell (s' := [(6, .ptr 1 0 0 0), (7, .int .i64 0)]) (H' := [.dead, .cells 0 14 31 true [Station.enc ⟨t, ⟨limit, []⟩, [], [], 0, 0, -1, 0, 0, 0, seed⟩]]) ?_ ?_) (Rt_pure ?_ rfl)
    · repeat' (first | exact FzL.nil | refine FzL.cons ?_ ?_ | exact Fz.wk (Wk.refl _) | exact Fz.wk (Wk.nil _) | exact Fz.wk (Wk.emp _) | exact Fz.row0 _ _ _ _ | exact FzH.nil _ | exact FzO.refl _ | refine FzO.one ?_ | refine FzH.cons (by decide) ?_ ?_ | refine FzH.this rfl ?_ | exact FzO.dead (by simp) | (simp only [List.forall_mem_cons, List.not_mem_nil, false_implies, implies_true, and_true, go_sem, seval]) | refine And.intro ?_ ?_)
    · repeat' (first | exact FzL.nil | refine FzL.cons ?_ ?_ | exact Fz.wk (Wk.refl _) | exact Fz.wk (Wk.nil _) | exact Fz.wk (Wk.emp _) | exact Fz.row0 _ _ _ _ | exact FzH.nil _ | exact FzO.refl _ | refine FzO.one ?_ | refine FzH.cons (by decide) ?_ ?_ | refine FzH.this rfl ?_ | exact FzO.dead (by simp) | (simp only [List.forall_mem_cons, List.not_mem_nil, false_implies, implies_true, and_true, go_sem, seval]) | refine And.intro ?_ ?_)
    · rfl
theorem c20_ok {t_node : Int} {t_len : Int} {t_cells : List TCell} {limit : Int} {seed : Int} (hL : t_cells.length < 2 ^ 62) : ACalls prog 20 [.agg [.int .i64 t_node, .int .i64 t_len, .sl 6 (t_cells.map TCell.enc)], .int .i64 limit, .int .i64 seed] [] (.tup [.agg (newSt (⟨t_node, t_len, t_cells⟩ : Table) limit seed).1.enc, .int .i64 (newSt (⟨t_node, t_len, t_cells⟩ : Table) limit seed).2]) [] := c20_pf (⟨t_node, t_len, t_cells⟩ : Table) limit seed hL


end Go.Av.T
set_option maxRecDepth 100000
set_option maxHeartbeats 1000000
set_option linter.unusedSimpArgs false
set_option linter.unusedVariables false
namespace Go.Av.T
open Go Go.Av Go.Av.Sp Go.Proofs.Tryz
theorem lt_map' {α : Type} {m : Nat} {f : α → List AVal} {xs : List α} (h : ∀ x, ltL m (f x) = true) : (List.map f xs).all (ltL m) = true := lt_map h
theorem set_same {α : Type} {l : List α} {i : Nat} {x : α} (h : l[i]? = some x) : l.set i x = l := by
  obtain ⟨hi, rfl⟩ := List.getElem?_eq_some_iff.1 h
  exact List.set_getElem_self hi
/-- A station whose messages lie in an object of their own. -/
def Station.encH (s : Station) (id n : Nat) : List AVal := [.int .i64 s.tab.node, .int .i64 s.tab.len, .sl 6 (s.tab.cells.map TCell.enc), .int .i64 s.q.limit, .sl 6 (s.q.pk.map Packet.enc), .row id 1 0 n, .sl 2 (s.seen.map Seen.enc), .int .i64 s.list, .int .i64 s.seq, .int .i64 s.trying, .int .i64 s.tries, .int .i64 s.back, .int .i64 s.wait, .int .i64 s.seed]
/-- A station's zero, before it is told. -/
def zSt : List AVal := [.int .i64 0, .int .i64 0, .nil, .int .i64 0, .nil, .nil, .nil, .int .i64 0, .int .i64 0, .int .i64 0, .int .i64 0, .int .i64 0, .int .i64 0, .int .i64 0]
theorem l152 (s : Station) (hL : s.held.length < 2 ^ 62) (hA : ∀ h ∈ s.held, h.acked.length * 8 ≤ 140737488355328) (hr : AVal) (Hr : Heap) (k' : List It)
    (hk : ∀ zs, get zs 1 = .ptr 0 0 0 0 → get zs 2 = .ptr 1 0 0 0 → V prog f152.ntmps 0 (Ret [.cell 2 true 14] 0 hr Hr) k' zs [.cells 0 14 31 true [Station.encH s 2 s.held.length], .cells 0 14 31 true [zSt], .cells 1 5 100 false (s.held.map Held.enc)]) :
    ∀ (rest done : List Held), s.held = done ++ rest →
    Lp prog f152.ntmps 0 (Ret [.cell 2 true 14] 0 hr Hr) c152L1 (.blk 0 :: k') [(1, .ptr 0 0 0 0), (2, .ptr 1 0 0 0), (26, .int .i64 s.held.length), (27, .int .i64 done.length)] [.cells 0 14 31 true [Station.encH s 2 s.held.length], .cells 0 14 31 true [zSt], .cells 1 5 100 false (s.held.map Held.enc)] := by
  intro rest
  induction rest with
  | nil =>
    intro done hd
    refine Lp.of_eq hmx c152L1.eq_1 ?_
    have h1 := rg_end hd
    simp only [go_sem, seval, h1, List.length_map]
    exact hk _ (by rfl) (by rfl)
  | cons c rest ih =>
    intro done hd
    refine Lp.of_eq hmx c152L1.eq_1 ?_
    obtain ⟨h1, h2, h3, h4⟩ := rg_hd Held.enc hd hL
    have hAc := hA c (by rw [hd]; simp)
    have ih' := ih _ h4
    have hlt : done.length < s.held.length := by rw [hd]; simp
    simp only [go_sem, seval, Station.encH, h1, h2, h3, Int.toNat_natCast, Int.natCast_nonneg, List.length_map, hlt, Nat.zero_add]
    refine ⟨Int.ofNat_lt.2 hlt, ?_⟩
    refine CX_pure (c153_ok hAc) rfl rfl rfl rfl ?_
    have hse : (s.held.map Held.enc).set done.length [.int .i64 c.flow, .int .i64 c.frame, .int .i64 c.upto, .str c.data, .sl 1 (c.acked.map eI)] = s.held.map Held.enc := set_same h2
    simp only [go_sem, seval, h1, h2, h3, Int.toNat_natCast, Int.natCast_nonneg, List.length_map, hlt, Nat.zero_add, hse]
    refine ⟨Int.ofNat_lt.2 hlt, by rfl, ?_⟩
    exact Lp.bkE0 ih' (by rfl) rfl
/-- The bounds of a station that Clone takes. -/
structure ClBd (s : Station) : Prop where
  c : s.tab.cells.length * 48 ≤ 140737488355328
  q : s.q.pk.length * 56 ≤ 140737488355328
  h : s.held.length * 64 ≤ 140737488355328
  n : s.seen.length * 16 ≤ 140737488355328
  a : ∀ h ∈ s.held, h.acked.length * 8 ≤ 140737488355328
theorem c261o {hs : List Held} (h0 : hs ≠ []) (hb : hs.length * 64 ≤ 140737488355328) : ACalls prog 261 [.sl 5 (hs.map Held.enc)] [] (.row 0 1 0 hs.length) [.cells 1 5 100 false (hs.map Held.enc)] := by
  cases hs with
  | nil => exact absurd rfl h0
  | cons x xs => exact c261r_ok hb
theorem c152_pf (s : Station) (hB : ClBd s) : ACalls prog 152 [.agg [.int .i64 s.tab.node, .int .i64 s.tab.len, .sl 6 (s.tab.cells.map TCell.enc), .int .i64 s.q.limit, .sl 6 (s.q.pk.map Packet.enc), .sl 5 (s.held.map Held.enc), .sl 2 (s.seen.map Seen.enc), .int .i64 s.list, .int .i64 s.seq, .int .i64 s.trying, .int .i64 s.tries, .int .i64 s.back, .int .i64 s.wait, .int .i64 s.seed]] [] (.agg s.enc) [] := by
  obtain ⟨b1, b2, b3, b4, b5⟩ := hB
  refine calls_of hmx func152 (by kernel_rfl) (c := f152.body.getD .skip) rfl e152 (rs := [(.cell 2 true 14)]) (by kernel_rfl) (by simp [ntmps152]) ?_
  simp only [c152, argS]
  simp only [go_sem, seval]
  repeat' first | refine CX_pure (c82_ok b1) rfl rfl rfl rfl ?_ | refine GX_call (fun _ => (c82_ok b1)) (by rfl) (by intro h; simp only [h]; rfl) (by rfl) (by rfl) ?_ | (with_reducible intro h; try simp only [h]) | (with_reducible refine And.intro ?_ ?_) | (change chk _ _ = true; rfl) | simp only [go_sem, seval, Vc_bool] | refine (GX_split rfl).2 ?_
  repeat' first | refine CX_pure (c260_ok b2) rfl rfl rfl rfl ?_ | refine GX_call (fun _ => (c260_ok b2)) (by rfl) (by intro h; simp only [h]; rfl) (by rfl) (by rfl) ?_ | (with_reducible intro h; try simp only [h]) | (with_reducible refine And.intro ?_ ?_) | (change chk _ _ = true; rfl) | simp only [go_sem, seval, Vc_bool] | refine (GX_split rfl).2 ?_
  repeat' first | (with_reducible intro h; try simp only [h]) | (with_reducible refine And.intro ?_ ?_) | (change chk _ _ = true; rfl) | simp only [go_sem, seval, Vc_bool] | refine (GX_split rfl).2 ?_
  by_cases h0 : s.held = []
  · repeat' first | refine CX_pure (c261_ok b3) rfl rfl rfl rfl ?_ | refine GX_call (fun _ => (c261_ok b3)) (by rfl) (by intro h; simp only [h]; rfl) (by rfl) (by rfl) ?_ | (with_reducible intro h; try simp only [h]) | (with_reducible refine And.intro ?_ ?_) | (change chk _ _ = true; rfl) | simp only [go_sem, seval, Vc_bool] | refine (GX_split rfl).2 ?_
    repeat' first | refine CX_pure (c262_ok b4) rfl rfl rfl rfl ?_ | refine GX_call (fun _ => (c262_ok b4)) (by rfl) (by intro h; simp only [h]; rfl) (by rfl) (by rfl) ?_ | (with_reducible intro h; try simp only [h]) | (with_reducible refine And.intro ?_ ?_) | (change chk _ _ = true; rfl) | simp only [go_sem, seval, Vc_bool] | refine (GX_split rfl).2 ?_
    refine Lp.of_eq hmx c152L1.eq_1 ?_
    simp only [go_sem, seval, h0, List.map_nil, List.length_nil, show decide ((0:Int) < ((0:Nat):Int)) = false from rfl]
    refine Rt.gs (Gs_tell (s' := [(2, .ptr 1 0 0 0)]) (H' := [.dead, .cells 0 14 31 true [Station.enc { s with held := [] }]]) ?_ ?_) (Rt_pure ?_ rfl)
    · repeat' (first | exact FzL.nil | refine FzL.cons ?_ ?_ | exact Fz.wk (Wk.refl _) | exact Fz.wk (Wk.nil _) | exact Fz.wk (Wk.emp _) | exact Fz.row0 _ _ _ _ | exact FzH.nil _ | exact FzO.refl _ | refine FzO.one ?_ | refine FzH.cons (by decide) ?_ ?_ | refine FzH.this rfl ?_ | exact FzO.dead (by simp) | (simp only [List.forall_mem_cons, List.not_mem_nil, false_implies, implies_true, and_true, go_sem, seval]) | refine And.intro ?_ ?_)
    · repeat' (first | exact FzL.nil | refine FzL.cons ?_ ?_ | exact Fz.wk (Wk.refl _) | exact Fz.wk (Wk.nil _) | exact Fz.wk (Wk.emp _) | exact Fz.row0 _ _ _ _ | exact FzH.nil _ | exact FzO.refl _ | refine FzO.one ?_ | refine FzH.cons (by decide) ?_ ?_ | refine FzH.this rfl ?_ | exact FzO.dead (by simp) | (simp only [List.forall_mem_cons, List.not_mem_nil, false_implies, implies_true, and_true, go_sem, seval]) | refine And.intro ?_ ?_)
    · rfl
  · refine CX_new (r1 := .row 2 1 0 s.held.length) (c261o h0 b3) rfl rfl rfl (by rw [List.all_cons, List.all_nil, Bool.and_true]; exact lt_map (xs := s.held) fun _ => by rfl) (by rfl) ?_
    repeat' first | (with_reducible intro h; try simp only [h]) | (with_reducible refine And.intro ?_ ?_) | (change chk _ _ = true; rfl) | simp only [go_sem, seval, Vc_bool] | refine (GX_split rfl).2 ?_
    repeat' first | refine CX_pure (c262_ok b4) rfl rfl rfl rfl ?_ | refine GX_call (fun _ => (c262_ok b4)) (by rfl) (by intro h; simp only [h]; rfl) (by rfl) (by rfl) ?_ | (with_reducible intro h; try simp only [h]) | (with_reducible refine And.intro ?_ ?_) | (change chk _ _ = true; rfl) | simp only [go_sem, seval, Vc_bool] | refine (GX_split rfl).2 ?_
    refine Lp.bkE0 (l152 s (by omega) b5 _ _ _ (fun zs z1 z2 => ?_) s.held [] rfl) (by rfl) rfl
    simp only [go_sem, seval, z1, z2, Station.encH, zSt]
    refine Rt.gs (Gs_freeze 2 (s' := [(2, .ptr 1 0 0 0)]) (H' := [.dead, .cells 0 14 31 true [s.enc], .dead]) rfl ?_ ?_) (Rt_pure ?_ rfl)
    · refine List.forall_mem_cons.2 ⟨?_, by simp⟩
      simp only [go_sem, seval, z2]
      exact Fz.wk (Wk.refl _)
    · repeat' (first | exact FzL.nil | refine FzL.cons ?_ ?_ | exact Fz.wk (Wk.refl _) | exact Fz.wk (Wk.nil _) | exact Fz.wk (Wk.emp _) | exact Fz.row0 _ _ _ _ | exact FzH.nil _ | exact FzO.refl _ | refine FzO.one ?_ | refine FzH.cons (by decide) ?_ ?_ | refine FzH.this rfl ?_ | exact FzO.dead (by simp) | (simp only [List.forall_mem_cons, List.not_mem_nil, false_implies, implies_true, and_true, go_sem, seval]) | refine And.intro ?_ ?_)
      all_goals first | exact Fz.wk (Wk.refl _) | exact Fz.row 0 _ (by rw [List.drop_zero]; exact List.take_of_length_le (by simp)) (cloE_map fun _ => by rfl)
    · rfl
theorem c152_ok {s_tab_node : Int} {s_tab_len : Int} {s_tab_cells : List TCell} {s_q_limit : Int} {s_q_pk : List Packet} {s_held : List Held} {s_seen : List Seen} {s_list : Int} {s_seq : Int} {s_trying : Int} {s_tries : Int} {s_back : Int} {s_wait : Int} {s_seed : Int} (hB : ClBd (⟨(⟨s_tab_node, s_tab_len, s_tab_cells⟩ : Table), (⟨s_q_limit, s_q_pk⟩ : Queue), s_held, s_seen, s_list, s_seq, s_trying, s_tries, s_back, s_wait, s_seed⟩ : Station)) : ACalls prog 152 [.agg [.int .i64 s_tab_node, .int .i64 s_tab_len, .sl 6 (s_tab_cells.map TCell.enc), .int .i64 s_q_limit, .sl 6 (s_q_pk.map Packet.enc), .sl 5 (s_held.map Held.enc), .sl 2 (s_seen.map Seen.enc), .int .i64 s_list, .int .i64 s_seq, .int .i64 s_trying, .int .i64 s_tries, .int .i64 s_back, .int .i64 s_wait, .int .i64 s_seed]] [] (.agg (⟨(⟨s_tab_node, s_tab_len, s_tab_cells⟩ : Table), (⟨s_q_limit, s_q_pk⟩ : Queue), s_held, s_seen, s_list, s_seq, s_trying, s_tries, s_back, s_wait, s_seed⟩ : Station).enc) [] := c152_pf (⟨(⟨s_tab_node, s_tab_len, s_tab_cells⟩ : Table), (⟨s_q_limit, s_q_pk⟩ : Queue), s_held, s_seen, s_list, s_seq, s_trying, s_tries, s_back, s_wait, s_seed⟩ : Station) hB


end Go.Av.T
