/- The seat: part T2. -/
import Derived.Test.YtmhchaedhmnofaaGreatT1
import Derived.KernelRfl
set_option maxRecDepth 100000
set_option maxHeartbeats 1000000
set_option linter.unusedSimpArgs false
set_option linter.unusedVariables false
namespace Go.Av.T
open Go Go.Av Go.Av.Sp Go.Proofs.Tryz
def c258L1 : SC := (.seq (.reg [(.bin 8 .lss (.t 7) (.t 6))]) (.seq (.cond (.t 8) .skip (.exit 0)) (.seq (.block 1 (.seq (.reg [(.mv 9 (.t 7)), (.ia 10 (.t 5) (.t 7) 1), (.ld 11 (.t 10) false 1), (.mv 3 (.t 9)), (.mv 4 (.t 11))]) (.seq (.reg [(.mv 12 (.t 4)), (.call (some 13) (.c (.func 81 [] [])) [(.t 12), (.c (.int .i64 31))]), (.not 14 (.t 13)), (.mv 15 (.t 14)), (.g 15 false (some 16) (.mv 16 (.t 3))), (.g 15 false (some 17) (.bin 17 .gtr (.t 16) (.c (.int .i64 0)))), (.g 15 false (some 18) (.mv 18 (.t 17))), (.g 18 true (some 19) (.mv 19 (.t 0))), (.g 18 true (some 20) (.mv 20 (.t 3))), (.g 18 true (some 21) (.bin 21 .sub (.t 20) (.c (.int .i64 1)))), (.g 18 true (some 22) (.ia 22 (.t 19) (.t 21) 1)), (.g 18 true (some 23) (.ld 23 (.t 22) false 1)), (.g 18 true (some 24) (.mv 24 (.t 4))), (.g 18 true (some 25) (.bin 25 .geq (.t 23) (.t 24))), (.g 15 false (some 26) (.pick 26 (.t 18) (.t 25) (.c (.bool false)))), (.pick 27 (.t 15) (.c (.bool true)) (.t 26))]) (.cond (.t 27) (.seq (.reg [(.mv 2 (.c (.bool false)))]) .ret) .skip)))) (.reg [(.bin 28 .add (.t 7) (.c (.int .i64 1))), (.mv 7 (.t 28))]))))
def c258 : SC := (.seq (.reg [(.mv 2 (.c (.bool false)))]) (.seq (.seq (.reg [(.mv 5 (.t 0)), (.len 6 false (.t 5)), (.mv 7 (.c (.int .i64 0)))]) (.block 0 (.loop c258L1))) (.seq (.reg [(.mv 2 (.c (.bool true)))]) .ret)))
theorem e258 : compC prog f258.ntmps (f258.body.getD .skip) = c258 := by kernel_rfl
def c148 : SC := (.seq (.reg [(.box 1 100 (.t 0)), (.mv 2 (.c (.bool false)))]) (.seq (.reg [(.fa 3 (.t 1) 0), (.ld 4 (.t 3) false 1), (.call (some 5) (.c (.func 81 [] [])) [(.t 4), (.c (.int .i64 255))]), (.mv 6 (.t 5)), (.g 6 true (some 7) (.fa 7 (.t 1) 1)), (.g 6 true (some 8) (.ld 8 (.t 7) false 1)), (.g 6 true (some 9) (.call (some 9) (.c (.func 81 [] [])) [(.t 8), (.c (.int .i64 65535))])), (.pick 10 (.t 6) (.t 9) (.c (.bool false))), (.mv 11 (.t 10)), (.g 11 true (some 12) (.fa 12 (.t 1) 2)), (.g 11 true (some 13) (.ld 13 (.t 12) false 1)), (.g 11 true (some 14) (.call (some 14) (.c (.func 81 [] [])) [(.t 13), (.c (.int .i64 109951162))])), (.pick 15 (.t 11) (.t 14) (.c (.bool false))), (.mv 16 (.t 15)), (.g 16 true (some 17) (.fa 17 (.t 1) 4)), (.g 16 true (some 18) (.ld 18 (.t 17) false 1)), (.g 16 true (some 19) (.call (some 19) (.c (.func 258 [] [])) [(.t 18)])), (.pick 20 (.t 16) (.t 19) (.c (.bool false))), (.mv 2 (.t 20))]) .ret))
theorem e148 : compC prog f148.ntmps (f148.body.getD .skip) = c148 := by kernel_rfl
def c87L1 : SC := (.seq (.reg [(.bin 8 .lss (.t 7) (.t 6))]) (.seq (.cond (.t 8) .skip (.exit 0)) (.seq (.block 1 (.seq (.reg [(.mv 9 (.t 7)), (.ia 10 (.t 5) (.t 7) 2), (.ld 11 (.t 10) true 2), (.alc 4 160 [(.int .i64 0), (.int .i64 0)]), (.mv 3 (.t 9)), (.st (.t 4) (.t 11) 2)]) (.seq (.regD [(.fa 12 (.t 4) 0), (.ld 13 (.t 12) false 1), (.call (some 14) (.c (.func 81 [] [])) [(.t 13), (.c (.int .i64 31))]), (.not 15 (.t 14)), (.mv 16 (.t 15)), (.g 16 false (some 17) (.fa 17 (.t 4) 1)), (.g 16 false (some 18) (.ld 18 (.t 17) false 1)), (.g 16 false (some 19) (.call (some 19) (.c (.func 81 [] [])) [(.t 18), (.c (.int .i64 255))])), (.g 16 false (some 20) (.not 20 (.t 19))), (.pick 21 (.t 16) (.c (.bool true)) (.t 20)), (.mv 22 (.t 21)), (.g 22 false (some 23) (.mv 23 (.t 3))), (.g 22 false (some 24) (.bin 24 .gtr (.t 23) (.c (.int .i64 0)))), (.g 22 false (some 25) (.mv 25 (.t 24))), (.g 25 true (some 26) (.mv 26 (.t 0))), (.g 25 true (some 27) (.mv 27 (.t 3))), (.g 25 true (some 28) (.bin 28 .sub (.t 27) (.c (.int .i64 1)))), (.g 25 true (some 29) (.ia 29 (.t 26) (.t 28) 2)), (.g 25 true (some 30) (.fa 30 (.t 29) 0)), (.g 25 true (some 31) (.ld 31 (.t 30) false 1)), (.g 25 true (some 32) (.fa 32 (.t 4) 0)), (.g 25 true (some 33) (.ld 33 (.t 32) false 1)), (.g 25 true (some 34) (.bin 34 .geq (.t 31) (.t 33))), (.g 22 false (some 35) (.pick 35 (.t 25) (.t 34) (.c (.bool false)))), (.pick 36 (.t 22) (.c (.bool true)) (.t 35))] []) (.cond (.t 36) (.seq (.reg [(.mv 2 (.c (.bool false)))]) .ret) .skip)))) (.reg [(.bin 37 .add (.t 7) (.c (.int .i64 1))), (.mv 7 (.t 37))]))))
def c87 : SC := (.seq (.reg [(.mv 2 (.c (.bool false)))]) (.seq (.seq (.reg [(.mv 5 (.t 0)), (.len 6 false (.t 5)), (.mv 7 (.c (.int .i64 0)))]) (.block 0 (.loop c87L1))) (.seq (.reg [(.mv 2 (.c (.bool true)))]) .ret)))
theorem e87 : compC prog f87.ntmps (f87.body.getD .skip) = c87 := by kernel_rfl
theorem l258 (l : List Int) (hL : (l).length < 2 ^ 62) (k' : List It) (hk : ∀ zs, V prog f258.ntmps 0 (Ret [(.t 2)] 0 (.bool true) []) k' zs []) : ∀ (rest done : List Int), l = done ++ rest →
    Lp prog f258.ntmps 0 (Ret [(.t 2)] 0 (.bool (chain (fun n => wi n 31) (fun a b => decide (a < b)) done.getLast? rest)) []) c258L1 (.blk 0 :: k') [(0, .sl 1 (l.map eI)), (5, .sl 1 (l.map eI)), (6, .int .i64 l.length), (7, .int .i64 done.length)] [] := by
  intro rest
  induction rest with
  | nil =>
    intro done hd
    refine Lp.of_eq hmx c258L1.eq_1 ?_
    have h1 := rg_end hd
    simp only [go_sem, seval, h1, List.length_map]
    exact hk _
  | cons c rest ih =>
    intro done hd
    refine Lp.of_eq hmx c258L1.eq_1 ?_
    obtain ⟨h1, h2, h3, h4⟩ := rg_hd eI hd hL
    have ih' := ih _ h4
    rw [List.getLast?_append, List.getLast?_singleton, Option.some_or] at ih'
    rcases List.eq_nil_or_concat done with h0 | ⟨ds, p, h0⟩
    · obtain ⟨p1, hp⟩ := rg_first' h0
      cases hw0 : (wi c 31)
      all_goals
        repeat' first | (refine Lp.bkE0 ih' (by rfl) ?_) | (refine Rt_pure ?_ rfl; simp only [retO, retO1, retOs, S, get_cons, Nat.reduceEqDiff, reduceIte, obj, getO_cons_zero, getO_cons_succ, List.getElem?_cons_zero, List.getElem?_cons_succ, List.drop_zero, List.drop_succ_cons, loadFrom_cell, loadFrom_agg, List.length_cons, List.length_nil, Nat.reduceAdd, Nat.reduceLeDiff, List.take_succ_cons, List.take_zero, List.take_nil]) | refine CX_pure c81_ok rfl rfl rfl rfl ?_ | refine GX_call (fun _ => c81_ok) (by rfl) (by intro h; simp only [h]; rfl) (by rfl) (by rfl) ?_ | (with_reducible intro h; try simp only [h]) | (with_reducible refine And.intro ?_ ?_) | (change chk _ _ = true; rfl) | simp only [go_sem, seval, Vc_bool, h1, h2, h3, Int.toNat_natCast, Int.natCast_nonneg, List.length_map, hw0, p1] | refine (GX_split rfl).2 ?_
        all_goals (clear hk ih ih' h1 h2 h3 h4 hd hL)
        all_goals clear p1 h0
        all_goals (simp only [hp, chain, hw0]; grind)
    · rw [List.concat_eq_append] at h0
      obtain ⟨p1, p2, p3, hp⟩ := rg_prev' eI hd h0 hL
      cases hw0 : (wi c 31)
      all_goals
        repeat' first | (refine Lp.bkE0 ih' (by rfl) ?_) | (refine Rt_pure ?_ rfl; simp only [retO, retO1, retOs, S, get_cons, Nat.reduceEqDiff, reduceIte, obj, getO_cons_zero, getO_cons_succ, List.getElem?_cons_zero, List.getElem?_cons_succ, List.drop_zero, List.drop_succ_cons, loadFrom_cell, loadFrom_agg, List.length_cons, List.length_nil, Nat.reduceAdd, Nat.reduceLeDiff, List.take_succ_cons, List.take_zero, List.take_nil]) | refine CX_pure c81_ok rfl rfl rfl rfl ?_ | refine GX_call (fun _ => c81_ok) (by rfl) (by intro h; simp only [h]; rfl) (by rfl) (by rfl) ?_ | (with_reducible intro h; try simp only [h]) | (with_reducible refine And.intro ?_ ?_) | (change chk _ _ = true; rfl) | simp only [go_sem, seval, Vc_bool, h1, h2, h3, Int.toNat_natCast, Int.natCast_nonneg, List.length_map, hw0, p1, p2, p3] | refine (GX_split rfl).2 ?_
        all_goals (clear hk ih ih' h1 h2 h3 h4 hd hL)
        all_goals clear p1 p2 p3 h0
        all_goals (simp only [hp, chain, hw0]; grind)

theorem c258_ok {l : List Int} (hL : l.length < 2 ^ 62) : ACalls prog 258 [.sl 1 (l.map eI)] [] (.bool (rising l)) [] := by
  refine calls_of hmx func258 (by kernel_rfl) (c := f258.body.getD .skip) rfl e258 (rs := [(.t 2)]) (by kernel_rfl) (by simp [ntmps258]) ?_
  simp only [c258, argS]
  simp only [go_sem, seval, List.length_map]
  refine Lp.bkE0 (l258 l hL _ (fun s => ?_) l [] rfl) (by rfl) ?_
  · simp only [go_sem, seval]
    (refine Rt_pure ?_ rfl; simp only [retO, retO1, retOs, S, get_cons, Nat.reduceEqDiff, reduceIte, obj, getO_cons_zero, getO_cons_succ, List.getElem?_cons_zero, List.getElem?_cons_succ, List.drop_zero, List.drop_succ_cons, loadFrom_cell, loadFrom_agg, List.length_cons, List.length_nil, Nat.reduceAdd, Nat.reduceLeDiff, List.take_succ_cons, List.take_zero, List.take_nil])
  · rfl
theorem c148_pf (h : Held) (hL : h.acked.length < 2 ^ 62) : ACalls prog 148 [.agg [.int .i64 h.flow, .int .i64 h.frame, .int .i64 h.upto, .str h.data, .sl 1 (h.acked.map eI)]] [] (.bool (hRange h)) [] := by
  refine calls_of hmx func148 (by kernel_rfl) (c := f148.body.getD .skip) rfl e148 (rs := [(.t 2)]) (by kernel_rfl) (by simp [ntmps148]) ?_
  simp only [c148, argS]
  cases h1 : wi h.flow 255 <;> cases h2 : wi h.frame 65535 <;> cases h3 : wi h.upto 109951162
  all_goals
    simp only [go_sem, seval]
    repeat' first | refine CX_pure c81_ok rfl rfl rfl rfl ?_ | refine CX_pure (c258_ok hL) rfl rfl rfl rfl ?_ | (refine Rt_pure ?_ rfl; simp only [retO, retO1, retOs, S, get_cons, Nat.reduceEqDiff, reduceIte, obj, getO_cons_zero, getO_cons_succ, List.getElem?_cons_zero, List.getElem?_cons_succ, List.drop_zero, List.drop_succ_cons, loadFrom_cell, loadFrom_agg, List.length_cons, List.length_nil, Nat.reduceAdd, Nat.reduceLeDiff, List.take_succ_cons, List.take_zero, List.take_nil]) | simp only [go_sem, seval, h1, h2, h3]
    simp [hRange, h1, h2, h3]
theorem c148_ok {h_flow : Int} {h_frame : Int} {h_upto : Int} {h_data : ByteArray} {h_acked : List Int} (hL : h_acked.length < 2 ^ 62) : ACalls prog 148 [.agg [.int .i64 h_flow, .int .i64 h_frame, .int .i64 h_upto, .str h_data, .sl 1 (h_acked.map eI)]] [] (.bool (hRange (⟨h_flow, h_frame, h_upto, h_data, h_acked⟩ : Held))) [] := c148_pf (⟨h_flow, h_frame, h_upto, h_data, h_acked⟩ : Held) hL

theorem l87 (l : List Seen) (hL : (l).length < 2 ^ 62) (k' : List It) (hk : ∀ zs, V prog f87.ntmps 0 (Ret [(.t 2)] 0 (.bool true) []) k' zs []) : ∀ (rest done : List Seen), l = done ++ rest →
    Lp prog f87.ntmps 0 (Ret [(.t 2)] 0 (.bool (chain (fun x => wi x.node 31 && wi x.seq 255) (fun a b => decide (a.node < b.node)) done.getLast? rest)) []) c87L1 (.blk 0 :: k') [(0, .sl 2 (l.map Seen.enc)), (5, .sl 2 (l.map Seen.enc)), (6, .int .i64 l.length), (7, .int .i64 done.length)] [] := by
  intro rest
  induction rest with
  | nil =>
    intro done hd
    refine Lp.of_eq hmx c87L1.eq_1 ?_
    have h1 := rg_end hd
    simp only [go_sem, seval, h1, List.length_map]
    exact hk _
  | cons c rest ih =>
    intro done hd
    refine Lp.of_eq hmx c87L1.eq_1 ?_
    obtain ⟨h1, h2, h3, h4⟩ := rg_hd Seen.enc hd hL
    have ih' := ih _ h4
    rw [List.getLast?_append, List.getLast?_singleton, Option.some_or] at ih'
    rcases List.eq_nil_or_concat done with h0 | ⟨ds, p, h0⟩
    · obtain ⟨p1, hp⟩ := rg_first' h0
      cases hw0 : (wi c.node 31) <;> cases hw1 : (wi c.seq 255)
      all_goals
        repeat' first | (refine Lp.bkE [_] ih' (by rfl) (by rfl) (by rfl) (Nat.zero_le _) ?_) | (refine Rt_pure ?_ rfl; simp only [retO, retO1, retOs, S, get_cons, Nat.reduceEqDiff, reduceIte, obj, getO_cons_zero, getO_cons_succ, List.getElem?_cons_zero, List.getElem?_cons_succ, List.drop_zero, List.drop_succ_cons, loadFrom_cell, loadFrom_agg, List.length_cons, List.length_nil, Nat.reduceAdd, Nat.reduceLeDiff, List.take_succ_cons, List.take_zero, List.take_nil]) | refine CX_pure c81_ok rfl rfl rfl rfl ?_ | refine GX_call (fun _ => c81_ok) (by rfl) (by intro h; simp only [h]; rfl) (by rfl) (by rfl) ?_ | (with_reducible intro h; try simp only [h]) | (with_reducible refine And.intro ?_ ?_) | (change chk _ _ = true; rfl) | simp only [go_sem, seval, Vc_bool, h1, h2, h3, Int.toNat_natCast, Int.natCast_nonneg, List.length_map, hw0, hw1, p1] | refine (GX_split rfl).2 ?_
        all_goals (clear hk ih ih' h1 h2 h3 h4 hd hL)
        all_goals clear p1 h0
        all_goals (simp only [hp, chain, hw0, hw1]; grind)
    · rw [List.concat_eq_append] at h0
      obtain ⟨p1, p2, p3, hp⟩ := rg_prev' Seen.enc hd h0 hL
      cases hw0 : (wi c.node 31) <;> cases hw1 : (wi c.seq 255)
      all_goals
        repeat' first | (refine Lp.bkE [_] ih' (by rfl) (by rfl) (by rfl) (Nat.zero_le _) ?_) | (refine Rt_pure ?_ rfl; simp only [retO, retO1, retOs, S, get_cons, Nat.reduceEqDiff, reduceIte, obj, getO_cons_zero, getO_cons_succ, List.getElem?_cons_zero, List.getElem?_cons_succ, List.drop_zero, List.drop_succ_cons, loadFrom_cell, loadFrom_agg, List.length_cons, List.length_nil, Nat.reduceAdd, Nat.reduceLeDiff, List.take_succ_cons, List.take_zero, List.take_nil]) | refine CX_pure c81_ok rfl rfl rfl rfl ?_ | refine GX_call (fun _ => c81_ok) (by rfl) (by intro h; simp only [h]; rfl) (by rfl) (by rfl) ?_ | (with_reducible intro h; try simp only [h]) | (with_reducible refine And.intro ?_ ?_) | (change chk _ _ = true; rfl) | simp only [go_sem, seval, Vc_bool, h1, h2, h3, Int.toNat_natCast, Int.natCast_nonneg, List.length_map, hw0, hw1, p1, p2, p3] | refine (GX_split rfl).2 ?_
        all_goals (clear hk ih ih' h1 h2 h3 h4 hd hL)
        all_goals clear p1 p2 p3 h0
        all_goals (simp only [hp, chain, hw0, hw1]; grind)

theorem c87_ok {l : List Seen} (hL : l.length < 2 ^ 62) : ACalls prog 87 [.sl 2 (l.map Seen.enc)] [] (.bool (seenOk l)) [] := by
  refine calls_of hmx func87 (by kernel_rfl) (c := f87.body.getD .skip) rfl e87 (rs := [(.t 2)]) (by kernel_rfl) (by simp [ntmps87]) ?_
  simp only [c87, argS]
  simp only [go_sem, seval, List.length_map]
  refine Lp.bkE0 (l87 l hL _ (fun s => ?_) l [] rfl) (by rfl) ?_
  · simp only [go_sem, seval]
    (refine Rt_pure ?_ rfl; simp only [retO, retO1, retOs, S, get_cons, Nat.reduceEqDiff, reduceIte, obj, getO_cons_zero, getO_cons_succ, List.getElem?_cons_zero, List.getElem?_cons_succ, List.drop_zero, List.drop_succ_cons, loadFrom_cell, loadFrom_agg, List.length_cons, List.length_nil, Nat.reduceAdd, Nat.reduceLeDiff, List.take_succ_cons, List.take_zero, List.take_nil])
  · rfl

end Go.Av.T
set_option maxRecDepth 100000
set_option maxHeartbeats 1000000
set_option linter.unusedSimpArgs false
set_option linter.unusedVariables false
namespace Go.Av.T
open Go Go.Av Go.Av.Sp Go.Proofs.Tryz
def c86L1 : SC := (.seq (.reg [(.bin 8 .lss (.t 7) (.t 6))]) (.seq (.cond (.t 8) .skip (.exit 0)) (.seq (.block 1 (.seq (.reg [(.mv 9 (.t 7)), (.ia 10 (.t 5) (.t 7) 5), (.ld 11 (.t 10) true 5), (.alc 4 100 [(.int .i64 0), (.int .i64 0), (.int .i64 0), (.str (ByteArray.mk #[])), .nil]), (.mv 3 (.t 9)), (.st (.t 4) (.t 11) 5)]) (.seq (.regD [(.ld 12 (.t 4) true 5), (.call (some 13) (.c (.func 148 [] [])) [(.t 12)]), (.not 14 (.t 13)), (.mv 15 (.t 14)), (.g 15 false (some 16) (.fa 16 (.t 4) 3)), (.g 15 false (some 17) (.ld 17 (.t 16) false 1)), (.g 15 false (some 18) (.len 18 true (.t 17))), (.g 15 false (some 19) (.bin 19 .gtr (.t 18) (.c (.int .i64 100)))), (.pick 20 (.t 15) (.c (.bool true)) (.t 19)), (.mv 21 (.t 20)), (.g 21 false (some 22) (.mv 22 (.t 3))), (.g 21 false (some 23) (.bin 23 .gtr (.t 22) (.c (.int .i64 0)))), (.g 21 false (some 24) (.mv 24 (.t 23))), (.g 24 true (some 25) (.mv 25 (.t 0))), (.g 24 true (some 26) (.mv 26 (.t 3))), (.g 24 true (some 27) (.bin 27 .sub (.t 26) (.c (.int .i64 1)))), (.g 24 true (some 28) (.ia 28 (.t 25) (.t 27) 5)), (.g 24 true (some 29) (.fa 29 (.t 28) 0)), (.g 24 true (some 30) (.ld 30 (.t 29) false 1)), (.g 24 true (some 31) (.fa 31 (.t 4) 0)), (.g 24 true (some 32) (.ld 32 (.t 31) false 1)), (.g 24 true (some 33) (.bin 33 .geq (.t 30) (.t 32))), (.g 21 false (some 34) (.pick 34 (.t 24) (.t 33) (.c (.bool false)))), (.pick 35 (.t 21) (.c (.bool true)) (.t 34))] []) (.cond (.t 35) (.seq (.reg [(.mv 2 (.c (.bool false)))]) .ret) .skip)))) (.reg [(.bin 36 .add (.t 7) (.c (.int .i64 1))), (.mv 7 (.t 36))]))))
def c86 : SC := (.seq (.reg [(.mv 2 (.c (.bool false)))]) (.seq (.seq (.reg [(.mv 5 (.t 0)), (.len 6 false (.t 5)), (.mv 7 (.c (.int .i64 0)))]) (.block 0 (.loop c86L1))) (.seq (.reg [(.mv 37 (.t 0)), (.len 38 false (.t 37)), (.bin 39 .leq (.t 38) (.c (.int .i64 16))), (.mv 2 (.t 39))]) .ret)))
theorem e86 : compC prog f86.ntmps (f86.body.getD .skip) = c86 := by kernel_rfl
def c89L1 : SC := (.seq (.seq (.reg [(.mv 28 (.t 3)), (.fa 29 (.t 1) 4), (.ld 30 (.t 29) false 1), (.len 31 false (.t 30)), (.bin 32 .lss (.t 28) (.t 31))]) (.cond (.t 32) .skip (.exit 0))) (.seq (.block 1 (.seq (.regD [(.fa 35 (.t 1) 4), (.ld 36 (.t 35) false 1), (.mv 37 (.t 3)), (.ia 38 (.t 36) (.t 37) 1), (.ld 39 (.t 38) false 1), (.call (some 40) (.c (.func 90 [] [])) [(.t 39)]), (.not 41 (.t 40)), (.mv 42 (.t 41)), (.g 42 false (some 43) (.mv 43 (.t 3))), (.g 42 false (some 44) (.bin 44 .gtr (.t 43) (.c (.int .i64 0)))), (.g 42 false (some 45) (.mv 45 (.t 44))), (.g 45 true (some 46) (.fa 46 (.t 1) 4)), (.g 45 true (some 47) (.ld 47 (.t 46) false 1)), (.g 45 true (some 48) (.mv 48 (.t 3))), (.g 45 true (some 49) (.bin 49 .sub (.t 48) (.c (.int .i64 1)))), (.g 45 true (some 50) (.ia 50 (.t 47) (.t 49) 1)), (.g 45 true (some 51) (.ld 51 (.t 50) false 1)), (.g 45 true (some 52) (.fa 52 (.t 1) 4)), (.g 45 true (some 53) (.ld 53 (.t 52) false 1)), (.g 45 true (some 54) (.mv 54 (.t 3))), (.g 45 true (some 55) (.ia 55 (.t 53) (.t 54) 1)), (.g 45 true (some 56) (.ld 56 (.t 55) false 1)), (.g 45 true (some 57) (.bin 57 .geq (.t 51) (.t 56))), (.g 42 false (some 58) (.pick 58 (.t 45) (.t 57) (.c (.bool false)))), (.pick 59 (.t 42) (.c (.bool true)) (.t 58))] []) (.cond (.t 59) (.seq (.reg [(.mv 2 (.c (.int .i64 2)))]) .ret) .skip))) (.reg [(.mv 33 (.t 3)), (.bin 34 .add (.t 33) (.c (.int .i64 1))), (.mv 3 (.t 34))])))
def c89 : SC := (.seq (.reg [(.box 1 100 (.t 0)), (.mv 2 (.c (.int .i64 0)))]) (.seq (.seq (.reg [(.fa 4 (.t 1) 0), (.ld 5 (.t 4) false 1), (.call (some 6) (.c (.func 91 [] [])) [(.t 5)]), (.not 7 (.t 6)), (.mv 8 (.t 7)), (.g 8 false (some 9) (.fa 9 (.t 1) 1)), (.g 8 false (some 10) (.ld 10 (.t 9) false 1)), (.g 8 false (some 11) (.bin 11 .lss (.t 10) (.c (.int .i64 0)))), (.pick 12 (.t 8) (.c (.bool true)) (.t 11)), (.mv 13 (.t 12)), (.g 13 false (some 14) (.fa 14 (.t 1) 1)), (.g 13 false (some 15) (.ld 15 (.t 14) false 1)), (.g 13 false (some 16) (.bin 16 .gtr (.t 15) (.c (.int .i64 65535)))), (.pick 17 (.t 13) (.c (.bool true)) (.t 16)), (.mv 18 (.t 17)), (.g 18 false (some 19) (.fa 19 (.t 1) 2)), (.g 18 false (some 20) (.ld 20 (.t 19) false 1)), (.g 18 false (some 21) (.bin 21 .lss (.t 20) (.c (.int .i64 0)))), (.pick 22 (.t 18) (.c (.bool true)) (.t 21)), (.mv 23 (.t 22)), (.g 23 false (some 24) (.fa 24 (.t 1) 2)), (.g 23 false (some 25) (.ld 25 (.t 24) false 1)), (.g 23 false (some 26) (.bin 26 .gtr (.t 25) (.c (.int .i64 109951162)))), (.pick 27 (.t 23) (.c (.bool true)) (.t 26))]) (.cond (.t 27) (.seq (.reg [(.mv 2 (.c (.int .i64 2)))]) .ret) .skip)) (.seq (.seq (.reg [(.mv 3 (.c (.int .i64 0)))]) (.block 0 (.loop c89L1))) (.seq (.seq (.reg [(.fa 60 (.t 1) 3), (.ld 61 (.t 60) false 1), (.len 62 true (.t 61)), (.bin 63 .gtr (.t 62) (.c (.int .i64 100)))]) (.cond (.t 63) (.seq (.reg [(.mv 2 (.c (.int .i64 8)))]) .ret) .skip)) (.seq (.reg [(.mv 2 (.c (.int .i64 0)))]) .ret)))))
theorem e89 : compC prog f89.ntmps (f89.body.getD .skip) = c89 := by kernel_rfl
def c92L1 : SC := (.seq (.seq (.reg [(.mv 5 (.t 4)), (.mv 6 (.t 0)), (.bin 7 .lss (.t 5) (.t 6))]) (.cond (.t 7) .skip (.exit 0))) (.seq (.block 1 (.reg [(.mv 10 (.t 3)), (.bin 11 .mul (.c (.int .i64 2)) (.t 10)), (.mv 3 (.t 11))])) (.reg [(.mv 8 (.t 4)), (.bin 9 .add (.t 8) (.c (.int .i64 1))), (.mv 4 (.t 9))])))
def c92 : SC := (.seq (.reg [(.mv 2 (.c (.int .i64 0)))]) (.seq (.reg [(.mv 3 (.c (.int .i64 1)))]) (.seq (.seq (.reg [(.mv 4 (.c (.int .i64 0)))]) (.block 0 (.loop c92L1))) (.seq (.reg [(.mv 12 (.t 3)), (.mv 2 (.t 12))]) .ret))))
theorem e92 : compC prog f92.ntmps (f92.body.getD .skip) = c92 := by kernel_rfl
theorem l86 (l : List Held) (hA : ∀ x ∈ l, x.acked.length < 2 ^ 62) (hL : (l).length < 2 ^ 62) (k' : List It) (hk : ∀ zs, get zs 0 = .sl 5 (l.map Held.enc) → V prog f86.ntmps 0 (Ret [(.t 2)] 0 (.bool (decide ((l.length : Int) ≤ 16))) []) k' zs []) : ∀ (rest done : List Held), l = done ++ rest →
    Lp prog f86.ntmps 0 (Ret [(.t 2)] 0 (.bool (chain hOk (fun a b => decide (a.flow < b.flow)) done.getLast? rest && decide ((l.length : Int) ≤ 16))) []) c86L1 (.blk 0 :: k') [(0, .sl 5 (l.map Held.enc)), (5, .sl 5 (l.map Held.enc)), (6, .int .i64 l.length), (7, .int .i64 done.length)] [] := by
  intro rest
  induction rest with
  | nil =>
    intro done hd
    refine Lp.of_eq hmx c86L1.eq_1 ?_
    have h1 := rg_end hd
    simp only [go_sem, seval, h1, List.length_map]
    exact hk _ (by rfl)
  | cons c rest ih =>
    intro done hd
    refine Lp.of_eq hmx c86L1.eq_1 ?_
    obtain ⟨h1, h2, h3, h4⟩ := rg_hd Held.enc hd hL
    have ih' := ih _ h4
    rw [List.getLast?_append, List.getLast?_singleton, Option.some_or] at ih'
    have hAc := hA c (by rw [hd]; simp)
    rcases List.eq_nil_or_concat done with h0 | ⟨ds, p, h0⟩
    · obtain ⟨p1, hp⟩ := rg_first' h0
      cases hw0 : (hRange c) <;> cases hw1 : (decide (100 < (c.data.size : Int)))
      all_goals
        repeat' first | (refine Lp.bkE [_] ih' (by rfl) (by rfl) (by rfl) (Nat.zero_le _) ?_) | (refine Rt_pure ?_ rfl; simp only [retO, retO1, retOs, S, get_cons, Nat.reduceEqDiff, reduceIte, obj, getO_cons_zero, getO_cons_succ, List.getElem?_cons_zero, List.getElem?_cons_succ, List.drop_zero, List.drop_succ_cons, loadFrom_cell, loadFrom_agg, List.length_cons, List.length_nil, Nat.reduceAdd, Nat.reduceLeDiff, List.take_succ_cons, List.take_zero, List.take_nil]) | refine CX_pure (c148_ok hAc) rfl rfl rfl rfl ?_ | refine GX_call (fun _ => (c148_ok hAc)) (by rfl) (by intro h; simp only [h]; rfl) (by rfl) (by rfl) ?_ | (with_reducible intro h; try simp only [h]) | (with_reducible refine And.intro ?_ ?_) | (change chk _ _ = true; rfl) | simp only [go_sem, seval, Vc_bool, h1, h2, h3, Int.toNat_natCast, Int.natCast_nonneg, List.length_map, hw0, hw1, p1] | refine (GX_split rfl).2 ?_
        all_goals (clear hk ih ih' h1 h2 h3 h4 hd hL hA hAc)
        all_goals clear p1 h0
        all_goals (simp only [hp, chain, hOk, hw0]; simp only [decide_eq_true_eq, decide_eq_false_iff_not] at hw1; grind)
    · rw [List.concat_eq_append] at h0
      obtain ⟨p1, p2, p3, hp⟩ := rg_prev' Held.enc hd h0 hL
      cases hw0 : (hRange c) <;> cases hw1 : (decide (100 < (c.data.size : Int)))
      all_goals
        repeat' first | (refine Lp.bkE [_] ih' (by rfl) (by rfl) (by rfl) (Nat.zero_le _) ?_) | (refine Rt_pure ?_ rfl; simp only [retO, retO1, retOs, S, get_cons, Nat.reduceEqDiff, reduceIte, obj, getO_cons_zero, getO_cons_succ, List.getElem?_cons_zero, List.getElem?_cons_succ, List.drop_zero, List.drop_succ_cons, loadFrom_cell, loadFrom_agg, List.length_cons, List.length_nil, Nat.reduceAdd, Nat.reduceLeDiff, List.take_succ_cons, List.take_zero, List.take_nil]) | refine CX_pure (c148_ok hAc) rfl rfl rfl rfl ?_ | refine GX_call (fun _ => (c148_ok hAc)) (by rfl) (by intro h; simp only [h]; rfl) (by rfl) (by rfl) ?_ | (with_reducible intro h; try simp only [h]) | (with_reducible refine And.intro ?_ ?_) | (change chk _ _ = true; rfl) | simp only [go_sem, seval, Vc_bool, h1, h2, h3, Int.toNat_natCast, Int.natCast_nonneg, List.length_map, hw0, hw1, p1, p2, p3] | refine (GX_split rfl).2 ?_
        all_goals (clear hk ih ih' h1 h2 h3 h4 hd hL hA hAc)
        all_goals clear p1 p2 p3 h0
        all_goals (simp only [hp, chain, hOk, hw0]; simp only [decide_eq_true_eq, decide_eq_false_iff_not] at hw1; grind)

theorem c86_ok {l : List Held} (hL : l.length < 2 ^ 62) (hA : ∀ x ∈ l, x.acked.length < 2 ^ 62) : ACalls prog 86 [.sl 5 (l.map Held.enc)] [] (.bool (heldOk l)) [] := by
  refine calls_of hmx func86 (by kernel_rfl) (c := f86.body.getD .skip) rfl e86 (rs := [(.t 2)]) (by kernel_rfl) (by simp [ntmps86]) ?_
  simp only [c86, argS]
  simp only [go_sem, seval, List.length_map]
  refine Lp.bkE0 (l86 l hA hL _ (fun s h => ?_) l [] rfl) (by rfl) ?_
  · simp only [go_sem, seval, h, List.length_map]
    (refine Rt_pure ?_ rfl; simp only [retO, retO1, retOs, S, get_cons, Nat.reduceEqDiff, reduceIte, obj, getO_cons_zero, getO_cons_succ, List.getElem?_cons_zero, List.getElem?_cons_succ, List.drop_zero, List.drop_succ_cons, loadFrom_cell, loadFrom_agg, List.length_cons, List.length_nil, Nat.reduceAdd, Nat.reduceLeDiff, List.take_succ_cons, List.take_zero, List.take_nil])
  · rfl
def pow2 : Nat → Int → Int
  | 0, x => x
  | n + 1, x => pow2 n (2 * x)
theorem pow2_eq (n : Nat) (x : Int) : pow2 n x = 2 ^ n * x := by
  induction n generalizing x with
  | zero => simp [pow2]
  | succ n ih => rw [pow2, ih, Int.pow_succ]; rw [Int.mul_assoc]

end Go.Av.T
set_option maxRecDepth 100000
set_option maxHeartbeats 1000000
set_option linter.unusedSimpArgs false
set_option linter.unusedVariables false
namespace Go.Av.T
open Go Go.Av Go.Av.Sp Go.Proofs.Tryz
def c188L1 : SC := (.seq (.reg [(.bin 22 .lss (.t 21) (.t 20))]) (.seq (.cond (.t 22) .skip (.exit 0)) (.seq (.block 1 (.seq (.reg [(.mv 23 (.t 21)), (.ia 24 (.t 19) (.t 21) 6), (.ld 25 (.t 24) true 6), (.alc 5 104 [(.int .i64 0), (.int .i64 0), (.int .i64 0), (.int .i64 0), (.int .i64 0), (.str (ByteArray.mk #[]))]), (.mv 4 (.t 23)), (.st (.t 5) (.t 25) 6)]) (.seq (.seq (.reg [(.ld 26 (.t 5) true 6), (.call (some 27) (.c (.func 265 [] [])) [(.t 26)]), (.mv 6 (.t 27))]) (.seq (.reg [(.mv 28 (.t 6)), (.bin 29 .neq (.t 28) (.c (.int .i64 0)))]) (.cond (.t 29) (.seq (.reg [(.mv 30 (.t 6)), (.mv 2 (.t 30))]) .ret) .skip))) (.seq (.seq (.reg [(.mv 31 (.t 3)), (.fa 32 (.t 5) 0), (.ld 33 (.t 32) false 1), (.mgt 34 (.t 31) (.t 33) (.bool false) false)]) (.cond (.t 34) (.seq (.reg [(.mv 2 (.c (.int .i64 6)))]) .ret) .skip)) (.seq (.seq (.regD [(.mv 35 (.t 4)), (.bin 36 .gtr (.t 35) (.c (.int .i64 0))), (.mv 37 (.t 36)), (.g 37 true (some 38) (.fa 38 (.t 1) 1)), (.g 37 true (some 39) (.ld 39 (.t 38) false 1)), (.g 37 true (some 40) (.mv 40 (.t 4))), (.g 37 true (some 41) (.bin 41 .sub (.t 40) (.c (.int .i64 1)))), (.g 37 true (some 42) (.ia 42 (.t 39) (.t 41) 6)), (.g 37 true (some 43) (.fa 43 (.t 42) 2)), (.g 37 true (some 44) (.ld 44 (.t 43) false 1)), (.g 37 true (some 45) (.fa 45 (.t 5) 2)), (.g 37 true (some 46) (.ld 46 (.t 45) false 1)), (.g 37 true (some 47) (.bin 47 .gtr (.t 44) (.t 46))), (.pick 48 (.t 37) (.t 47) (.c (.bool false)))] []) (.cond (.t 48) (.seq (.reg [(.mv 2 (.c (.int .i64 5)))]) .ret) .skip)) (.reg [(.mv 49 (.t 3)), (.fa 50 (.t 5) 0), (.ld 51 (.t 50) false 1), (.mst (.t 49) (.t 51) (.c (.bool true)))])))))) (.reg [(.bin 52 .add (.t 21) (.c (.int .i64 1))), (.mv 21 (.t 52))]))))
def c188 : SC := (.seq (.reg [(.box 1 27 (.t 0)), (.mv 2 (.c (.int .i64 0)))]) (.seq (.seq (.reg [(.fa 7 (.t 1) 0), (.ld 8 (.t 7) false 1), (.call (some 9) (.c (.func 298 [] [])) [(.t 8), (.c (.int .i64 1)), (.c (.int .i64 64))]), (.not 10 (.t 9))]) (.cond (.t 10) (.seq (.reg [(.mv 2 (.c (.int .i64 2)))]) .ret) .skip)) (.seq (.seq (.reg [(.fa 11 (.t 1) 1), (.ld 12 (.t 11) false 1), (.len 13 false (.t 12)), (.fa 14 (.t 1) 0), (.ld 15 (.t 14) false 1), (.bin 16 .gtr (.t 13) (.t 15))]) (.cond (.t 16) (.seq (.reg [(.mv 2 (.c (.int .i64 8)))]) .ret) .skip)) (.seq (.reg [(.mkm 17), (.mv 3 (.t 17))]) (.seq (.seq (.reg [(.fa 18 (.t 1) 1), (.ld 19 (.t 18) false 1), (.len 20 false (.t 19)), (.mv 21 (.c (.int .i64 0)))]) (.block 0 (.loop c188L1))) (.seq (.reg [(.mv 2 (.c (.int .i64 0)))]) .ret))))))
theorem e188 : compC prog f188.ntmps (f188.body.getD .skip) = c188 := by kernel_rfl
def c85 : SC := (.seq (.reg [(.box 1 31 (.t 0)), (.mv 2 (.c (.bool false)))]) (.seq (.reg [(.fa 3 (.t 1) 3), (.ld 4 (.t 3) true 2), (.call (some 5) (.c (.func 188 [] [])) [(.t 4)]), (.bin 6 .eql (.t 5) (.c (.int .i64 0))), (.mv 7 (.t 6)), (.g 7 true (some 8) (.fa 8 (.t 1) 3)), (.g 7 true (some 9) (.fa 9 (.t 8) 1)), (.g 7 true (some 10) (.ld 10 (.t 9) false 1)), (.g 7 true (some 11) (.mkf 11 189 [] [(.t 1)])), (.g 7 true (some 12) (.call (some 12) (.c (.func 186 [] [])) [(.t 10), (.t 11)])), (.g 7 true (some 13) (.not 13 (.t 12))), (.pick 14 (.t 7) (.t 13) (.c (.bool false))), (.mv 2 (.t 14))]) .ret))
theorem e85 : compC prog f85.ntmps (f85.body.getD .skip) = c85 := by kernel_rfl
def c189 : SC := (.seq (.reg [(.box 2 104 (.t 0)), (.mv 3 (.c (.bool false)))]) (.seq (.reg [(.fa 4 (.t 2) 1), (.ld 5 (.t 4) false 1), (.fa 6 (.t 1) 0), (.fa 7 (.t 6) 0), (.ld 8 (.t 7) false 1), (.bin 9 .eql (.t 5) (.t 8)), (.mv 10 (.t 9)), (.g 10 false (some 11) (.fa 11 (.t 2) 5)), (.g 10 false (some 12) (.ld 12 (.t 11) false 1)), (.g 10 false (some 13) (.len 13 true (.t 12))), (.g 10 false (some 14) (.bin 14 .gtr (.t 13) (.c (.int .i64 100)))), (.pick 15 (.t 10) (.c (.bool true)) (.t 14)), (.mv 3 (.t 15))]) .ret))
theorem e189 : compC prog f189.ntmps (f189.body.getD .skip) = c189 := by kernel_rfl
theorem c92_ok {n : Int} (h0 : 0 ≤ n) (h5 : n ≤ 5) : ACalls prog 92 [.int .i64 n] [] (.int .i64 (2 ^ n.toNat)) [] := by
  refine calls_of hmx func92 (by kernel_rfl) (c := f92.body.getD .skip) rfl e92 (rs := [(.t 2)]) (by kernel_rfl) (by simp [ntmps92]) ?_
  simp only [c92, argS]
  obtain rfl | rfl | rfl | rfl | rfl | rfl : n = 0 ∨ n = 1 ∨ n = 2 ∨ n = 3 ∨ n = 4 ∨ n = 5 := by omega
  all_goals
    repeat' first | (refine Rt_pure ?_ rfl; simp only [retO, retO1, retOs, S, get_cons, Nat.reduceEqDiff, reduceIte, obj, getO_cons_zero, getO_cons_succ, List.getElem?_cons_zero, List.getElem?_cons_succ, List.drop_zero, List.drop_succ_cons, loadFrom_cell, loadFrom_agg, List.length_cons, List.length_nil, Nat.reduceAdd, Nat.reduceLeDiff, List.take_succ_cons, List.take_zero, List.take_nil]) | refine Lp.of_eq hmx c92L1.eq_1 ?_ | simp only [go_sem, seval]
def heldErr (h : Held) : Int := if hRange h = false then 2 else if 100 < (h.data.size : Int) then 8 else 0
theorem l89 (h : Held) (hL : (h.acked).length < 2 ^ 62) (k' : List It) (hk : ∀ zs, get zs 1 = .ptr 0 0 0 0 → V prog f89.ntmps 0 (Ret [(.t 2)] 0 (.int .i64 (if 100 < (h.data.size : Int) then 8 else 0)) []) k' zs [.cells 0 5 100 true [h.enc]]) : ∀ (rest done : List Int), h.acked = done ++ rest →
    Lp prog f89.ntmps 0 (Ret [(.t 2)] 0 (.int .i64 (if chain (fun n => wi n 31) (fun a b => decide (a < b)) done.getLast? rest = true then (if 100 < (h.data.size : Int) then 8 else 0) else 2)) []) c89L1 (.blk 0 :: k') [(1, .ptr 0 0 0 0), (3, .int .i64 done.length)] [.cells 0 5 100 true [h.enc]] := by
  intro rest
  induction rest with
  | nil =>
    intro done hd
    refine Lp.of_eq hmx c89L1.eq_1 ?_
    have h1 := rg_end hd
    simp only [go_sem, seval, h1, List.length_map]
    exact hk _ (by rfl)
  | cons c rest ih =>
    intro done hd
    refine Lp.of_eq hmx c89L1.eq_1 ?_
    obtain ⟨h1, h2, h3, h4⟩ := rg_hd eI hd hL
    have ih' := ih _ h4
    rw [List.getLast?_append, List.getLast?_singleton, Option.some_or] at ih'
    rcases List.eq_nil_or_concat done with h0 | ⟨ds, p, h0⟩
    · obtain ⟨p1, hp⟩ := rg_first' h0
      cases hw0 : (wi c 31)
      all_goals
        repeat' first | (refine Lp.bkE0 ih' (by rfl) ?_) | (refine Rt_pure ?_ rfl; simp only [retO, retO1, retOs, S, get_cons, Nat.reduceEqDiff, reduceIte, obj, getO_cons_zero, getO_cons_succ, List.getElem?_cons_zero, List.getElem?_cons_succ, List.drop_zero, List.drop_succ_cons, loadFrom_cell, loadFrom_agg, List.length_cons, List.length_nil, Nat.reduceAdd, Nat.reduceLeDiff, List.take_succ_cons, List.take_zero, List.take_nil]) | refine CX_pure c90_ok rfl rfl rfl rfl ?_ | refine GX_call (fun _ => c90_ok) (by rfl) (by intro h; simp only [h]; rfl) (by rfl) (by rfl) ?_ | (with_reducible intro h; try simp only [h]) | (with_reducible refine And.intro ?_ ?_) | (change chk _ _ = true; rfl) | simp only [go_sem, seval, Vc_bool, h1, h2, h3, Int.toNat_natCast, Int.natCast_nonneg, List.length_map, hw0, p1] | refine (GX_split rfl).2 ?_
        all_goals (clear hk ih ih' h1 h2 h3 h4 hd hL)
        all_goals clear p1 h0
        all_goals (simp only [hp, chain, hw0]; grind)
    · rw [List.concat_eq_append] at h0
      obtain ⟨p1, p2, p3, hp⟩ := rg_prev' eI hd h0 hL
      cases hw0 : (wi c 31)
      all_goals
        repeat' first | (refine Lp.bkE0 ih' (by rfl) ?_) | (refine Rt_pure ?_ rfl; simp only [retO, retO1, retOs, S, get_cons, Nat.reduceEqDiff, reduceIte, obj, getO_cons_zero, getO_cons_succ, List.getElem?_cons_zero, List.getElem?_cons_succ, List.drop_zero, List.drop_succ_cons, loadFrom_cell, loadFrom_agg, List.length_cons, List.length_nil, Nat.reduceAdd, Nat.reduceLeDiff, List.take_succ_cons, List.take_zero, List.take_nil]) | refine CX_pure c90_ok rfl rfl rfl rfl ?_ | refine GX_call (fun _ => c90_ok) (by rfl) (by intro h; simp only [h]; rfl) (by rfl) (by rfl) ?_ | (with_reducible intro h; try simp only [h]) | (with_reducible refine And.intro ?_ ?_) | (change chk _ _ = true; rfl) | simp only [go_sem, seval, Vc_bool, h1, h2, h3, Int.toNat_natCast, Int.natCast_nonneg, List.length_map, hw0, p1, p2, p3] | refine (GX_split rfl).2 ?_
        all_goals (clear hk ih ih' h1 h2 h3 h4 hd hL)
        all_goals clear p1 p2 p3 h0
        all_goals (simp only [hp, chain, hw0]; grind)

theorem c89_pf (h : Held) (hL : h.acked.length < 2 ^ 62) : ACalls prog 89 [.agg [.int .i64 h.flow, .int .i64 h.frame, .int .i64 h.upto, .str h.data, .sl 1 (h.acked.map eI)]] [] (.int .i64 (heldErr h)) [] := by
  refine calls_of hmx func89 (by kernel_rfl) (c := f89.body.getD .skip) rfl e89 (rs := [(.t 2)]) (by kernel_rfl) (by simp [ntmps89]) ?_
  simp only [c89, argS]
  cases h1 : wi h.flow 255
  · simp only [go_sem, seval]
    refine CX_pure c91_ok rfl rfl rfl rfl ?_
    simp only [go_sem, seval, h1]
    (refine Rt_pure ?_ rfl; simp only [retO, retO1, retOs, S, get_cons, Nat.reduceEqDiff, reduceIte, obj, getO_cons_zero, getO_cons_succ, List.getElem?_cons_zero, List.getElem?_cons_succ, List.drop_zero, List.drop_succ_cons, loadFrom_cell, loadFrom_agg, List.length_cons, List.length_nil, Nat.reduceAdd, Nat.reduceLeDiff, List.take_succ_cons, List.take_zero, List.take_nil])
    simp [heldErr, hRange, h1]
  · simp only [go_sem, seval]
    refine CX_pure c91_ok rfl rfl rfl rfl ?_
    simp only [go_sem, seval, h1, Vc_bool]
    refine ⟨fun h2 => ?_, fun h2 => ?_⟩
    · (refine Rt_pure ?_ rfl; simp only [retO, retO1, retOs, S, get_cons, Nat.reduceEqDiff, reduceIte, obj, getO_cons_zero, getO_cons_succ, List.getElem?_cons_zero, List.getElem?_cons_succ, List.drop_zero, List.drop_succ_cons, loadFrom_cell, loadFrom_agg, List.length_cons, List.length_nil, Nat.reduceAdd, Nat.reduceLeDiff, List.take_succ_cons, List.take_zero, List.take_nil])
      grind [heldErr, hRange, wi]
    · refine Lp.bkE0 (l89 h hL _ (fun s h3 => ?_) h.acked [] rfl) (by rfl) ?_
      · simp only [go_sem, seval, h3, Vc_bool]
        refine ⟨fun h4 => ?_, fun h4 => ?_⟩ <;> (refine Rt_pure ?_ rfl; simp only [retO, retO1, retOs, S, get_cons, Nat.reduceEqDiff, reduceIte, obj, getO_cons_zero, getO_cons_succ, List.getElem?_cons_zero, List.getElem?_cons_succ, List.drop_zero, List.drop_succ_cons, loadFrom_cell, loadFrom_agg, List.length_cons, List.length_nil, Nat.reduceAdd, Nat.reduceLeDiff, List.take_succ_cons, List.take_zero, List.take_nil]) <;> grind
      · have e : wi h.frame 65535 = true ∧ wi h.upto 109951162 = true := by simp only [wi]; grind
        show AVal.int .i64 (if rising h.acked = true then _ else _) = _
        simp only [heldErr, hRange, h1, e.1, e.2]
        grind
theorem c89_ok {h_flow : Int} {h_frame : Int} {h_upto : Int} {h_data : ByteArray} {h_acked : List Int} (hL : h_acked.length < 2 ^ 62) : ACalls prog 89 [.agg [.int .i64 h_flow, .int .i64 h_frame, .int .i64 h_upto, .str h_data, .sl 1 (h_acked.map eI)]] [] (.int .i64 (heldErr (⟨h_flow, h_frame, h_upto, h_data, h_acked⟩ : Held))) [] := c89_pf (⟨h_flow, h_frame, h_upto, h_data, h_acked⟩ : Held) hL

theorem idx_dup {L done rest : List Packet} {c : Packet} (hd : L = done ++ c :: rest) : decide (pkIdx L c.id < (done.length : Int)) = done.any fun x => decide (x.id = c.id) := by
  subst hd
  rcases idxFrom_range (fun p : Packet => decide (p.id = c.id)) (done ++ c :: rest) 0 with ⟨h1, h2⟩ | ⟨i, x, h1, h2, h3, h4⟩
  · have := h2 c (by simp)
    simp at this
  · have e : pkIdx (done ++ c :: rest) c.id = (i : Int) := by rw [Nat.zero_add] at h3; exact h3
    rw [e]
    by_cases hi : i < done.length
    · rw [List.getElem?_append_left hi] at h1
      have : (done.any fun x => decide (x.id = c.id)) = true := List.any_eq_true.2 ⟨x, List.mem_of_getElem? h1, h2⟩
      rw [this]
      simp [hi]
    · have : (done.any fun x => decide (x.id = c.id)) = false := by
        rw [List.any_eq_false]
        intro y hy
        obtain ⟨j, hj⟩ := List.mem_iff_getElem?.1 hy
        have hlt := (List.getElem?_eq_some_iff.1 hj).1
        have := h4 j y (by omega) (by rw [List.getElem?_append_left hlt]; exact hj)
        simpa using this
      rw [this]
      simp
      omega
theorem l88 (q : Queue) (hL : (q.pk).length < 2 ^ 62) (k' : List It) (hk : ∀ zs, V prog f88.ntmps 0 (Ret [(.t 2)] 0 (.int .i64 0) []) k' zs [.cells 0 2 27 true [q.enc]]) : ∀ (rest done : List Packet), q.pk = done ++ rest →
    Lp prog f88.ntmps 0 (Ret [(.t 2)] 0 (.int .i64 (qck done rest)) []) c88L1 (.blk 0 :: k') [(1, .ptr 0 0 0 0), (3, .int .i64 done.length)] [.cells 0 2 27 true [q.enc]] := by
  intro rest
  induction rest with
  | nil =>
    intro done hd
    refine Lp.of_eq hmx c88L1.eq_1 ?_
    have h1 := rg_end hd
    simp only [go_sem, seval, h1, List.length_map]
    exact hk _
  | cons c rest ih =>
    intro done hd
    refine Lp.of_eq hmx c88L1.eq_1 ?_
    obtain ⟨h1, h2, h3, h4⟩ := rg_hd Packet.enc hd hL
    have ih' := ih _ h4
    have hx := idx_dup hd
    rcases List.eq_nil_or_concat done with h0 | ⟨ds, p, h0⟩
    · obtain ⟨p1, hp⟩ := rg_first' h0
      repeat' first | (refine Lp.bkE [_] ih' (by rfl) (by rfl) (by rfl) (Nat.zero_le _) ?_) | (refine Rt_pure ?_ rfl; simp only [retO, retO1, retOs, S, get_cons, Nat.reduceEqDiff, reduceIte, obj, getO_cons_zero, getO_cons_succ, List.getElem?_cons_zero, List.getElem?_cons_succ, List.drop_zero, List.drop_succ_cons, loadFrom_cell, loadFrom_agg, List.length_cons, List.length_nil, Nat.reduceAdd, Nat.reduceLeDiff, List.take_succ_cons, List.take_zero, List.take_nil]) | refine CX_pure c190_ok rfl rfl rfl rfl ?_ | refine CX_pure (c93_ok hL) rfl rfl rfl rfl ?_ | refine GX_call (fun _ => c190_ok) (by rfl) (by intro h; simp only [h]; rfl) (by rfl) (by rfl) ?_ | refine GX_call (fun _ => (c93_ok hL)) (by rfl) (by intro h; simp only [h]; rfl) (by rfl) (by rfl) ?_ | (with_reducible intro h; try simp only [h]) | (with_reducible refine And.intro ?_ ?_) | (change chk _ _ = true; rfl) | simp only [go_sem, seval, Vc_bool, h1, h2, h3, Int.toNat_natCast, Int.natCast_nonneg, List.length_map, hx, p1] | refine (GX_split rfl).2 ?_
      all_goals (clear hk ih ih' h1 h2 h3 h4 hd hL hx)
      all_goals clear p1 h0
      all_goals (simp only [hp, qck]; grind)
    · rw [List.concat_eq_append] at h0
      obtain ⟨p1, p2, p3, hp⟩ := rg_prev' Packet.enc hd h0 hL
      repeat' first | (refine Lp.bkE [_] ih' (by rfl) (by rfl) (by rfl) (Nat.zero_le _) ?_) | (refine Rt_pure ?_ rfl; simp only [retO, retO1, retOs, S, get_cons, Nat.reduceEqDiff, reduceIte, obj, getO_cons_zero, getO_cons_succ, List.getElem?_cons_zero, List.getElem?_cons_succ, List.drop_zero, List.drop_succ_cons, loadFrom_cell, loadFrom_agg, List.length_cons, List.length_nil, Nat.reduceAdd, Nat.reduceLeDiff, List.take_succ_cons, List.take_zero, List.take_nil]) | refine CX_pure c190_ok rfl rfl rfl rfl ?_ | refine CX_pure (c93_ok hL) rfl rfl rfl rfl ?_ | refine GX_call (fun _ => c190_ok) (by rfl) (by intro h; simp only [h]; rfl) (by rfl) (by rfl) ?_ | refine GX_call (fun _ => (c93_ok hL)) (by rfl) (by intro h; simp only [h]; rfl) (by rfl) (by rfl) ?_ | (with_reducible intro h; try simp only [h]) | (with_reducible refine And.intro ?_ ?_) | (change chk _ _ = true; rfl) | simp only [go_sem, seval, Vc_bool, h1, h2, h3, Int.toNat_natCast, Int.natCast_nonneg, List.length_map, hx, p1, p2, p3] | refine (GX_split rfl).2 ?_
      all_goals (clear hk ih ih' h1 h2 h3 h4 hd hL hx)
      all_goals clear p1 p2 p3 h0
      all_goals (simp only [hp, qck]; grind)

theorem c88_pf (q : Queue) (hL : q.pk.length < 2 ^ 62) : ACalls prog 88 [.agg [.int .i64 q.limit, .sl 6 (q.pk.map Packet.enc)]] [] (.int .i64 (qErr q)) [] := by
  refine calls_of hmx func88 (by kernel_rfl) (c := f88.body.getD .skip) rfl e88 (rs := [(.t 2)]) (by kernel_rfl) (by simp [ntmps88]) ?_
  simp only [c88, argS]
  simp only [go_sem, seval, Vc_bool, List.length_map]
  refine ⟨fun h1 => ?_, fun h1 => ⟨fun h2 => ?_, fun h2 => ?_⟩⟩
  · (refine Rt_pure ?_ rfl; simp only [retO, retO1, retOs, S, get_cons, Nat.reduceEqDiff, reduceIte, obj, getO_cons_zero, getO_cons_succ, List.getElem?_cons_zero, List.getElem?_cons_succ, List.drop_zero, List.drop_succ_cons, loadFrom_cell, loadFrom_agg, List.length_cons, List.length_nil, Nat.reduceAdd, Nat.reduceLeDiff, List.take_succ_cons, List.take_zero, List.take_nil])
    grind [qErr, wi3]
  · (refine Rt_pure ?_ rfl; simp only [retO, retO1, retOs, S, get_cons, Nat.reduceEqDiff, reduceIte, obj, getO_cons_zero, getO_cons_succ, List.getElem?_cons_zero, List.getElem?_cons_succ, List.drop_zero, List.drop_succ_cons, loadFrom_cell, loadFrom_agg, List.length_cons, List.length_nil, Nat.reduceAdd, Nat.reduceLeDiff, List.take_succ_cons, List.take_zero, List.take_nil])
    grind [qErr, wi3]
  · refine Lp.bkE0 (l88 q hL _ (fun s => ?_) q.pk [] rfl) (by rfl) ?_
    · simp only [go_sem, seval]
      (refine Rt_pure ?_ rfl; simp only [retO, retO1, retOs, S, get_cons, Nat.reduceEqDiff, reduceIte, obj, getO_cons_zero, getO_cons_succ, List.getElem?_cons_zero, List.getElem?_cons_succ, List.drop_zero, List.drop_succ_cons, loadFrom_cell, loadFrom_agg, List.length_cons, List.length_nil, Nat.reduceAdd, Nat.reduceLeDiff, List.take_succ_cons, List.take_zero, List.take_nil])
    · grind [qErr, wi3]
theorem c88_ok {q_limit : Int} {q_pk : List Packet} (hL : q_pk.length < 2 ^ 62) : ACalls prog 88 [.agg [.int .i64 q_limit, .sl 6 (q_pk.map Packet.enc)]] [] (.int .i64 (qErr (⟨q_limit, q_pk⟩ : Queue))) [] := c88_pf (⟨q_limit, q_pk⟩ : Queue) hL

theorem l188 (q : Queue) (hL : (q.pk).length < 2 ^ 62) (k' : List It) (hk : ∀ zs, V prog f188.ntmps 0 (Ret [(.t 2)] 0 (.int .i64 0) []) k' zs [.cells 0 2 27 true [q.enc], .map (q.pk.map fun p => (p.id, .bool true))]) : ∀ (rest done : List Packet), q.pk = done ++ rest →
    Lp prog f188.ntmps 0 (Ret [(.t 2)] 0 (.int .i64 (qck done rest)) []) c188L1 (.blk 0 :: k') [(1, .ptr 0 0 0 0), (3, .map 1), (19, .sl 6 (q.pk.map Packet.enc)), (20, .int .i64 q.pk.length), (21, .int .i64 done.length)] [.cells 0 2 27 true [q.enc], .map (done.map fun p => (p.id, .bool true))] := by
  intro rest
  induction rest with
  | nil =>
    intro done hd
    obtain rfl : done = q.pk := by simpa using hd.symm
    refine Lp.of_eq hmx c188L1.eq_1 ?_
    have h1 := rg_end hd
    simp only [go_sem, seval, h1, List.length_map]
    exact hk _
  | cons c rest ih =>
    intro done hd
    refine Lp.of_eq hmx c188L1.eq_1 ?_
    obtain ⟨h1, h2, h3, h4⟩ := rg_hd Packet.enc hd hL
    have ih' := ih _ h4
    simp only [List.map_append, List.map_cons, List.map_nil] at ih'
    rcases List.eq_nil_or_concat done with h0 | ⟨ds, p, h0⟩
    · obtain ⟨p1, hp⟩ := rg_first' h0
      cases hw0 : (done.any fun x => decide (x.id = c.id))
      all_goals
        repeat' first | (refine Lp.bkE [_] ih' (by rfl) (by rfl) (by simp [ltO, ltv, ltL, Queue.enc]) (Nat.zero_le _) ?_) | (refine Rt_pure ?_ rfl; simp only [retO, retO1, retOs, S, get_cons, Nat.reduceEqDiff, reduceIte, obj, getO_cons_zero, getO_cons_succ, List.getElem?_cons_zero, List.getElem?_cons_succ, List.drop_zero, List.drop_succ_cons, loadFrom_cell, loadFrom_agg, List.length_cons, List.length_nil, Nat.reduceAdd, Nat.reduceLeDiff, List.take_succ_cons, List.take_zero, List.take_nil]) | refine CX_pure c265_ok rfl rfl rfl rfl ?_ | refine GX_call (fun _ => c265_ok) (by rfl) (by intro h; simp only [h]; rfl) (by rfl) (by rfl) ?_ | (with_reducible intro h; try simp only [h]) | (with_reducible refine And.intro ?_ ?_) | (change chk _ _ = true; rfl) | simp only [go_sem, seval, Vc_bool, h1, h2, h3, Int.toNat_natCast, Int.natCast_nonneg, List.length_map, set_at, set_set, hw0, p1] | refine (GX_split rfl).2 ?_
        all_goals (clear hk ih ih' h1 h2 h3 h4 hd hL)
        all_goals clear p1 h0
        all_goals (simp only [hp, qck, hw0]; grind)
    · rw [List.concat_eq_append] at h0
      obtain ⟨p1, p2, p3, hp⟩ := rg_prev' Packet.enc hd h0 hL
      cases hw0 : (done.any fun x => decide (x.id = c.id))
      all_goals
        repeat' first | (refine Lp.bkE [_] ih' (by rfl) (by rfl) (by simp [ltO, ltv, ltL, Queue.enc]) (Nat.zero_le _) ?_) | (refine Rt_pure ?_ rfl; simp only [retO, retO1, retOs, S, get_cons, Nat.reduceEqDiff, reduceIte, obj, getO_cons_zero, getO_cons_succ, List.getElem?_cons_zero, List.getElem?_cons_succ, List.drop_zero, List.drop_succ_cons, loadFrom_cell, loadFrom_agg, List.length_cons, List.length_nil, Nat.reduceAdd, Nat.reduceLeDiff, List.take_succ_cons, List.take_zero, List.take_nil]) | refine CX_pure c265_ok rfl rfl rfl rfl ?_ | refine GX_call (fun _ => c265_ok) (by rfl) (by intro h; simp only [h]; rfl) (by rfl) (by rfl) ?_ | (with_reducible intro h; try simp only [h]) | (with_reducible refine And.intro ?_ ?_) | (change chk _ _ = true; rfl) | simp only [go_sem, seval, Vc_bool, h1, h2, h3, Int.toNat_natCast, Int.natCast_nonneg, List.length_map, set_at, set_set, hw0, p1, p2, p3] | refine (GX_split rfl).2 ?_
        all_goals (clear hk ih ih' h1 h2 h3 h4 hd hL)
        all_goals clear p1 p2 p3 h0
        all_goals (simp only [hp, qck, hw0]; grind)


end Go.Av.T
set_option maxRecDepth 100000
set_option maxHeartbeats 1000000
set_option linter.unusedSimpArgs false
set_option linter.unusedVariables false
namespace Go.Av.T
open Go Go.Av Go.Av.Sp Go.Proofs.Tryz
def c22 : SC := (.seq (.reg [(.box 1 31 (.t 0)), (.mv 2 (.c (.int .i64 0)))]) (.seq (.reg [(.fa 4 (.t 1) 9), (.ld 5 (.t 4) false 1), (.bin 6 .eql (.t 5) (.c (.int .i64 (-1)))), (.mv 7 (.t 6)), (.g 7 true (some 8) (.fa 8 (.t 1) 10)), (.g 7 true (some 9) (.ld 9 (.t 8) false 1)), (.g 7 true (some 10) (.bin 10 .eql (.t 9) (.c (.int .i64 0)))), (.pick 11 (.t 7) (.t 10) (.c (.bool false))), (.mv 12 (.t 11)), (.g 12 false (some 13) (.fa 13 (.t 1) 9)), (.g 12 false (some 14) (.ld 14 (.t 13) false 1)), (.g 12 false (some 15) (.bin 15 .geq (.t 14) (.c (.int .i64 0)))), (.g 12 false (some 16) (.mv 16 (.t 15))), (.g 16 true (some 17) (.fa 17 (.t 1) 3)), (.g 16 true (some 18) (.ld 18 (.t 17) true 2)), (.g 16 true (some 19) (.fa 19 (.t 1) 9)), (.g 16 true (some 20) (.ld 20 (.t 19) false 1)), (.g 16 true (some 21) (.call (some 21) (.c (.func 84 [] [])) [(.t 18), (.t 20)])), (.g 12 false (some 22) (.pick 22 (.t 16) (.t 21) (.c (.bool false)))), (.g 12 false (some 23) (.mv 23 (.t 22))), (.g 23 true (some 24) (.fa 24 (.t 1) 10)), (.g 23 true (some 25) (.ld 25 (.t 24) false 1)), (.g 23 true (some 26) (.bin 26 .geq (.t 25) (.c (.int .i64 1)))), (.g 12 false (some 27) (.pick 27 (.t 23) (.t 26) (.c (.bool false)))), (.g 12 false (some 28) (.mv 28 (.t 27))), (.g 28 true (some 29) (.fa 29 (.t 1) 10)), (.g 28 true (some 30) (.ld 30 (.t 29) false 1)), (.g 28 true (some 31) (.bin 31 .lss (.t 30) (.c (.int .i64 4)))), (.g 12 false (some 32) (.pick 32 (.t 28) (.t 31) (.c (.bool false)))), (.pick 33 (.t 12) (.c (.bool true)) (.t 32)), (.mv 3 (.t 33))]) (.seq (.seq (.reg [(.fa 34 (.t 1) 0), (.ld 35 (.t 34) true 3), (.call (some 36) (.c (.func 80 [] [])) [(.t 35)]), (.bin 37 .neq (.t 36) (.c (.int .i64 0))), (.mv 38 (.t 37)), (.g 38 false (some 39) (.ld 39 (.t 1) true 14)), (.g 38 false (some 40) (.call (some 40) (.c (.func 85 [] [])) [(.t 39)])), (.g 38 false (some 41) (.not 41 (.t 40))), (.pick 42 (.t 38) (.c (.bool true)) (.t 41)), (.mv 43 (.t 42)), (.g 43 false (some 44) (.fa 44 (.t 1) 5)), (.g 43 false (some 45) (.ld 45 (.t 44) false 1)), (.g 43 false (some 46) (.call (some 46) (.c (.func 86 [] [])) [(.t 45)])), (.g 43 false (some 47) (.not 47 (.t 46))), (.pick 48 (.t 43) (.c (.bool true)) (.t 47)), (.mv 49 (.t 48)), (.g 49 false (some 50) (.fa 50 (.t 1) 6)), (.g 49 false (some 51) (.ld 51 (.t 50) false 1)), (.g 49 false (some 52) (.call (some 52) (.c (.func 87 [] [])) [(.t 51)])), (.g 49 false (some 53) (.not 53 (.t 52))), (.pick 54 (.t 49) (.c (.bool true)) (.t 53)), (.mv 55 (.t 54)), (.g 55 false (some 56) (.mv 56 (.t 3))), (.g 55 false (some 57) (.not 57 (.t 56))), (.pick 58 (.t 55) (.c (.bool true)) (.t 57)), (.mv 59 (.t 58)), (.g 59 false (some 60) (.fa 60 (.t 1) 7)), (.g 59 false (some 61) (.ld 61 (.t 60) false 1)), (.g 59 false (some 62) (.call (some 62) (.c (.func 81 [] [])) [(.t 61), (.c (.int .i64 255))])), (.g 59 false (some 63) (.not 63 (.t 62))), (.pick 64 (.t 59) (.c (.bool true)) (.t 63)), (.mv 65 (.t 64)), (.g 65 false (some 66) (.fa 66 (.t 1) 8)), (.g 65 false (some 67) (.ld 67 (.t 66) false 1)), (.g 65 false (some 68) (.call (some 68) (.c (.func 81 [] [])) [(.t 67), (.c (.int .i64 255))])), (.g 65 false (some 69) (.not 69 (.t 68))), (.pick 70 (.t 65) (.c (.bool true)) (.t 69))]) (.cond (.t 70) (.seq (.reg [(.mv 2 (.c (.int .i64 1)))]) .ret) .skip)) (.seq (.seq (.regD [(.fa 71 (.t 1) 11), (.ld 72 (.t 71) false 1), (.call (some 73) (.c (.func 81 [] [])) [(.t 72), (.c (.int .i64 5))]), (.not 74 (.t 73)), (.mv 75 (.t 74)), (.g 75 false (some 76) (.fa 76 (.t 1) 12)), (.g 75 false (some 77) (.ld 77 (.t 76) false 1)), (.g 75 false (some 78) (.fa 78 (.t 1) 11)), (.g 75 false (some 79) (.ld 79 (.t 78) false 1)), (.g 75 false (some 80) (.bin 80 .shl (.c (.int .i64 1)) (.t 79))), (.g 75 false (some 81) (.bin 81 .sub (.t 80) (.c (.int .i64 1)))), (.g 75 false (some 82) (.call (some 82) (.c (.func 81 [] [])) [(.t 77), (.t 81)])), (.g 75 false (some 83) (.not 83 (.t 82))), (.pick 84 (.t 75) (.c (.bool true)) (.t 83)), (.mv 85 (.t 84)), (.g 85 false (some 86) (.fa 86 (.t 1) 13)), (.g 85 false (some 87) (.ld 87 (.t 86) false 1)), (.g 85 false (some 88) (.call (some 88) (.c (.func 81 [] [])) [(.t 87), (.c (.int .i64 2147483647))])), (.g 85 false (some 89) (.not 89 (.t 88))), (.pick 90 (.t 85) (.c (.bool true)) (.t 89))] []) (.cond (.t 90) (.seq (.reg [(.mv 2 (.c (.int .i64 1)))]) .ret) .skip)) (.seq (.reg [(.mv 2 (.c (.int .i64 0)))]) .ret)))))
theorem e22 : compC prog f22.ntmps (f22.body.getD .skip) = c22 := by kernel_rfl
theorem c188_pf (q : Queue) (hL : q.pk.length < 2 ^ 62) : ACalls prog 188 [.agg [.int .i64 q.limit, .sl 6 (q.pk.map Packet.enc)]] [] (.int .i64 (qErr q)) [] := by
  refine calls_of hmx func188 (by kernel_rfl) (c := f188.body.getD .skip) rfl e188 (rs := [(.t 2)]) (by kernel_rfl) (by simp [ntmps188]) ?_
  simp only [c188, argS]
  simp only [go_sem, seval]
  refine CX_pure c298_ok rfl rfl rfl rfl ?_
  simp only [go_sem, seval, Vc_bool, List.length_map]
  refine ⟨fun h1 => ?_, fun h1 => ⟨fun h2 => ?_, fun h2 => ?_⟩⟩
  · (refine Rt_pure ?_ rfl; simp only [retO, retO1, retOs, S, get_cons, Nat.reduceEqDiff, reduceIte, obj, getO_cons_zero, getO_cons_succ, List.getElem?_cons_zero, List.getElem?_cons_succ, List.drop_zero, List.drop_succ_cons, loadFrom_cell, loadFrom_agg, List.length_cons, List.length_nil, Nat.reduceAdd, Nat.reduceLeDiff, List.take_succ_cons, List.take_zero, List.take_nil])
    grind [qErr, wi3]
  · (refine Rt_pure ?_ rfl; simp only [retO, retO1, retOs, S, get_cons, Nat.reduceEqDiff, reduceIte, obj, getO_cons_zero, getO_cons_succ, List.getElem?_cons_zero, List.getElem?_cons_succ, List.drop_zero, List.drop_succ_cons, loadFrom_cell, loadFrom_agg, List.length_cons, List.length_nil, Nat.reduceAdd, Nat.reduceLeDiff, List.take_succ_cons, List.take_zero, List.take_nil])
    grind [qErr, wi3]
  · refine Lp.bkE0 (l188 q hL _ (fun s => ?_) q.pk [] rfl) (by rfl) ?_
    · simp only [go_sem, seval]
      (refine Rt_pure ?_ rfl; simp only [retO, retO1, retOs, S, get_cons, Nat.reduceEqDiff, reduceIte, obj, getO_cons_zero, getO_cons_succ, List.getElem?_cons_zero, List.getElem?_cons_succ, List.drop_zero, List.drop_succ_cons, loadFrom_cell, loadFrom_agg, List.length_cons, List.length_nil, Nat.reduceAdd, Nat.reduceLeDiff, List.take_succ_cons, List.take_zero, List.take_nil])
    · grind [qErr, wi3]
theorem c188_ok {q_limit : Int} {q_pk : List Packet} (hL : q_pk.length < 2 ^ 62) : ACalls prog 188 [.agg [.int .i64 q_limit, .sl 6 (q_pk.map Packet.enc)]] [] (.int .i64 (qErr (⟨q_limit, q_pk⟩ : Queue))) [] := c188_pf (⟨q_limit, q_pk⟩ : Queue) hL

def StBd (s : Station) : Prop := s.tab.cells.length < 2 ^ 62 ∧ s.q.pk.length < 2 ^ 62 ∧ s.held.length < 2 ^ 62 ∧ (∀ h ∈ s.held, h.acked.length < 2 ^ 62) ∧ s.seen.length < 2 ^ 62
theorem c189_ok {p : Packet} {s : Station} : ACalls prog 189 ([] ++ [.agg p.enc] ++ [.ptr 0 0 0 0]) [.cells 0 14 31 true [s.enc]] (.bool (decide (p.to = s.tab.node) || decide (100 < (p.data.size : Int)))) [.cells 0 14 31 true [s.enc]] := by
  refine calls_of hmx func189 (by kernel_rfl) (c := f189.body.getD .skip) rfl e189 (rs := [(.t 3)]) (by kernel_rfl) (by simp [ntmps189]) ?_
  simp only [c189, argS, List.nil_append, List.singleton_append]
  simp only [go_sem, seval]
  refine Rt_T [_] ?_ rfl rfl (Nat.le_refl _)
  simp only [retO, retO1, retOs, S, get_cons, Nat.reduceEqDiff, reduceIte, obj, getO_cons_zero, getO_cons_succ, List.getElem?_cons_zero, List.getElem?_cons_succ, List.drop_zero, List.drop_succ_cons, loadFrom_cell, loadFrom_agg, List.length_cons, List.length_nil, Nat.reduceAdd, Nat.reduceLeDiff, List.take_succ_cons, List.take_zero, List.take_nil]
theorem pks_any (s : Station) : (s.q.pk.all fun p => !decide (p.to = s.tab.node) && decide ((p.data.size : Int) ≤ 100)) = !(s.q.pk.any fun p => decide (p.to = s.tab.node) || decide (100 < (p.data.size : Int))) := by
  induction s.q.pk with
  | nil => rfl
  | cons p l ih =>
    rw [List.all_cons, List.any_cons, ih]
    grind
theorem c85_pf (s : Station) (hL : s.q.pk.length < 2 ^ 62) : ACalls prog 85 [.agg [.int .i64 s.tab.node, .int .i64 s.tab.len, .sl 6 (s.tab.cells.map TCell.enc), .int .i64 s.q.limit, .sl 6 (s.q.pk.map Packet.enc), .sl 5 (s.held.map Held.enc), .sl 2 (s.seen.map Seen.enc), .int .i64 s.list, .int .i64 s.seq, .int .i64 s.trying, .int .i64 s.tries, .int .i64 s.back, .int .i64 s.wait, .int .i64 s.seed]] [] (.bool (pksOk s)) [] := by
  refine calls_of hmx func85 (by kernel_rfl) (c := f85.body.getD .skip) rfl e85 (rs := [(.t 2)]) (by kernel_rfl) (by simp [ntmps85]) ?_
  simp only [c85, argS]
  cases h1 : decide (qErr s.q = 0)
  · simp only [go_sem, seval]
    refine CX_pure (c188_ok hL) rfl rfl rfl rfl ?_
    simp only [go_sem, seval, h1]
    (refine Rt_pure ?_ rfl; simp only [retO, retO1, retOs, S, get_cons, Nat.reduceEqDiff, reduceIte, obj, getO_cons_zero, getO_cons_succ, List.getElem?_cons_zero, List.getElem?_cons_succ, List.drop_zero, List.drop_succ_cons, loadFrom_cell, loadFrom_agg, List.length_cons, List.length_nil, Nat.reduceAdd, Nat.reduceLeDiff, List.take_succ_cons, List.take_zero, List.take_nil])
    simp [pksOk, h1]
  · simp only [go_sem, seval]
    refine CX_pure (c188_ok hL) rfl rfl rfl rfl ?_
    simp only [go_sem, seval, h1]
    refine CX_rd [0] (c186_has (caps := [.ptr 0 0 0 0]) (first := []) (g := 189) hL (pk_all _).1 ((pk_all _).2 _) (by rfl) (by rfl) (fun x _ => c189_ok (s := s))) (by rfl) (by rfl) (by rfl) (by rfl) (by rfl) (by decide) (by rfl) (by rfl) (by rfl) ?_
    simp only [go_sem, seval]
    (refine Rt_pure ?_ rfl; simp only [retO, retO1, retOs, S, get_cons, Nat.reduceEqDiff, reduceIte, obj, getO_cons_zero, getO_cons_succ, List.getElem?_cons_zero, List.getElem?_cons_succ, List.drop_zero, List.drop_succ_cons, loadFrom_cell, loadFrom_agg, List.length_cons, List.length_nil, Nat.reduceAdd, Nat.reduceLeDiff, List.take_succ_cons, List.take_zero, List.take_nil])
    simp [pksOk, h1, pks_any]
theorem c85_ok {s_tab_node : Int} {s_tab_len : Int} {s_tab_cells : List TCell} {s_q_limit : Int} {s_q_pk : List Packet} {s_held : List Held} {s_seen : List Seen} {s_list : Int} {s_seq : Int} {s_trying : Int} {s_tries : Int} {s_back : Int} {s_wait : Int} {s_seed : Int} (hL : s_q_pk.length < 2 ^ 62) : ACalls prog 85 [.agg [.int .i64 s_tab_node, .int .i64 s_tab_len, .sl 6 (s_tab_cells.map TCell.enc), .int .i64 s_q_limit, .sl 6 (s_q_pk.map Packet.enc), .sl 5 (s_held.map Held.enc), .sl 2 (s_seen.map Seen.enc), .int .i64 s_list, .int .i64 s_seq, .int .i64 s_trying, .int .i64 s_tries, .int .i64 s_back, .int .i64 s_wait, .int .i64 s_seed]] [] (.bool (pksOk (⟨(⟨s_tab_node, s_tab_len, s_tab_cells⟩ : Table), (⟨s_q_limit, s_q_pk⟩ : Queue), s_held, s_seen, s_list, s_seq, s_trying, s_tries, s_back, s_wait, s_seed⟩ : Station))) [] := c85_pf (⟨(⟨s_tab_node, s_tab_len, s_tab_cells⟩ : Table), (⟨s_q_limit, s_q_pk⟩ : Queue), s_held, s_seen, s_list, s_seq, s_trying, s_tries, s_back, s_wait, s_seed⟩ : Station) hL

theorem shl5 (b : Int) (h : wi b 5 = true) : IntKind.i64.wrap (IntKind.i64.wrap (1 * 2 ^ min b.toNat 64) - 1) = 2 ^ b.toNat - 1 := by
  have : b = 0 ∨ b = 1 ∨ b = 2 ∨ b = 3 ∨ b = 4 ∨ b = 5 := by simp only [wi] at h; grind
  rcases this with rfl | rfl | rfl | rfl | rfl | rfl <;> decide
theorem c22_pf (s : Station) (hB : StBd s) : ACalls prog 22 [.agg [.int .i64 s.tab.node, .int .i64 s.tab.len, .sl 6 (s.tab.cells.map TCell.enc), .int .i64 s.q.limit, .sl 6 (s.q.pk.map Packet.enc), .sl 5 (s.held.map Held.enc), .sl 2 (s.seen.map Seen.enc), .int .i64 s.list, .int .i64 s.seq, .int .i64 s.trying, .int .i64 s.tries, .int .i64 s.back, .int .i64 s.wait, .int .i64 s.seed]] [] (.int .i64 (stErr s)) [] := by
  refine calls_of hmx func22 (by kernel_rfl) (c := f22.body.getD .skip) rfl e22 (rs := [(.t 2)]) (by kernel_rfl) (by simp [ntmps22]) ?_
  simp only [c22, argS]
  obtain ⟨hB1, hB2, hB3, hB4, hB5⟩ := hB
  simp only [go_sem, seval]
  repeat' first | (refine Rt_pure ?_ rfl; simp only [retO, retO1, retOs, S, get_cons, Nat.reduceEqDiff, reduceIte, obj, getO_cons_zero, getO_cons_succ, List.getElem?_cons_zero, List.getElem?_cons_succ, List.drop_zero, List.drop_succ_cons, loadFrom_cell, loadFrom_agg, List.length_cons, List.length_nil, Nat.reduceAdd, Nat.reduceLeDiff, List.take_succ_cons, List.take_zero, List.take_nil]) | refine CX_pure (c84_ok hB2) rfl rfl rfl rfl ?_ | refine CX_pure (c80_ok hB1) rfl rfl rfl rfl ?_ | refine CX_pure (c85_ok hB2) rfl rfl rfl rfl ?_ | refine CX_pure (c86_ok hB3 hB4) rfl rfl rfl rfl ?_ | refine CX_pure (c87_ok hB5) rfl rfl rfl rfl ?_ | refine CX_pure c81_ok rfl rfl rfl rfl ?_ | refine GX_call (fun _ => (c84_ok hB2)) (by rfl) (by intro h; simp only [h]; rfl) (by rfl) (by rfl) ?_ | refine GX_call (fun _ => (c80_ok hB1)) (by rfl) (by intro h; simp only [h]; rfl) (by rfl) (by rfl) ?_ | refine GX_call (fun _ => (c85_ok hB2)) (by rfl) (by intro h; simp only [h]; rfl) (by rfl) (by rfl) ?_ | refine GX_call (fun _ => (c86_ok hB3 hB4)) (by rfl) (by intro h; simp only [h]; rfl) (by rfl) (by rfl) ?_ | refine GX_call (fun _ => (c87_ok hB5)) (by rfl) (by intro h; simp only [h]; rfl) (by rfl) (by rfl) ?_ | refine GX_call (fun _ => c81_ok) (by rfl) (by intro h; simp only [h]; rfl) (by rfl) (by rfl) ?_ | (with_reducible intro h; try simp only [h]) | (with_reducible refine And.intro ?_ ?_) | (change chk _ _ = true; rfl) | simp only [go_sem, seval, Vc_bool] | refine (GX_split rfl).2 ?_
  all_goals clear hB1 hB2 hB3 hB4 hB5
  · simp only [stErr, stOk, tryOk]
    grind
  · simp only [wi] at *
    grind
  · rename_i h0
    cases hb : wi s.back 5
    · simp [stErr, stOk, hb]
    · have e := shl5 s.back hb
      rw [e, hb] at h
      simp only [stErr, stOk, tryOk, hb]
      grind
  · rename_i h0
    cases hb : wi s.back 5
    · rw [hb] at h
      simp at h
    · have e := shl5 s.back hb
      rw [e, hb] at h
      simp only [stErr, stOk, tryOk, hb]
      grind
theorem c22_ok {s_tab_node : Int} {s_tab_len : Int} {s_tab_cells : List TCell} {s_q_limit : Int} {s_q_pk : List Packet} {s_held : List Held} {s_seen : List Seen} {s_list : Int} {s_seq : Int} {s_trying : Int} {s_tries : Int} {s_back : Int} {s_wait : Int} {s_seed : Int} (hB : StBd (⟨(⟨s_tab_node, s_tab_len, s_tab_cells⟩ : Table), (⟨s_q_limit, s_q_pk⟩ : Queue), s_held, s_seen, s_list, s_seq, s_trying, s_tries, s_back, s_wait, s_seed⟩ : Station)) : ACalls prog 22 [.agg [.int .i64 s_tab_node, .int .i64 s_tab_len, .sl 6 (s_tab_cells.map TCell.enc), .int .i64 s_q_limit, .sl 6 (s_q_pk.map Packet.enc), .sl 5 (s_held.map Held.enc), .sl 2 (s_seen.map Seen.enc), .int .i64 s_list, .int .i64 s_seq, .int .i64 s_trying, .int .i64 s_tries, .int .i64 s_back, .int .i64 s_wait, .int .i64 s_seed]] [] (.int .i64 (stErr (⟨(⟨s_tab_node, s_tab_len, s_tab_cells⟩ : Table), (⟨s_q_limit, s_q_pk⟩ : Queue), s_held, s_seen, s_list, s_seq, s_trying, s_tries, s_back, s_wait, s_seed⟩ : Station))) [] := c22_pf (⟨(⟨s_tab_node, s_tab_len, s_tab_cells⟩ : Table), (⟨s_q_limit, s_q_pk⟩ : Queue), s_held, s_seen, s_list, s_seq, s_trying, s_tries, s_back, s_wait, s_seed⟩ : Station) hB


end Go.Av.T
