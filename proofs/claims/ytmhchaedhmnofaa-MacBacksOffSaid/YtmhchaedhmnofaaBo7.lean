/- The seat: part Bo7. -/
import Derived.Test.YtmhchaedhmnofaaBo6
import Derived.KernelRfl
import Derived.Test.YtmhchaedhmnofaaBo5
set_option maxRecDepth 100000
set_option maxHeartbeats 1000000
set_option linter.unusedSimpArgs false
set_option linter.unusedVariables false
namespace Go.Av.T
open Go Go.Av Go.Av.Sp Go.Proofs.Try
def c81 : SC := (.seq (.reg [(.mv 4 (.c (.bool false)))]) (.seq (.reg [(.mv 5 (.t 0)), (.bin 6 .geq (.t 5) (.c (.int .i64 0))), (.mv 7 (.t 6)), (.g 7 true (some 8) (.mv 8 (.t 0))), (.g 7 true (some 9) (.mv 9 (.t 1))), (.g 7 true (some 10) (.bin 10 .leq (.t 8) (.t 9))), (.pick 11 (.t 7) (.t 10) (.c (.bool false))), (.mv 4 (.t 11))]) .ret))
theorem e81 : compC prog f26.ntmps (f26.body.getD .skip) = c81 := by kernel_rfl
def c181 : SC := (.seq (.reg [(.mv 2 (.c (.bool false)))]) (.seq (.reg [(.mv 3 (.t 0)), (.bin 4 .geq (.t 3) (.c (.int .i64 0))), (.mv 5 (.t 4)), (.g 5 true (some 6) (.mv 6 (.t 0))), (.g 5 true (some 7) (.bin 7 .lss (.t 6) (.c (.int .i64 32)))), (.pick 8 (.t 5) (.t 7) (.c (.bool false))), (.mv 2 (.t 8))]) .ret))
theorem e181 : compC prog f62.ntmps (f62.body.getD .skip) = c181 := by kernel_rfl
def c298 : SC := (.seq (.reg [(.mv 6 (.c (.bool false)))]) (.seq (.reg [(.mv 7 (.t 0)), (.mv 8 (.t 1)), (.bin 9 .geq (.t 7) (.t 8)), (.mv 10 (.t 9)), (.g 10 true (some 11) (.mv 11 (.t 0))), (.g 10 true (some 12) (.mv 12 (.t 2))), (.g 10 true (some 13) (.bin 13 .leq (.t 11) (.t 12))), (.pick 14 (.t 10) (.t 13) (.c (.bool false))), (.mv 6 (.t 14))]) .ret))
theorem e298 : compC prog f69.ntmps (f69.body.getD .skip) = c298 := by kernel_rfl
def c310 : SC := (.seq (.reg [(.mv 4 (.c (.bool false)))]) (.seq (.reg [(.mv 5 (.t 0)), (.bin 6 .geq (.t 5) (.c (.int .i64 0))), (.mv 7 (.t 6)), (.g 7 true (some 8) (.mv 8 (.t 0))), (.g 7 true (some 9) (.mv 9 (.t 1))), (.g 7 true (some 10) (.bin 10 .leq (.t 8) (.t 9))), (.pick 11 (.t 7) (.t 10) (.c (.bool false))), (.mv 4 (.t 11))]) .ret))
theorem e310 : compC prog f85.ntmps (f85.body.getD .skip) = c310 := by kernel_rfl
def c259 : SC := (.seq (.reg [(.mv 2 (.c (.bool false)))]) (.seq (.reg [(.mv 3 (.t 0)), (.mv 4 (.t 0)), (.bin 5 .neq (.t 3) (.t 4)), (.mv 2 (.t 5))]) .ret))
theorem e259 : compC prog f87.ntmps (f87.body.getD .skip) = c259 := by kernel_rfl
def c151 : SC := (.seq (.reg [(.mv 4 (.c (.int .i64 0)))]) (.seq (.reg [(.mv 7 (.t 0)), (.call (some 8) (.c (.func 87 [] [])) [(.t 7)]), (.mv 5 (.t 8))]) (.seq (.reg [(.mv 9 (.t 1)), (.call (some 10) (.c (.func 87 [] [])) [(.t 9)]), (.mv 6 (.t 10))]) (.seq (.seq (.reg [(.mv 11 (.t 5))]) (.cond (.t 11) (.seq (.seq (.reg [(.mv 12 (.t 6))]) (.cond (.t 12) (.seq (.reg [(.mv 4 (.c (.int .i64 0)))]) .ret) .skip)) (.seq (.reg [(.mv 4 (.c (.int .i64 (-1))))]) .ret)) .skip)) (.seq (.seq (.reg [(.mv 13 (.t 6))]) (.cond (.t 13) (.seq (.reg [(.mv 4 (.c (.int .i64 1)))]) .ret) .skip)) (.seq (.seq (.reg [(.mv 14 (.t 0)), (.mv 15 (.t 1)), (.bin 16 .lss (.t 14) (.t 15))]) (.cond (.t 16) (.seq (.reg [(.mv 4 (.c (.int .i64 (-1))))]) .ret) .skip)) (.seq (.seq (.reg [(.mv 17 (.t 0)), (.mv 18 (.t 1)), (.bin 19 .gtr (.t 17) (.t 18))]) (.cond (.t 19) (.seq (.reg [(.mv 4 (.c (.int .i64 1)))]) .ret) .skip)) (.seq (.reg [(.mv 4 (.c (.int .i64 0)))]) .ret))))))))
theorem e151 : compC prog f60.ntmps (f60.body.getD .skip) = c151 := by kernel_rfl
def c183 : SC := (.seq (.reg [(.box 2 60 (.t 0)), (.box 3 60 (.t 1)), (.mv 4 (.c (.int .i64 0)))]) (.seq (.regD [(.fa 5 (.t 2) 0), (.ld 6 (.t 5) false 1), (.fa 7 (.t 3) 0), (.ld 8 (.t 7) false 1), (.call (some 9) (.c (.func 60 [] [])) [(.t 6), (.t 8)]), (.fa 10 (.t 2) 2), (.ld 11 (.t 10) false 1), (.fa 12 (.t 3) 2), (.ld 13 (.t 12) false 1), (.call (some 14) (.c (.func 60 [] [])) [(.t 11), (.t 13)]), (.bsl 15 3 1 [(.int .i64 0)] 2 [(0, (.t 9)), (1, (.t 14))]), (.call (some 16) (.c (.func 90 [] [])) [(.t 15)]), (.mv 4 (.t 16))] [(4, 6), (4, 8)]) .ret))
theorem e183 : compC prog f64.ntmps (f64.body.getD .skip) = c183 := by kernel_rfl
def c297L1 : SC := (.seq (.reg [(.bin 9 .lss (.t 8) (.t 7))]) (.seq (.cond (.t 9) .skip (.exit 0)) (.seq (.block 1 (.seq (.reg [(.ia 10 (.t 6) (.t 8) 1), (.ld 11 (.t 10) false 1), (.mv 5 (.t 11))]) (.seq (.reg [(.mv 12 (.t 5)), (.mv 13 (.t 3)), (.bin 14 .neq (.t 12) (.t 13))]) (.cond (.t 14) (.seq (.reg [(.mv 15 (.t 5)), (.mv 2 (.t 15))]) .ret) .skip)))) (.reg [(.bin 16 .add (.t 8) (.c (.int .i64 1))), (.mv 8 (.t 16))]))))
def c297 : SC := (.seq (.reg [(.mv 2 (.c (.int .i64 0)))]) (.seq (.reg [(.mv 3 (.c (.int .i64 0)))]) (.seq (.seq (.reg [(.mv 6 (.t 0)), (.len 7 false (.t 6)), (.mv 8 (.c (.int .i64 0)))]) (.block 0 (.loop c297L1))) (.seq (.reg [(.mv 17 (.t 3)), (.mv 2 (.t 17))]) .ret))))
theorem e297 : compC prog f90.ntmps (f90.body.getD .skip) = c297 := by kernel_rfl
theorem c81_pf (n : Int) (m : Int)  : ACalls prog 26 [.int .i64 n, .int .i64 m] [] (.bool (wi n m)) [] := by
  refine calls_of hmx func26 (by kernel_rfl) (c := f26.body.getD .skip) rfl e81 (rs := [(.t 4)]) (by kernel_rfl) (by simp [ntmps26]) ?_
  simp only [c81, argS]
  simp only [go_sem, seval]
  (refine Rt_pure ?_ rfl; simp only [retO, retO1, retOs, S, get_cons, Nat.reduceEqDiff, reduceIte, obj, getO_cons_zero, getO_cons_succ, List.getElem?_cons_zero, List.getElem?_cons_succ, List.drop_zero, List.drop_succ_cons, loadFrom_cell, loadFrom_agg, List.length_cons, List.length_nil, Nat.reduceAdd, Nat.reduceLeDiff, List.take_succ_cons, List.take_zero, List.take_nil])
  simp [wi]
theorem c81_ok {n : Int} {m : Int}  : ACalls prog 26 [.int .i64 n, .int .i64 m] [] (.bool (wi n m)) [] := c81_pf n m 

theorem c181_pf (n : Int)  : ACalls prog 62 [.int .i64 n] [] (.bool (wi n 31)) [] := by
  refine calls_of hmx func62 (by kernel_rfl) (c := f62.body.getD .skip) rfl e181 (rs := [(.t 2)]) (by kernel_rfl) (by simp [ntmps62]) ?_
  simp only [c181, argS]
  simp only [go_sem, seval]
  (refine Rt_pure ?_ rfl; simp only [retO, retO1, retOs, S, get_cons, Nat.reduceEqDiff, reduceIte, obj, getO_cons_zero, getO_cons_succ, List.getElem?_cons_zero, List.getElem?_cons_succ, List.drop_zero, List.drop_succ_cons, loadFrom_cell, loadFrom_agg, List.length_cons, List.length_nil, Nat.reduceAdd, Nat.reduceLeDiff, List.take_succ_cons, List.take_zero, List.take_nil])
  grind [wi]
theorem c181_ok {n : Int}  : ACalls prog 62 [.int .i64 n] [] (.bool (wi n 31)) [] := c181_pf n 

theorem c298_pf (n : Int) (l : Int) (h : Int)  : ACalls prog 69 [.int .i64 n, .int .i64 l, .int .i64 h] [] (.bool (wi3 n l h)) [] := by
  refine calls_of hmx func69 (by kernel_rfl) (c := f69.body.getD .skip) rfl e298 (rs := [(.t 6)]) (by kernel_rfl) (by simp [ntmps69]) ?_
  simp only [c298, argS]
  simp only [go_sem, seval]
  (refine Rt_pure ?_ rfl; simp only [retO, retO1, retOs, S, get_cons, Nat.reduceEqDiff, reduceIte, obj, getO_cons_zero, getO_cons_succ, List.getElem?_cons_zero, List.getElem?_cons_succ, List.drop_zero, List.drop_succ_cons, loadFrom_cell, loadFrom_agg, List.length_cons, List.length_nil, Nat.reduceAdd, Nat.reduceLeDiff, List.take_succ_cons, List.take_zero, List.take_nil])
  simp [wi3]
theorem c298_ok {n : Int} {l : Int} {h : Int}  : ACalls prog 69 [.int .i64 n, .int .i64 l, .int .i64 h] [] (.bool (wi3 n l h)) [] := c298_pf n l h 

theorem c310_pf (n : Int) (m : Int)  : ACalls prog 85 [.int .i64 n, .int .i64 m] [] (.bool (wi n m)) [] := by
  refine calls_of hmx func85 (by kernel_rfl) (c := f85.body.getD .skip) rfl e310 (rs := [(.t 4)]) (by kernel_rfl) (by simp [ntmps85]) ?_
  simp only [c310, argS]
  simp only [go_sem, seval]
  (refine Rt_pure ?_ rfl; simp only [retO, retO1, retOs, S, get_cons, Nat.reduceEqDiff, reduceIte, obj, getO_cons_zero, getO_cons_succ, List.getElem?_cons_zero, List.getElem?_cons_succ, List.drop_zero, List.drop_succ_cons, loadFrom_cell, loadFrom_agg, List.length_cons, List.length_nil, Nat.reduceAdd, Nat.reduceLeDiff, List.take_succ_cons, List.take_zero, List.take_nil])
  simp [wi]
theorem c310_ok {n : Int} {m : Int}  : ACalls prog 85 [.int .i64 n, .int .i64 m] [] (.bool (wi n m)) [] := c310_pf n m 

theorem c259_pf (n : Int)  : ACalls prog 87 [.int .i64 n] [] (.bool false) [] := by
  refine calls_of hmx func87 (by kernel_rfl) (c := f87.body.getD .skip) rfl e259 (rs := [(.t 2)]) (by kernel_rfl) (by simp [ntmps87]) ?_
  simp only [c259, argS]
  simp only [go_sem, seval]
  (refine Rt_pure ?_ rfl; simp only [retO, retO1, retOs, S, get_cons, Nat.reduceEqDiff, reduceIte, obj, getO_cons_zero, getO_cons_succ, List.getElem?_cons_zero, List.getElem?_cons_succ, List.drop_zero, List.drop_succ_cons, loadFrom_cell, loadFrom_agg, List.length_cons, List.length_nil, Nat.reduceAdd, Nat.reduceLeDiff, List.take_succ_cons, List.take_zero, List.take_nil])
theorem c259_ok {n : Int}  : ACalls prog 87 [.int .i64 n] [] (.bool false) [] := c259_pf n 

def cmp (a b : Int) : Int := if a < b then -1 else if b < a then 1 else 0
theorem c151_pf (a : Int) (b : Int)  : ACalls prog 60 [.int .i64 a, .int .i64 b] [] (.int .i64 (cmp a b)) [] := by
  refine calls_of hmx func60 (by kernel_rfl) (c := f60.body.getD .skip) rfl e151 (rs := [(.t 4)]) (by kernel_rfl) (by simp [ntmps60]) ?_
  simp only [c151, argS]
  simp only [go_sem, seval]
  repeat' first | (refine Rt_pure ?_ rfl; simp only [retO, retO1, retOs, S, get_cons, Nat.reduceEqDiff, reduceIte, obj, getO_cons_zero, getO_cons_succ, List.getElem?_cons_zero, List.getElem?_cons_succ, List.drop_zero, List.drop_succ_cons, loadFrom_cell, loadFrom_agg, List.length_cons, List.length_nil, Nat.reduceAdd, Nat.reduceLeDiff, List.take_succ_cons, List.take_zero, List.take_nil]) | refine CX_pure c259_ok rfl rfl rfl rfl ?_ | refine GX_call (fun _ => c259_ok) (by rfl) (by intro h; simp only [h]; rfl) (by rfl) (by rfl) ?_ | (with_reducible intro h; try simp only [h]) | (with_reducible refine And.intro ?_ ?_) | (change chk _ _ = true; rfl) | simp only [go_sem, seval, Vc_bool] | refine (GX_split rfl).2 ?_
  all_goals grind [cmp]
theorem c151_ok {a : Int} {b : Int}  : ACalls prog 60 [.int .i64 a, .int .i64 b] [] (.int .i64 (cmp a b)) [] := c151_pf a b 

def c182 : SC := (.seq (.reg [(.box 3 60 (.t 0)), (.mv 6 (.c (.int .i64 0)))]) (.seq (.reg [(.fa 9 (.t 3) 2), (.ld 10 (.t 9) false 1), (.bin 11 .eql (.t 10) (.c (.int .i64 3))), (.mv 7 (.t 11))]) (.seq (.reg [(.fa 12 (.t 3) 2), (.ld 13 (.t 12) false 1), (.bin 14 .eql (.t 13) (.c (.int .i64 1))), (.mv 8 (.t 14))]) (.seq (.block 0 (.seq (.reg [(.mv 16 (.t 7)), (.not 17 (.t 16)), (.mv 18 (.t 17)), (.g 18 true (some 19) (.mv 19 (.t 8))), (.g 18 true (some 20) (.not 20 (.t 19))), (.pick 21 (.t 18) (.t 20) (.c (.bool false))), (.mv 22 (.t 21)), (.g 22 true (some 23) (.fa 23 (.t 3) 2)), (.g 22 true (some 24) (.ld 24 (.t 23) false 1)), (.g 22 true (some 25) (.bin 25 .neq (.t 24) (.c (.int .i64 2)))), (.pick 26 (.t 22) (.t 25) (.c (.bool false))), (.mv 15 (.t 26))]) (.cond (.t 15) (.seq (.reg [(.mv 6 (.c (.int .i64 1)))]) .ret) (.seq (.seq (.reg [(.mv 28 (.t 8)), (.not 29 (.t 28)), (.mv 30 (.t 29)), (.g 30 true (some 31) (.fa 31 (.t 3) 5)), (.g 30 true (some 32) (.ld 32 (.t 31) false 1)), (.g 30 true (some 33) (.bin 33 .neq (.t 32) (.c (.int .i64 (-1))))), (.pick 34 (.t 30) (.t 33) (.c (.bool false))), (.mv 27 (.t 34))]) (.cond (.t 27) .skip (.reg [(.mv 35 (.t 7)), (.mv 36 (.t 35)), (.g 36 true (some 37) (.fa 37 (.t 3) 4)), (.g 36 true (some 38) (.ld 38 (.t 37) false 1)), (.g 36 true (some 39) (.bin 39 .neq (.t 38) (.c (.int .i64 (-1))))), (.g 36 true (some 40) (.mv 40 (.t 39))), (.g 40 false (some 41) (.fa 41 (.t 3) 3)), (.g 40 false (some 42) (.ld 42 (.t 41) false 1)), (.g 36 true (some 43) (.pick 43 (.t 40) (.c (.bool true)) (.t 42))), (.pick 44 (.t 36) (.t 43) (.c (.bool false))), (.mv 27 (.t 44))]))) (.cond (.t 27) (.seq (.reg [(.mv 6 (.c (.int .i64 1)))]) .ret) (.seq (.seq (.reg [(.fa 46 (.t 3) 0), (.ld 47 (.t 46) false 1), (.bin 48 .lss (.t 47) (.c (.int .i64 0))), (.mv 49 (.t 48)), (.g 49 false (some 50) (.fa 50 (.t 3) 0)), (.g 49 false (some 51) (.ld 51 (.t 50) false 1)), (.g 49 false (some 52) (.mv 52 (.t 2))), (.g 49 false (some 53) (.bin 53 .geq (.t 51) (.t 52))), (.pick 54 (.t 49) (.c (.bool true)) (.t 53)), (.mv 45 (.t 54))]) (.cond (.t 45) .skip (.seq (.reg [(.fa 55 (.t 3) 1), (.ld 56 (.t 55) false 1), (.bin 57 .lss (.t 56) (.c (.int .i64 0))), (.mv 58 (.t 57)), (.g 58 false (some 59) (.fa 59 (.t 3) 1)), (.g 58 false (some 60) (.ld 60 (.t 59) false 1)), (.g 58 false (some 61) (.bin 61 .geq (.t 60) (.c (.int .i64 16)))), (.pick 62 (.t 58) (.c (.bool true)) (.t 61)), (.mv 45 (.t 62))]) (.cond (.t 45) .skip (.seq (.reg [(.mv 63 (.t 7)), (.not 64 (.t 63)), (.mv 65 (.t 64)), (.g 65 true (some 66) (.fa 66 (.t 3) 4)), (.g 65 true (some 67) (.ld 67 (.t 66) false 1)), (.g 65 true (some 68) (.call (some 68) (.c (.func 62 [] [])) [(.t 67)])), (.g 65 true (some 69) (.not 69 (.t 68))), (.g 65 true (some 70) (.mv 70 (.t 69))), (.g 70 false (some 71) (.fa 71 (.t 3) 4)), (.g 70 false (some 72) (.ld 72 (.t 71) false 1)), (.g 70 false (some 73) (.mv 73 (.t 1))), (.g 70 false (some 74) (.bin 74 .eql (.t 72) (.t 73))), (.g 65 true (some 75) (.pick 75 (.t 70) (.c (.bool true)) (.t 74))), (.pick 76 (.t 65) (.t 75) (.c (.bool false))), (.mv 45 (.t 76))]) (.cond (.t 45) .skip (.reg [(.mv 77 (.t 8)), (.mv 78 (.t 77)), (.g 78 true (some 79) (.fa 79 (.t 3) 5)), (.g 78 true (some 80) (.ld 80 (.t 79) false 1)), (.g 78 true (some 81) (.bin 81 .lss (.t 80) (.c (.int .i64 0)))), (.pick 82 (.t 78) (.t 81) (.c (.bool false))), (.mv 45 (.t 82))]))))))) (.cond (.t 45) (.seq (.reg [(.mv 6 (.c (.int .i64 2)))]) .ret) .skip))))))) (.seq (.reg [(.mv 6 (.c (.int .i64 0)))]) .ret)))))
theorem e182 : compC prog f63.ntmps (f63.body.getD .skip) = c182 := by kernel_rfl
theorem c182_pf (c : TCell) (self : Int) (len : Int)  : ACalls prog 63 [.agg [.int .i64 c.slot, .int .i64 c.off, .int .i64 c.kind, .bool c.send, .int .i64 c.peer, .int .i64 c.flow], .int .i64 self, .int .i64 len] [] (.int .i64 (cellErr self len c)) [] := by
  refine calls_of hmx func63 (by kernel_rfl) (c := f63.body.getD .skip) rfl e182 (rs := [(.t 6)]) (by kernel_rfl) (by simp [ntmps63]) ?_
  simp only [c182, argS]
  simp only [go_sem, seval]
  repeat' first | (refine Rt_pure ?_ rfl; simp only [retO, retO1, retOs, S, get_cons, Nat.reduceEqDiff, reduceIte, obj, getO_cons_zero, getO_cons_succ, List.getElem?_cons_zero, List.getElem?_cons_succ, List.drop_zero, List.drop_succ_cons, loadFrom_cell, loadFrom_agg, List.length_cons, List.length_nil, Nat.reduceAdd, Nat.reduceLeDiff, List.take_succ_cons, List.take_zero, List.take_nil]) | refine CX_pure c181_ok rfl rfl rfl rfl ?_ | refine GX_call (fun _ => c181_ok) (by rfl) (by intro h; simp only [h]; rfl) (by rfl) (by rfl) ?_ | (with_reducible intro h; try simp only [h]) | (with_reducible refine And.intro ?_ ?_) | (change chk _ _ = true; rfl) | simp only [go_sem, seval, Vc_bool] | refine (GX_split rfl).2 ?_
  all_goals (simp only [bnorm, AVal.int.injEq, AVal.bool.injEq, true_and, cellErr, wi] at *; grind)
theorem c182_ok {c_slot : Int} {c_off : Int} {c_kind : Int} {c_send : Bool} {c_peer : Int} {c_flow : Int} {self : Int} {len : Int}  : ACalls prog 63 [.agg [.int .i64 c_slot, .int .i64 c_off, .int .i64 c_kind, .bool c_send, .int .i64 c_peer, .int .i64 c_flow], .int .i64 self, .int .i64 len] [] (.int .i64 (cellErr self len (⟨c_slot, c_off, c_kind, c_send, c_peer, c_flow⟩ : TCell))) [] := c182_pf (⟨c_slot, c_off, c_kind, c_send, c_peer, c_flow⟩ : TCell) self len 


def c80L1 : SC := (.seq (.reg [(.bin 28 .lss (.t 27) (.t 26))]) (.seq (.cond (.t 28) .skip (.exit 0)) (.seq (.block 1 (.seq (.reg [(.mv 29 (.t 27)), (.ia 30 (.t 25) (.t 27) 6), (.ld 31 (.t 30) true 6), (.alc 4 60 [(.int .i64 0), (.int .i64 0), (.int .i64 0), (.bool false), (.int .i64 0), (.int .i64 0)]), (.mv 3 (.t 29)), (.st (.t 4) (.t 31) 6)]) (.seq (.seq (.reg [(.ld 32 (.t 4) true 6), (.fa 33 (.t 1) 0), (.ld 34 (.t 33) false 1), (.fa 35 (.t 1) 1), (.ld 36 (.t 35) false 1), (.call (some 37) (.c (.func 63 [] [])) [(.t 32), (.t 34), (.t 36)]), (.mv 5 (.t 37))]) (.seq (.reg [(.mv 38 (.t 5)), (.bin 39 .neq (.t 38) (.c (.int .i64 0)))]) (.cond (.t 39) (.seq (.reg [(.mv 40 (.t 5)), (.mv 2 (.t 40))]) .ret) .skip))) (.seq (.regD [(.mv 41 (.t 3)), (.bin 42 .gtr (.t 41) (.c (.int .i64 0))), (.mv 43 (.t 42)), (.g 43 true (some 44) (.fa 44 (.t 1) 2)), (.g 43 true (some 45) (.ld 45 (.t 44) false 1)), (.g 43 true (some 46) (.mv 46 (.t 3))), (.g 43 true (some 47) (.bin 47 .sub (.t 46) (.c (.int .i64 1)))), (.g 43 true (some 48) (.ia 48 (.t 45) (.t 47) 6)), (.g 43 true (some 49) (.ld 49 (.t 48) true 6)), (.g 43 true (some 50) (.ld 50 (.t 4) true 6)), (.g 43 true (some 51) (.call (some 51) (.c (.func 64 [] [])) [(.t 49), (.t 50)])), (.g 43 true (some 52) (.bin 52 .geq (.t 51) (.c (.int .i64 0)))), (.pick 53 (.t 43) (.t 52) (.c (.bool false)))] []) (.cond (.t 53) (.seq (.reg [(.mv 2 (.c (.int .i64 5)))]) .ret) .skip))))) (.reg [(.bin 54 .add (.t 27) (.c (.int .i64 1))), (.mv 27 (.t 54))]))))
def c80 : SC := (.seq (.reg [(.box 1 28 (.t 0)), (.mv 2 (.c (.int .i64 0)))]) (.seq (.seq (.reg [(.fa 6 (.t 1) 0), (.ld 7 (.t 6) false 1), (.call (some 8) (.c (.func 62 [] [])) [(.t 7)]), (.not 9 (.t 8)), (.mv 10 (.t 9)), (.g 10 false (some 11) (.fa 11 (.t 1) 1)), (.g 10 false (some 12) (.ld 12 (.t 11) false 1)), (.g 10 false (some 13) (.bin 13 .lss (.t 12) (.c (.int .i64 1)))), (.pick 14 (.t 10) (.c (.bool true)) (.t 13)), (.mv 15 (.t 14)), (.g 15 false (some 16) (.fa 16 (.t 1) 1)), (.g 15 false (some 17) (.ld 17 (.t 16) false 1)), (.g 15 false (some 18) (.bin 18 .gtr (.t 17) (.c (.int .i64 512)))), (.pick 19 (.t 15) (.c (.bool true)) (.t 18))]) (.cond (.t 19) (.seq (.reg [(.mv 2 (.c (.int .i64 2)))]) .ret) .skip)) (.seq (.seq (.reg [(.fa 20 (.t 1) 2), (.ld 21 (.t 20) false 1), (.len 22 false (.t 21)), (.bin 23 .gtr (.t 22) (.c (.int .i64 512)))]) (.cond (.t 23) (.seq (.reg [(.mv 2 (.c (.int .i64 8)))]) .ret) .skip)) (.seq (.seq (.reg [(.fa 24 (.t 1) 2), (.ld 25 (.t 24) false 1), (.len 26 false (.t 25)), (.mv 27 (.c (.int .i64 0)))]) (.block 0 (.loop c80L1))) (.seq (.reg [(.mv 2 (.c (.int .i64 0)))]) .ret)))))
theorem e80 : compC prog f25.ntmps (f25.body.getD .skip) = c80 := by kernel_rfl
theorem c297_ok {a b : Int} : ACalls prog 90 [.row 0 0 0 2] [.cells 0 1 3 true [[.int .i64 a], [.int .i64 b]]] (.int .i64 (if a = 0 then b else a)) [.cells 0 1 3 true [[.int .i64 a], [.int .i64 b]]] := by
  refine calls_of hmx func90 (by kernel_rfl) (c := f90.body.getD .skip) rfl e297 (rs := [(.t 2)]) (by kernel_rfl) (by simp [ntmps90]) ?_
  simp only [c297, argS]
  simp only [go_sem, seval]
  refine Lp.of_eq hmx c297L1.eq_1 ?_
  simp only [go_sem, seval]
  simp only [go_sem, seval, Vc_bool]
  refine ⟨fun h1 => ?_, fun h1 => ?_⟩
  · refine Rt_all ?_ rfl rfl (Nat.le_refl _)
    simp only [retO, retO1, retOs, S, get_cons, Nat.reduceEqDiff, reduceIte, obj, getO_cons_zero, getO_cons_succ, List.getElem?_cons_zero, List.getElem?_cons_succ, List.drop_zero, List.drop_succ_cons, loadFrom_cell, loadFrom_agg, List.length_cons, List.length_nil, Nat.reduceAdd, Nat.reduceLeDiff, List.take_succ_cons, List.take_zero, List.take_nil]
    grind
  · refine Lp.of_eq hmx c297L1.eq_1 ?_
    simp only [go_sem, seval]
    simp only [go_sem, seval, Vc_bool]
    refine ⟨fun h2 => ?_, fun h2 => ?_⟩
    · refine Rt_all ?_ rfl rfl (Nat.le_refl _)
      simp only [retO, retO1, retOs, S, get_cons, Nat.reduceEqDiff, reduceIte, obj, getO_cons_zero, getO_cons_succ, List.getElem?_cons_zero, List.getElem?_cons_succ, List.drop_zero, List.drop_succ_cons, loadFrom_cell, loadFrom_agg, List.length_cons, List.length_nil, Nat.reduceAdd, Nat.reduceLeDiff, List.take_succ_cons, List.take_zero, List.take_nil]
      grind
    · refine Lp.of_eq hmx c297L1.eq_1 ?_
      simp only [go_sem, seval]
      refine Rt_all ?_ rfl rfl (Nat.le_refl _)
      simp only [retO, retO1, retOs, S, get_cons, Nat.reduceEqDiff, reduceIte, obj, getO_cons_zero, getO_cons_succ, List.getElem?_cons_zero, List.getElem?_cons_succ, List.drop_zero, List.drop_succ_cons, loadFrom_cell, loadFrom_agg, List.length_cons, List.length_nil, Nat.reduceAdd, Nat.reduceLeDiff, List.take_succ_cons, List.take_zero, List.take_nil]
      grind
def cellCmp (a b : TCell) : Int := if cmp a.slot b.slot = 0 then cmp a.kind b.kind else cmp a.slot b.slot
theorem cellCmp_less (a b : TCell) : decide (0 ≤ cellCmp a b) = !cellLess a b := by
  simp only [cellCmp, cellLess, cmp]
  grind
theorem c183_pf (a : TCell) (b : TCell)  : ACalls prog 64 [.agg [.int .i64 a.slot, .int .i64 a.off, .int .i64 a.kind, .bool a.send, .int .i64 a.peer, .int .i64 a.flow], .agg [.int .i64 b.slot, .int .i64 b.off, .int .i64 b.kind, .bool b.send, .int .i64 b.peer, .int .i64 b.flow]] [] (.int .i64 (cellCmp a b)) [] := by
  refine calls_of hmx func64 (by kernel_rfl) (c := f64.body.getD .skip) rfl e183 (rs := [(.t 4)]) (by kernel_rfl) (by simp [ntmps64]) ?_
  simp only [c183, argS]
  simp only [go_sem, seval]
  refine CX_pure c151_ok rfl rfl rfl rfl ?_
  simp only [go_sem, seval]
  refine CX_pure c151_ok rfl rfl rfl rfl ?_
  simp only [go_sem, seval]
  refine CX_rd [2] c297_ok (by rfl) (by rfl) (by rfl) (by rfl) (by rfl) (by decide) (by rfl) (by rfl) (by rfl) ?_
  simp only [go_sem, seval]
  refine ⟨by rfl, ?_⟩
  (refine Rt_pure ?_ rfl; simp only [retO, retO1, retOs, S, get_cons, Nat.reduceEqDiff, reduceIte, obj, getO_cons_zero, getO_cons_succ, List.getElem?_cons_zero, List.getElem?_cons_succ, List.drop_zero, List.drop_succ_cons, loadFrom_cell, loadFrom_agg, List.length_cons, List.length_nil, Nat.reduceAdd, Nat.reduceLeDiff, List.take_succ_cons, List.take_zero, List.take_nil])
  grind [cellCmp]
theorem c183_ok {a_slot : Int} {a_off : Int} {a_kind : Int} {a_send : Bool} {a_peer : Int} {a_flow : Int} {b_slot : Int} {b_off : Int} {b_kind : Int} {b_send : Bool} {b_peer : Int} {b_flow : Int}  : ACalls prog 64 [.agg [.int .i64 a_slot, .int .i64 a_off, .int .i64 a_kind, .bool a_send, .int .i64 a_peer, .int .i64 a_flow], .agg [.int .i64 b_slot, .int .i64 b_off, .int .i64 b_kind, .bool b_send, .int .i64 b_peer, .int .i64 b_flow]] [] (.int .i64 (cellCmp (⟨a_slot, a_off, a_kind, a_send, a_peer, a_flow⟩ : TCell) (⟨b_slot, b_off, b_kind, b_send, b_peer, b_flow⟩ : TCell))) [] := c183_pf (⟨a_slot, a_off, a_kind, a_send, a_peer, a_flow⟩ : TCell) (⟨b_slot, b_off, b_kind, b_send, b_peer, b_flow⟩ : TCell) 

theorem l80 (t : Table) (hL : t.cells.length < 2 ^ 62) (k' : List It) (hk : ∀ s, V prog f25.ntmps 0 (Ret [.t 2] 0 (.int .i64 0) []) k' s [.cells 0 3 28 true [t.enc]]) : ∀ (rest done : List TCell), t.cells = done ++ rest →
    Lp prog f25.ntmps 0 (Ret [.t 2] 0 (.int .i64 (chainE (cellErr t.node t.len) cellLess 5 done.getLast? rest)) []) c80L1 (.blk 0 :: k') [(1, .ptr 0 0 0 0), (25, .sl 6 (t.cells.map TCell.enc)), (26, .int .i64 t.cells.length), (27, .int .i64 done.length)] [.cells 0 3 28 true [t.enc]] := by
  intro rest
  induction rest with
  | nil =>
    intro done hd
    refine Lp.of_eq hmx c80L1.eq_1 ?_
    have h1 := rg_end hd
    simp only [go_sem, seval, h1]
    exact hk _
  | cons c rest ih =>
    intro done hd
    refine Lp.of_eq hmx c80L1.eq_1 ?_
    obtain ⟨h1, h2, h3, h4⟩ := rg_hd TCell.enc hd hL
    have ih' := ih _ h4
    rw [List.getLast?_append, List.getLast?_singleton, Option.some_or] at ih'
    simp only [go_sem, seval, h1, h2, h3, Int.toNat_natCast, Int.natCast_nonneg]
    refine CX_pure c182_ok rfl rfl rfl rfl ?_
    simp only [go_sem, seval, Vc_bool]
    refine ⟨fun h5 => ?_, fun h5 => ?_⟩
    · (refine Rt_pure ?_ rfl; simp only [retO, retO1, retOs, S, get_cons, Nat.reduceEqDiff, reduceIte, obj, getO_cons_zero, getO_cons_succ, List.getElem?_cons_zero, List.getElem?_cons_succ, List.drop_zero, List.drop_succ_cons, loadFrom_cell, loadFrom_agg, List.length_cons, List.length_nil, Nat.reduceAdd, Nat.reduceLeDiff, List.take_succ_cons, List.take_zero, List.take_nil])
      grind [chainE]
    · rcases List.eq_nil_or_concat done with h0 | ⟨ds, p, h0⟩
      · subst h0
        simp only [go_sem, seval, rg_first, h3]
        have e : chainE (cellErr t.node t.len) cellLess 5 none (c :: rest) = chainE (cellErr t.node t.len) cellLess 5 (some c) rest := by grind [chainE]
        rw [← e] at ih'
        exact Lp.bk [_] ih' (by rfl) (by rfl) (by rfl) (Nat.zero_le _)
      · rw [List.concat_eq_append] at h0
        subst h0
        obtain ⟨p1, p2, p3⟩ := rg_prev TCell.enc hd hL
        simp only [go_sem, seval, p1, p2, p3, h3, Int.toNat_natCast, Int.natCast_nonneg]
        refine CX_pure c183_ok rfl rfl rfl rfl ?_
        simp only [go_sem, seval, Vc_bool, cellCmp_less, h3]
        refine ⟨fun h6 => ?_, fun h6 => ?_⟩
        · (refine Rt_pure ?_ rfl; simp only [retO, retO1, retOs, S, get_cons, Nat.reduceEqDiff, reduceIte, obj, getO_cons_zero, getO_cons_succ, List.getElem?_cons_zero, List.getElem?_cons_succ, List.drop_zero, List.drop_succ_cons, loadFrom_cell, loadFrom_agg, List.length_cons, List.length_nil, Nat.reduceAdd, Nat.reduceLeDiff, List.take_succ_cons, List.take_zero, List.take_nil])
          grind [chainE]
        · have e : chainE (cellErr t.node t.len) cellLess 5 (ds ++ [p]).getLast? (c :: rest) = chainE (cellErr t.node t.len) cellLess 5 (some c) rest := by grind [chainE]
          rw [← e] at ih'
          exact Lp.bk [_] ih' (by rfl) (by rfl) (by rfl) (Nat.zero_le _)
theorem c80_pf (t : Table) (hL : t.cells.length < 2 ^ 62) : ACalls prog 25 [.agg [.int .i64 t.node, .int .i64 t.len, .sl 6 (t.cells.map TCell.enc)]] [] (.int .i64 (tabErr t)) [] := by
  refine calls_of hmx func25 (by kernel_rfl) (c := f25.body.getD .skip) rfl e80 (rs := [(.t 2)]) (by kernel_rfl) (by simp [ntmps25]) ?_
  simp only [c80, argS]
  simp only [go_sem, seval]
  refine CX_pure c181_ok rfl rfl rfl rfl ?_
  simp only [go_sem, seval, Vc_bool, List.length_map]
  refine ⟨fun h1 => ?_, fun h1 => ⟨fun h2 => ?_, fun h2 => ?_⟩⟩
  · (refine Rt_pure ?_ rfl; simp only [retO, retO1, retOs, S, get_cons, Nat.reduceEqDiff, reduceIte, obj, getO_cons_zero, getO_cons_succ, List.getElem?_cons_zero, List.getElem?_cons_succ, List.drop_zero, List.drop_succ_cons, loadFrom_cell, loadFrom_agg, List.length_cons, List.length_nil, Nat.reduceAdd, Nat.reduceLeDiff, List.take_succ_cons, List.take_zero, List.take_nil])
    grind [tabErr, wi]
  · (refine Rt_pure ?_ rfl; simp only [retO, retO1, retOs, S, get_cons, Nat.reduceEqDiff, reduceIte, obj, getO_cons_zero, getO_cons_succ, List.getElem?_cons_zero, List.getElem?_cons_succ, List.drop_zero, List.drop_succ_cons, loadFrom_cell, loadFrom_agg, List.length_cons, List.length_nil, Nat.reduceAdd, Nat.reduceLeDiff, List.take_succ_cons, List.take_zero, List.take_nil])
    grind [tabErr, wi]
  · have e : tabErr t = chainE (cellErr t.node t.len) cellLess 5 ([] : List TCell).getLast? t.cells := by grind [tabErr, wi]
    rw [e]
    refine Lp.bk0 (l80 t hL _ (fun s => ?_) t.cells [] rfl) (by rfl)
    simp only [go_sem, seval]
    (refine Rt_pure ?_ rfl; simp only [retO, retO1, retOs, S, get_cons, Nat.reduceEqDiff, reduceIte, obj, getO_cons_zero, getO_cons_succ, List.getElem?_cons_zero, List.getElem?_cons_succ, List.drop_zero, List.drop_succ_cons, loadFrom_cell, loadFrom_agg, List.length_cons, List.length_nil, Nat.reduceAdd, Nat.reduceLeDiff, List.take_succ_cons, List.take_zero, List.take_nil])
theorem c80_ok {t_node : Int} {t_len : Int} {t_cells : List TCell} (hL : t_cells.length < 2 ^ 62) : ACalls prog 25 [.agg [.int .i64 t_node, .int .i64 t_len, .sl 6 (t_cells.map TCell.enc)]] [] (.int .i64 (tabErr (⟨t_node, t_len, t_cells⟩ : Table))) [] := c80_pf (⟨t_node, t_len, t_cells⟩ : Table) hL

/-- The code of slices.IndexFunc, k cells an element. -/
def cIdxL (k : Nat) : SC := (.seq (.reg [(.bin 9 .lss (.t 8) (.t 7))]) (.seq (.cond (.t 9) .skip (.exit 0)) (.seq (.block 1 (.seq (.reg [(.mv 10 (.t 8)), (.mv 5 (.t 10))]) (.seq (.reg [(.mv 11 (.t 1)), (.mv 12 (.t 0)), (.mv 13 (.t 5)), (.ia 14 (.t 12) (.t 13) k), (.ld 15 (.t 14) true k), (.call (some 16) (.t 11) [(.t 15)])]) (.cond (.t 16) (.seq (.reg [(.mv 17 (.t 5)), (.mv 4 (.t 17))]) .ret) .skip)))) (.reg [(.bin 18 .add (.t 8) (.c (.int .i64 1))), (.mv 8 (.t 18))]))))
def cIdx (k : Nat) : SC := (.seq (.reg [(.mv 4 (.c (.int .i64 0)))]) (.seq (.seq (.reg [(.mv 6 (.t 0)), (.len 7 false (.t 6)), (.mv 8 (.c (.int .i64 0)))]) (.block 0 (.loop (cIdxL k)))) (.seq (.reg [(.mv 4 (.c (.int .i64 (-1))))]) .ret)))
theorem e206 : compC prog f37.ntmps (f37.body.getD .skip) = cIdx 6 := by kernel_rfl
theorem e200 : compC prog f47.ntmps (f47.body.getD .skip) = cIdx 5 := by kernel_rfl
theorem e309 : compC prog f83.ntmps (f83.body.getD .skip) = cIdx 6 := by kernel_rfl
section
variable {α : Type} {en : α → List AVal} {k : Nat} {xs : List α} {g : FuncId} {first caps : List AVal} {Hc : Heap} {p : α → Bool}
theorem idx_loop (hlen : xs.length < 2 ^ 62) (hen : ∀ x ∈ xs, (en x).length = k) (hea : ∀ x ∈ xs, ltL Hc.length (en x) = true) (hfun : ltv Hc.length (.func g first caps) = true) (hH : Hc.all (ltO Hc.length) = true)
    (hcl : ∀ x ∈ xs, ACalls prog g (first ++ [.agg (en x)] ++ caps) Hc (.bool (p x)) Hc) (k' : List It) (hk : ∀ s, V prog 19 Hc.length (Ret [.t 4] Hc.length (.int .i64 (-1)) Hc) k' s Hc) : ∀ (rest done : List α), xs = done ++ rest →
    Lp prog 19 Hc.length (Ret [.t 4] Hc.length (.int .i64 (idxFrom p done.length rest)) Hc) (cIdxL k) (.blk 0 :: k') [(0, .sl k (xs.map en)), (1, .func g first caps), (7, .int .i64 xs.length), (8, .int .i64 done.length)] Hc := by
  intro rest
  induction rest with
  | nil =>
    intro done hd
    refine Lp.of_eq hmx (cIdxL.eq_1 k) ?_
    have h1 := rg_end hd
    simp only [go_sem, seval, h1]
    exact hk _
  | cons c rest ih =>
    intro done hd
    refine Lp.of_eq hmx (cIdxL.eq_1 k) ?_
    obtain ⟨h1, h2, h3, h4⟩ := rg_hd en hd hlen
    have ih' := ih _ h4
    have hc : c ∈ xs := by rw [hd]; simp
    have hek := hen c hc
    have h5 : loadFrom true k (en c) = some (.agg (en c)) := by simp [loadFrom, ← hek]
    simp only [go_sem, seval, h1, h2, h3, h5, Int.toNat_natCast, Int.natCast_nonneg, List.drop_zero]
    refine CX_self (hcl c hc) rfl rfl ?_ rfl hH ?_
    · rw [ltv, Bool.and_eq_true] at hfun
      rw [ltL_append, ltL_append, hfun.1, hfun.2]
      simp [ltL, ltv, hea c hc]
    · simp only [go_sem, seval, Vc_bool, h3]
      refine ⟨fun h6 => ?_, fun h6 => ?_⟩
      · refine Rt_all ?_ rfl hH (Nat.le_refl _)
        simp only [retO, retO1, retOs, S, get_cons, Nat.reduceEqDiff, reduceIte, obj, getO_cons_zero, getO_cons_succ, List.getElem?_cons_zero, List.getElem?_cons_succ, List.drop_zero, List.drop_succ_cons, loadFrom_cell, loadFrom_agg, List.length_cons, List.length_nil, Nat.reduceAdd, Nat.reduceLeDiff, List.take_succ_cons, List.take_zero, List.take_nil]
        simp [idxFrom, h6]
      · have e : idxFrom p done.length (c :: rest) = idxFrom p (done ++ [c]).length rest := by simp [idxFrom, h6]
        rw [← e] at ih'
        exact Lp.bk0 ih' (by rfl)
theorem idx_V (hlen : xs.length < 2 ^ 62) (hen : ∀ x ∈ xs, (en x).length = k) (hea : ∀ x ∈ xs, ltL Hc.length (en x) = true) (hfun : ltv Hc.length (.func g first caps) = true) (hH : Hc.all (ltO Hc.length) = true)
    (hcl : ∀ x ∈ xs, ACalls prog g (first ++ [.agg (en x)] ++ caps) Hc (.bool (p x)) Hc) : V prog 19 Hc.length (Ret [.t 4] Hc.length (.int .i64 (idxFrom p 0 xs)) Hc) [.code (cIdx k)] (argS [.sl k (xs.map en), .func g first caps] 0) Hc := by
  simp only [cIdx, argS]
  simp only [go_sem, seval, List.length_map]
  refine Lp.bk0 (idx_loop hlen hen hea hfun hH hcl _ (fun s => ?_) xs [] rfl) (by rfl)
  simp only [go_sem, seval]
  refine Rt_all ?_ rfl hH (Nat.le_refl _)
  simp only [retO, retO1, retOs, S, get_cons, Nat.reduceEqDiff, reduceIte, obj, getO_cons_zero, getO_cons_succ, List.getElem?_cons_zero, List.getElem?_cons_succ, List.drop_zero, List.drop_succ_cons, loadFrom_cell, loadFrom_agg, List.length_cons, List.length_nil, Nat.reduceAdd, Nat.reduceLeDiff, List.take_succ_cons, List.take_zero, List.take_nil]
end
/-- slices.IndexFunc. -/
def IdxF (f k : Nat) : Prop := ∀ {α : Type} {en : α → List AVal} {xs : List α} {g : FuncId} {first caps : List AVal} {Hc : Heap} {p : α → Bool}, xs.length < 2 ^ 62 → (∀ x ∈ xs, (en x).length = k) → (∀ x ∈ xs, ltL Hc.length (en x) = true) → ltv Hc.length (.func g first caps) = true → Hc.all (ltO Hc.length) = true →
  (∀ x ∈ xs, ACalls prog g (first ++ [.agg (en x)] ++ caps) Hc (.bool (p x)) Hc) → ACalls prog f [.sl k (xs.map en), .func g first caps] Hc (.int .i64 (idxFrom p 0 xs)) Hc
theorem c206_idx : IdxF 37 6 := by
  intro α en xs g first caps Hc p h1 h2 h3 h4 h5 h6
  refine calls_of hmx func37 (by kernel_rfl) (c := f37.body.getD .skip) rfl e206 (rs := [(.t 4)]) (by kernel_rfl) (by simp [ntmps37]) ?_
  exact idx_V h1 h2 h3 h4 h5 h6
theorem c200_idx : IdxF 47 5 := by
  intro α en xs g first caps Hc p h1 h2 h3 h4 h5 h6
  refine calls_of hmx func47 (by kernel_rfl) (c := f47.body.getD .skip) rfl e200 (rs := [(.t 4)]) (by kernel_rfl) (by simp [ntmps47]) ?_
  exact idx_V h1 h2 h3 h4 h5 h6
theorem c309_idx : IdxF 83 6 := by
  intro α en xs g first caps Hc p h1 h2 h3 h4 h5 h6
  refine calls_of hmx func83 (by kernel_rfl) (c := f83.body.getD .skip) rfl e309 (rs := [(.t 4)]) (by kernel_rfl) (by simp [ntmps83]) ?_
  exact idx_V h1 h2 h3 h4 h5 h6
/-- slices.ContainsFunc. -/
def cHas (f : Nat) : SC := (.seq (.reg [(.mv 4 (.c (.bool false)))]) (.seq (.reg [(.mv 5 (.t 0)), (.mv 6 (.t 1)), (.call (some 7) (.c (.func f [] [])) [(.t 5), (.t 6)]), (.bin 8 .geq (.t 7) (.c (.int .i64 0))), (.mv 4 (.t 8))]) .ret))
theorem e186 : compC prog f65.ntmps (f65.body.getD .skip) = cHas 37 := by kernel_rfl
theorem e208 : compC prog f54.ntmps (f54.body.getD .skip) = cHas 83 := by kernel_rfl
def HasF (f k : Nat) : Prop := ∀ {α : Type} {en : α → List AVal} {xs : List α} {g : FuncId} {first caps : List AVal} {Hc : Heap} {p : α → Bool}, xs.length < 2 ^ 62 → (∀ x ∈ xs, (en x).length = k) → (∀ x ∈ xs, ltL Hc.length (en x) = true) → ltv Hc.length (.func g first caps) = true → Hc.all (ltO Hc.length) = true →
  (∀ x ∈ xs, ACalls prog g (first ++ [.agg (en x)] ++ caps) Hc (.bool (p x)) Hc) → ACalls prog f [.sl k (xs.map en), .func g first caps] Hc (.bool (xs.any p)) Hc
theorem has_V {α : Type} {en : α → List AVal} {k : Nat} {xs : List α} {g : FuncId} {first caps : List AVal} {Hc : Heap} {p : α → Bool} {f : Nat} (hf : IdxF f k) (hlen : xs.length < 2 ^ 62) (hen : ∀ x ∈ xs, (en x).length = k) (hea : ∀ x ∈ xs, ltL Hc.length (en x) = true) (hfun : ltv Hc.length (.func g first caps) = true) (hH : Hc.all (ltO Hc.length) = true)
    (hcl : ∀ x ∈ xs, ACalls prog g (first ++ [.agg (en x)] ++ caps) Hc (.bool (p x)) Hc) : V prog 9 Hc.length (Ret [.t 4] Hc.length (.bool (xs.any p)) Hc) [.code (cHas f)] (argS [.sl k (xs.map en), .func g first caps] 0) Hc := by
  simp only [cHas, argS]
  simp only [go_sem, seval]
  refine CX_self (hf hlen hen hea hfun hH hcl) rfl rfl (by simp [ltL, ltv] at hfun ⊢; exact hfun) rfl hH ?_
  simp only [go_sem, seval, idxFrom_any]
  refine Rt_all ?_ rfl hH (Nat.le_refl _)
  simp only [retO, retO1, retOs, S, get_cons, Nat.reduceEqDiff, reduceIte, obj, getO_cons_zero, getO_cons_succ, List.getElem?_cons_zero, List.getElem?_cons_succ, List.drop_zero, List.drop_succ_cons, loadFrom_cell, loadFrom_agg, List.length_cons, List.length_nil, Nat.reduceAdd, Nat.reduceLeDiff, List.take_succ_cons, List.take_zero, List.take_nil]
theorem c186_has : HasF 65 6 := by
  intro α en xs g first caps Hc p h1 h2 h3 h4 h5 h6
  refine calls_of hmx func65 (by kernel_rfl) (c := f65.body.getD .skip) rfl e186 (rs := [(.t 4)]) (by kernel_rfl) (by simp [ntmps65]) ?_
  exact has_V c206_idx h1 h2 h3 h4 h5 h6
theorem c208_has : HasF 54 6 := by
  intro α en xs g first caps Hc p h1 h2 h3 h4 h5 h6
  refine calls_of hmx func54 (by kernel_rfl) (c := f54.body.getD .skip) rfl e208 (rs := [(.t 4)]) (by kernel_rfl) (by simp [ntmps54]) ?_
  exact has_V c309_idx h1 h2 h3 h4 h5 h6

def c265 : SC := (.seq (.reg [(.box 1 42 (.t 0)), (.mv 2 (.c (.int .i64 0)))]) (.seq (.seq (.reg [(.fa 3 (.t 1) 0), (.ld 4 (.t 3) false 1), (.bin 5 .lss (.t 4) (.c (.int .i64 0))), (.mv 6 (.t 5)), (.g 6 false (some 7) (.fa 7 (.t 1) 1)), (.g 6 false (some 8) (.ld 8 (.t 7) false 1)), (.g 6 false (some 9) (.call (some 9) (.c (.func 69 [] [])) [(.t 8), (.c (.int .i64 (-1))), (.c (.int .i64 31))])), (.g 6 false (some 10) (.not 10 (.t 9))), (.pick 11 (.t 6) (.c (.bool true)) (.t 10)), (.mv 12 (.t 11)), (.g 12 false (some 13) (.fa 13 (.t 1) 2)), (.g 12 false (some 14) (.ld 14 (.t 13) false 1)), (.g 12 false (some 15) (.call (some 15) (.c (.func 69 [] [])) [(.t 14), (.c (.int .i64 0)), (.c (.int .i64 3))])), (.g 12 false (some 16) (.not 16 (.t 15))), (.pick 17 (.t 12) (.c (.bool true)) (.t 16)), (.mv 18 (.t 17)), (.g 18 false (some 19) (.fa 19 (.t 1) 3)), (.g 18 false (some 20) (.ld 20 (.t 19) false 1)), (.g 18 false (some 21) (.call (some 21) (.c (.func 69 [] [])) [(.t 20), (.c (.int .i64 0)), (.c (.int .i64 1099511627776))])), (.g 18 false (some 22) (.not 22 (.t 21))), (.pick 23 (.t 18) (.c (.bool true)) (.t 22)), (.mv 24 (.t 23)), (.g 24 false (some 25) (.fa 25 (.t 1) 4)), (.g 24 false (some 26) (.ld 26 (.t 25) false 1)), (.g 24 false (some 27) (.call (some 27) (.c (.func 69 [] [])) [(.t 26), (.c (.int .i64 1)), (.c (.int .i64 4096))])), (.g 24 false (some 28) (.not 28 (.t 27))), (.pick 29 (.t 24) (.c (.bool true)) (.t 28))]) (.cond (.t 29) (.seq (.reg [(.mv 2 (.c (.int .i64 2)))]) .ret) .skip)) (.seq (.seq (.reg [(.fa 30 (.t 1) 5), (.ld 31 (.t 30) false 1), (.len 32 true (.t 31)), (.bin 33 .gtr (.t 32) (.c (.int .i64 127)))]) (.cond (.t 33) (.seq (.reg [(.mv 2 (.c (.int .i64 8)))]) .ret) .skip)) (.seq (.reg [(.mv 2 (.c (.int .i64 0)))]) .ret))))
theorem e265 : compC prog f34.ntmps (f34.body.getD .skip) = c265 := by kernel_rfl
def c187 : SC := (.seq (.reg [(.box 2 42 (.t 0)), (.mv 3 (.c (.bool false)))]) (.seq (.reg [(.fa 4 (.t 2) 0), (.ld 5 (.t 4) false 1), (.ld 6 (.t 1) false 1), (.bin 7 .eql (.t 5) (.t 6)), (.mv 3 (.t 7))]) .ret))
theorem e187 : compC prog f66.ntmps (f66.body.getD .skip) = c187 := by kernel_rfl
def c349 : SC := (.seq (.reg [(.box 2 42 (.t 0)), (.mv 3 (.c (.bool false)))]) (.seq (.reg [(.fa 4 (.t 2) 0), (.ld 5 (.t 4) false 1), (.ld 6 (.t 1) false 1), (.bin 7 .eql (.t 5) (.t 6)), (.mv 3 (.t 7))]) .ret))
theorem e349 : compC prog f70.ntmps (f70.body.getD .skip) = c349 := by kernel_rfl
def c408 : SC := (.seq (.reg [(.box 2 42 (.t 0)), (.mv 3 (.c (.bool false)))]) (.seq (.reg [(.fa 4 (.t 2) 1), (.ld 5 (.t 4) false 1), (.ld 6 (.t 1) false 1), (.bin 7 .eql (.t 5) (.t 6)), (.mv 3 (.t 7))]) .ret))
theorem e408 : compC prog f100.ntmps (f100.body.getD .skip) = c408 := by kernel_rfl
def c84 : SC := (.seq (.reg [(.box 2 31 (.t 0)), (.box 3 3 (.t 1)), (.mv 4 (.c (.bool false)))]) (.seq (.reg [(.fa 5 (.t 2) 1), (.ld 6 (.t 5) false 1), (.mkf 7 66 [] [(.t 3)]), (.call (some 8) (.c (.func 65 [] [])) [(.t 6), (.t 7)]), (.mv 4 (.t 8))]) .ret))
theorem e84 : compC prog f29.ntmps (f29.body.getD .skip) = c84 := by kernel_rfl
def c266 : SC := (.seq (.reg [(.box 2 31 (.t 0)), (.box 3 3 (.t 1)), (.mv 4 (.c (.int .i64 0)))]) (.seq (.reg [(.fa 5 (.t 2) 1), (.ld 6 (.t 5) false 1), (.mkf 7 70 [] [(.t 3)]), (.call (some 8) (.c (.func 37 [] [])) [(.t 6), (.t 7)]), (.mv 4 (.t 8))]) .ret))
theorem e266 : compC prog f35.ntmps (f35.body.getD .skip) = c266 := by kernel_rfl
def c365 : SC := (.seq (.reg [(.box 3 3 (.t 1)), (.mv 4 (.c (.int .i64 0)))]) (.seq (.reg [(.mv 5 (.t 0)), (.mkf 6 100 [] [(.t 3)]), (.call (some 7) (.c (.func 37 [] [])) [(.t 5), (.t 6)]), (.mv 4 (.t 7))]) .ret))
theorem e365 : compC prog f94.ntmps (f94.body.getD .skip) = c365 := by kernel_rfl
theorem c265_pf (p : Packet)  : ACalls prog 34 [.agg [.int .i64 p.id, .int .i64 p.to, .int .i64 p.pri, .int .i64 p.born, .int .i64 p.life, .str p.data]] [] (.int .i64 (pkErr p)) [] := by
  refine calls_of hmx func34 (by kernel_rfl) (c := f34.body.getD .skip) rfl e265 (rs := [(.t 2)]) (by kernel_rfl) (by simp [ntmps34]) ?_
  simp only [c265, argS]
  simp only [go_sem, seval]
  repeat' first | (refine Rt_pure ?_ rfl; simp only [retO, retO1, retOs, S, get_cons, Nat.reduceEqDiff, reduceIte, obj, getO_cons_zero, getO_cons_succ, List.getElem?_cons_zero, List.getElem?_cons_succ, List.drop_zero, List.drop_succ_cons, loadFrom_cell, loadFrom_agg, List.length_cons, List.length_nil, Nat.reduceAdd, Nat.reduceLeDiff, List.take_succ_cons, List.take_zero, List.take_nil]) | refine CX_pure c298_ok rfl rfl rfl rfl ?_ | refine GX_call (fun _ => c298_ok) (by rfl) (by intro h; simp only [h]; rfl) (by rfl) (by rfl) ?_ | (with_reducible intro h; try simp only [h]) | (with_reducible refine And.intro ?_ ?_) | (change chk _ _ = true; rfl) | simp only [go_sem, seval, Vc_bool] | refine (GX_split rfl).2 ?_
  all_goals simp only [AVal.int.injEq, true_and, Option.some.injEq]
  all_goals grind [pkErr]
theorem c265_ok {p_id : Int} {p_to : Int} {p_pri : Int} {p_born : Int} {p_life : Int} {p_data : ByteArray}  : ACalls prog 34 [.agg [.int .i64 p_id, .int .i64 p_to, .int .i64 p_pri, .int .i64 p_born, .int .i64 p_life, .str p_data]] [] (.int .i64 (pkErr (⟨p_id, p_to, p_pri, p_born, p_life, p_data⟩ : Packet))) [] := c265_pf (⟨p_id, p_to, p_pri, p_born, p_life, p_data⟩ : Packet) 

theorem pk_all (L : List Packet) : (∀ x ∈ L, (Packet.enc x).length = 6) ∧ ∀ m, ∀ x ∈ L, ltL m (Packet.enc x) = true := ⟨fun _ _ => rfl, fun _ _ _ => rfl⟩
theorem c187_ok {p : Packet} {id : Int} : ACalls prog 66 ([] ++ [.agg p.enc] ++ [.ptr 0 0 0 0]) [.cells 0 1 3 true [[.int .i64 id]]] (.bool (decide (p.id = id))) [.cells 0 1 3 true [[.int .i64 id]]] := by
  refine calls_of hmx func66 (by kernel_rfl) (c := f66.body.getD .skip) rfl e187 (rs := [(.t 3)]) (by kernel_rfl) (by simp [ntmps66]) ?_
  simp only [c187, argS, List.nil_append, List.singleton_append]
  simp only [go_sem, seval]
  refine Rt_T [_] ?_ rfl rfl (Nat.le_refl _)
  simp only [retO, retO1, retOs, S, get_cons, Nat.reduceEqDiff, reduceIte, obj, getO_cons_zero, getO_cons_succ, List.getElem?_cons_zero, List.getElem?_cons_succ, List.drop_zero, List.drop_succ_cons, loadFrom_cell, loadFrom_agg, List.length_cons, List.length_nil, Nat.reduceAdd, Nat.reduceLeDiff, List.take_succ_cons, List.take_zero, List.take_nil]
theorem c349_ok {p : Packet} {id : Int} : ACalls prog 70 ([] ++ [.agg p.enc] ++ [.ptr 0 0 0 0]) [.cells 0 1 3 true [[.int .i64 id]]] (.bool (decide (p.id = id))) [.cells 0 1 3 true [[.int .i64 id]]] := by
  refine calls_of hmx func70 (by kernel_rfl) (c := f70.body.getD .skip) rfl e349 (rs := [(.t 3)]) (by kernel_rfl) (by simp [ntmps70]) ?_
  simp only [c349, argS, List.nil_append, List.singleton_append]
  simp only [go_sem, seval]
  refine Rt_T [_] ?_ rfl rfl (Nat.le_refl _)
  simp only [retO, retO1, retOs, S, get_cons, Nat.reduceEqDiff, reduceIte, obj, getO_cons_zero, getO_cons_succ, List.getElem?_cons_zero, List.getElem?_cons_succ, List.drop_zero, List.drop_succ_cons, loadFrom_cell, loadFrom_agg, List.length_cons, List.length_nil, Nat.reduceAdd, Nat.reduceLeDiff, List.take_succ_cons, List.take_zero, List.take_nil]
theorem c408_ok {p : Packet} {to : Int} : ACalls prog 100 ([] ++ [.agg p.enc] ++ [.ptr 0 0 0 0]) [.cells 0 1 3 true [[.int .i64 to]]] (.bool (decide (p.to = to))) [.cells 0 1 3 true [[.int .i64 to]]] := by
  refine calls_of hmx func100 (by kernel_rfl) (c := f100.body.getD .skip) rfl e408 (rs := [(.t 3)]) (by kernel_rfl) (by simp [ntmps100]) ?_
  simp only [c408, argS, List.nil_append, List.singleton_append]
  simp only [go_sem, seval]
  refine Rt_T [_] ?_ rfl rfl (Nat.le_refl _)
  simp only [retO, retO1, retOs, S, get_cons, Nat.reduceEqDiff, reduceIte, obj, getO_cons_zero, getO_cons_succ, List.getElem?_cons_zero, List.getElem?_cons_succ, List.drop_zero, List.drop_succ_cons, loadFrom_cell, loadFrom_agg, List.length_cons, List.length_nil, Nat.reduceAdd, Nat.reduceLeDiff, List.take_succ_cons, List.take_zero, List.take_nil]
theorem c84_pf (q : Queue) (id : Int) (hL : q.pk.length < 2 ^ 62) : ACalls prog 29 [.agg [.int .i64 q.limit, .sl 6 (q.pk.map Packet.enc)], .int .i64 id] [] (.bool (hasId q.pk id)) [] := by
  refine calls_of hmx func29 (by kernel_rfl) (c := f29.body.getD .skip) rfl e84 (rs := [(.t 4)]) (by kernel_rfl) (by simp [ntmps29]) ?_
  simp only [c84, argS]
  simp only [go_sem, seval]
  refine CX_rd [1] (c186_has (caps := [.ptr 0 0 0 0]) (first := []) (g := 66) hL (pk_all _).1 ((pk_all _).2 _) (by rfl) (by rfl) (fun x _ => c187_ok (id := id))) (by rfl) (by rfl) (by rfl) (by rfl) (by rfl) (by decide) (by rfl) (by rfl) (by rfl) ?_
  simp only [go_sem, seval]
  (refine Rt_pure ?_ rfl; simp only [retO, retO1, retOs, S, get_cons, Nat.reduceEqDiff, reduceIte, obj, getO_cons_zero, getO_cons_succ, List.getElem?_cons_zero, List.getElem?_cons_succ, List.drop_zero, List.drop_succ_cons, loadFrom_cell, loadFrom_agg, List.length_cons, List.length_nil, Nat.reduceAdd, Nat.reduceLeDiff, List.take_succ_cons, List.take_zero, List.take_nil])
  rfl
theorem c84_ok {q_limit : Int} {q_pk : List Packet} {id : Int} (hL : q_pk.length < 2 ^ 62) : ACalls prog 29 [.agg [.int .i64 q_limit, .sl 6 (q_pk.map Packet.enc)], .int .i64 id] [] (.bool (hasId q_pk id)) [] := c84_pf (⟨q_limit, q_pk⟩ : Queue) id hL

theorem c266_pf (q : Queue) (id : Int) (hL : q.pk.length < 2 ^ 62) : ACalls prog 35 [.agg [.int .i64 q.limit, .sl 6 (q.pk.map Packet.enc)], .int .i64 id] [] (.int .i64 (pkIdx q.pk id)) [] := by
  refine calls_of hmx func35 (by kernel_rfl) (c := f35.body.getD .skip) rfl e266 (rs := [(.t 4)]) (by kernel_rfl) (by simp [ntmps35]) ?_
  simp only [c266, argS]
  simp only [go_sem, seval]
  refine CX_rd [1] (c206_idx (caps := [.ptr 0 0 0 0]) (first := []) (g := 70) hL (pk_all _).1 ((pk_all _).2 _) (by rfl) (by rfl) (fun x _ => c349_ok (id := id))) (by rfl) (by rfl) (by rfl) (by rfl) (by rfl) (by decide) (by rfl) (by rfl) (by rfl) ?_
  simp only [go_sem, seval]
  (refine Rt_pure ?_ rfl; simp only [retO, retO1, retOs, S, get_cons, Nat.reduceEqDiff, reduceIte, obj, getO_cons_zero, getO_cons_succ, List.getElem?_cons_zero, List.getElem?_cons_succ, List.drop_zero, List.drop_succ_cons, loadFrom_cell, loadFrom_agg, List.length_cons, List.length_nil, Nat.reduceAdd, Nat.reduceLeDiff, List.take_succ_cons, List.take_zero, List.take_nil])
  rfl
theorem c266_ok {q_limit : Int} {q_pk : List Packet} {id : Int} (hL : q_pk.length < 2 ^ 62) : ACalls prog 35 [.agg [.int .i64 q_limit, .sl 6 (q_pk.map Packet.enc)], .int .i64 id] [] (.int .i64 (pkIdx q_pk id)) [] := c266_pf (⟨q_limit, q_pk⟩ : Queue) id hL

theorem c365_ok {L : List Packet} {to : Int} (hL : L.length < 2 ^ 62) : ACalls prog 94 [.sl 6 (L.map Packet.enc), .int .i64 to] [] (.int .i64 (idxFrom (fun p => decide (p.to = to)) 0 L)) [] := by
  refine calls_of hmx func94 (by kernel_rfl) (c := f94.body.getD .skip) rfl e365 (rs := [(.t 4)]) (by kernel_rfl) (by simp [ntmps94]) ?_
  simp only [c365, argS]
  simp only [go_sem, seval]
  refine CX_rd [0] (c206_idx (caps := [.ptr 0 0 0 0]) (first := []) (g := 100) hL (pk_all _).1 ((pk_all _).2 _) (by rfl) (by rfl) (fun x _ => c408_ok (to := to))) (by rfl) (by rfl) (by rfl) (by rfl) (by rfl) (by decide) (by rfl) (by rfl) (by rfl) ?_
  simp only [go_sem, seval]
  (refine Rt_pure ?_ rfl; simp only [retO, retO1, retOs, S, get_cons, Nat.reduceEqDiff, reduceIte, obj, getO_cons_zero, getO_cons_succ, List.getElem?_cons_zero, List.getElem?_cons_succ, List.drop_zero, List.drop_succ_cons, loadFrom_cell, loadFrom_agg, List.length_cons, List.length_nil, Nat.reduceAdd, Nat.reduceLeDiff, List.take_succ_cons, List.take_zero, List.take_nil])

def c258L1 : SC := (.seq (.reg [(.bin 8 .lss (.t 7) (.t 6))]) (.seq (.cond (.t 8) .skip (.exit 0)) (.seq (.block 1 (.seq (.reg [(.mv 9 (.t 7)), (.ia 10 (.t 5) (.t 7) 1), (.ld 11 (.t 10) false 1), (.mv 3 (.t 9)), (.mv 4 (.t 11))]) (.seq (.reg [(.mv 12 (.t 4)), (.call (some 13) (.c (.func 26 [] [])) [(.t 12), (.c (.int .i64 31))]), (.not 14 (.t 13)), (.mv 15 (.t 14)), (.g 15 false (some 16) (.mv 16 (.t 3))), (.g 15 false (some 17) (.bin 17 .gtr (.t 16) (.c (.int .i64 0)))), (.g 15 false (some 18) (.mv 18 (.t 17))), (.g 18 true (some 19) (.mv 19 (.t 0))), (.g 18 true (some 20) (.mv 20 (.t 3))), (.g 18 true (some 21) (.bin 21 .sub (.t 20) (.c (.int .i64 1)))), (.g 18 true (some 22) (.ia 22 (.t 19) (.t 21) 1)), (.g 18 true (some 23) (.ld 23 (.t 22) false 1)), (.g 18 true (some 24) (.mv 24 (.t 4))), (.g 18 true (some 25) (.bin 25 .geq (.t 23) (.t 24))), (.g 15 false (some 26) (.pick 26 (.t 18) (.t 25) (.c (.bool false)))), (.pick 27 (.t 15) (.c (.bool true)) (.t 26))]) (.cond (.t 27) (.seq (.reg [(.mv 2 (.c (.bool false)))]) .ret) .skip)))) (.reg [(.bin 28 .add (.t 7) (.c (.int .i64 1))), (.mv 7 (.t 28))]))))
def c258 : SC := (.seq (.reg [(.mv 2 (.c (.bool false)))]) (.seq (.seq (.reg [(.mv 5 (.t 0)), (.len 6 false (.t 5)), (.mv 7 (.c (.int .i64 0)))]) (.block 0 (.loop c258L1))) (.seq (.reg [(.mv 2 (.c (.bool true)))]) .ret)))
theorem e258 : compC prog f91.ntmps (f91.body.getD .skip) = c258 := by kernel_rfl
def c148 : SC := (.seq (.reg [(.box 1 75 (.t 0)), (.mv 2 (.c (.bool false)))]) (.seq (.reg [(.fa 3 (.t 1) 0), (.ld 4 (.t 3) false 1), (.call (some 5) (.c (.func 26 [] [])) [(.t 4), (.c (.int .i64 255))]), (.mv 6 (.t 5)), (.g 6 true (some 7) (.fa 7 (.t 1) 1)), (.g 6 true (some 8) (.ld 8 (.t 7) false 1)), (.g 6 true (some 9) (.call (some 9) (.c (.func 26 [] [])) [(.t 8), (.c (.int .i64 65535))])), (.pick 10 (.t 6) (.t 9) (.c (.bool false))), (.mv 11 (.t 10)), (.g 11 true (some 12) (.fa 12 (.t 1) 2)), (.g 11 true (some 13) (.ld 13 (.t 12) false 1)), (.g 11 true (some 14) (.call (some 14) (.c (.func 26 [] [])) [(.t 13), (.c (.int .i64 109951162))])), (.pick 15 (.t 11) (.t 14) (.c (.bool false))), (.mv 16 (.t 15)), (.g 16 true (some 17) (.fa 17 (.t 1) 4)), (.g 16 true (some 18) (.ld 18 (.t 17) false 1)), (.g 16 true (some 19) (.call (some 19) (.c (.func 91 [] [])) [(.t 18)])), (.pick 20 (.t 16) (.t 19) (.c (.bool false))), (.mv 2 (.t 20))]) .ret))
theorem e148 : compC prog f68.ntmps (f68.body.getD .skip) = c148 := by kernel_rfl
def c87L1 : SC := (.seq (.reg [(.bin 8 .lss (.t 7) (.t 6))]) (.seq (.cond (.t 8) .skip (.exit 0)) (.seq (.block 1 (.seq (.reg [(.mv 9 (.t 7)), (.ia 10 (.t 5) (.t 7) 2), (.ld 11 (.t 10) true 2), (.alc 4 102 [(.int .i64 0), (.int .i64 0)]), (.mv 3 (.t 9)), (.st (.t 4) (.t 11) 2)]) (.seq (.regD [(.fa 12 (.t 4) 0), (.ld 13 (.t 12) false 1), (.call (some 14) (.c (.func 26 [] [])) [(.t 13), (.c (.int .i64 31))]), (.not 15 (.t 14)), (.mv 16 (.t 15)), (.g 16 false (some 17) (.fa 17 (.t 4) 1)), (.g 16 false (some 18) (.ld 18 (.t 17) false 1)), (.g 16 false (some 19) (.call (some 19) (.c (.func 26 [] [])) [(.t 18), (.c (.int .i64 255))])), (.g 16 false (some 20) (.not 20 (.t 19))), (.pick 21 (.t 16) (.c (.bool true)) (.t 20)), (.mv 22 (.t 21)), (.g 22 false (some 23) (.mv 23 (.t 3))), (.g 22 false (some 24) (.bin 24 .gtr (.t 23) (.c (.int .i64 0)))), (.g 22 false (some 25) (.mv 25 (.t 24))), (.g 25 true (some 26) (.mv 26 (.t 0))), (.g 25 true (some 27) (.mv 27 (.t 3))), (.g 25 true (some 28) (.bin 28 .sub (.t 27) (.c (.int .i64 1)))), (.g 25 true (some 29) (.ia 29 (.t 26) (.t 28) 2)), (.g 25 true (some 30) (.fa 30 (.t 29) 0)), (.g 25 true (some 31) (.ld 31 (.t 30) false 1)), (.g 25 true (some 32) (.fa 32 (.t 4) 0)), (.g 25 true (some 33) (.ld 33 (.t 32) false 1)), (.g 25 true (some 34) (.bin 34 .geq (.t 31) (.t 33))), (.g 22 false (some 35) (.pick 35 (.t 25) (.t 34) (.c (.bool false)))), (.pick 36 (.t 22) (.c (.bool true)) (.t 35))] []) (.cond (.t 36) (.seq (.reg [(.mv 2 (.c (.bool false)))]) .ret) .skip)))) (.reg [(.bin 37 .add (.t 7) (.c (.int .i64 1))), (.mv 7 (.t 37))]))))
def c87 : SC := (.seq (.reg [(.mv 2 (.c (.bool false)))]) (.seq (.seq (.reg [(.mv 5 (.t 0)), (.len 6 false (.t 5)), (.mv 7 (.c (.int .i64 0)))]) (.block 0 (.loop c87L1))) (.seq (.reg [(.mv 2 (.c (.bool true)))]) .ret)))
theorem e87 : compC prog f32.ntmps (f32.body.getD .skip) = c87 := by kernel_rfl
theorem l258 (l : List Int) (hL : (l).length < 2 ^ 62) (k' : List It) (hk : ∀ zs, V prog f91.ntmps 0 (Ret [(.t 2)] 0 (.bool true) []) k' zs []) : ∀ (rest done : List Int), l = done ++ rest →
    Lp prog f91.ntmps 0 (Ret [(.t 2)] 0 (.bool (chain (fun n => wi n 31) (fun a b => decide (a < b)) done.getLast? rest)) []) c258L1 (.blk 0 :: k') [(0, .sl 1 (l.map eI)), (5, .sl 1 (l.map eI)), (6, .int .i64 l.length), (7, .int .i64 done.length)] [] := by
  intro rest
  induction rest with
  | nil =>
    intro done hd
    refine Lp.of_eq hmx c258L1.eq_1 ?_
    have h1 := rg_end hd
    simp only [go_sem, seval, h1, List.length_map]
    exact hk _
  | cons c rest ih =>
    intro done hd
    refine Lp.of_eq hmx c258L1.eq_1 ?_
    obtain ⟨h1, h2, h3, h4⟩ := rg_hd eI hd hL
    have ih' := ih _ h4
    rw [List.getLast?_append, List.getLast?_singleton, Option.some_or] at ih'
    rcases List.eq_nil_or_concat done with h0 | ⟨ds, p, h0⟩
    · obtain ⟨p1, hp⟩ := rg_first' h0
      cases hw0 : (wi c 31)
      all_goals
        repeat' first | (refine Lp.bkE0 ih' (by rfl) ?_) | (refine Rt_pure ?_ rfl; simp only [retO, retO1, retOs, S, get_cons, Nat.reduceEqDiff, reduceIte, obj, getO_cons_zero, getO_cons_succ, List.getElem?_cons_zero, List.getElem?_cons_succ, List.drop_zero, List.drop_succ_cons, loadFrom_cell, loadFrom_agg, List.length_cons, List.length_nil, Nat.reduceAdd, Nat.reduceLeDiff, List.take_succ_cons, List.take_zero, List.take_nil]) | refine CX_pure c81_ok rfl rfl rfl rfl ?_ | refine GX_call (fun _ => c81_ok) (by rfl) (by intro h; simp only [h]; rfl) (by rfl) (by rfl) ?_ | (with_reducible intro h; try simp only [h]) | (with_reducible refine And.intro ?_ ?_) | (change chk _ _ = true; rfl) | simp only [go_sem, seval, Vc_bool, h1, h2, h3, Int.toNat_natCast, Int.natCast_nonneg, List.length_map, hw0, p1] | refine (GX_split rfl).2 ?_
        all_goals (clear hk ih ih' h1 h2 h3 h4 hd hL)
        all_goals clear p1 h0
        all_goals (simp only [hp, chain, hw0]; grind)
    · rw [List.concat_eq_append] at h0
      obtain ⟨p1, p2, p3, hp⟩ := rg_prev' eI hd h0 hL
      cases hw0 : (wi c 31)
      all_goals
        repeat' first | (refine Lp.bkE0 ih' (by rfl) ?_) | (refine Rt_pure ?_ rfl; simp only [retO, retO1, retOs, S, get_cons, Nat.reduceEqDiff, reduceIte, obj, getO_cons_zero, getO_cons_succ, List.getElem?_cons_zero, List.getElem?_cons_succ, List.drop_zero, List.drop_succ_cons, loadFrom_cell, loadFrom_agg, List.length_cons, List.length_nil, Nat.reduceAdd, Nat.reduceLeDiff, List.take_succ_cons, List.take_zero, List.take_nil]) | refine CX_pure c81_ok rfl rfl rfl rfl ?_ | refine GX_call (fun _ => c81_ok) (by rfl) (by intro h; simp only [h]; rfl) (by rfl) (by rfl) ?_ | (with_reducible intro h; try simp only [h]) | (with_reducible refine And.intro ?_ ?_) | (change chk _ _ = true; rfl) | simp only [go_sem, seval, Vc_bool, h1, h2, h3, Int.toNat_natCast, Int.natCast_nonneg, List.length_map, hw0, p1, p2, p3] | refine (GX_split rfl).2 ?_
        all_goals (clear hk ih ih' h1 h2 h3 h4 hd hL)
        all_goals clear p1 p2 p3 h0
        all_goals (simp only [hp, chain, hw0]; grind)

theorem c258_ok {l : List Int} (hL : l.length < 2 ^ 62) : ACalls prog 91 [.sl 1 (l.map eI)] [] (.bool (rising l)) [] := by
  refine calls_of hmx func91 (by kernel_rfl) (c := f91.body.getD .skip) rfl e258 (rs := [(.t 2)]) (by kernel_rfl) (by simp [ntmps91]) ?_
  simp only [c258, argS]
  simp only [go_sem, seval, List.length_map]
  refine Lp.bkE0 (l258 l hL _ (fun s => ?_) l [] rfl) (by rfl) ?_
  · simp only [go_sem, seval]
    (refine Rt_pure ?_ rfl; simp only [retO, retO1, retOs, S, get_cons, Nat.reduceEqDiff, reduceIte, obj, getO_cons_zero, getO_cons_succ, List.getElem?_cons_zero, List.getElem?_cons_succ, List.drop_zero, List.drop_succ_cons, loadFrom_cell, loadFrom_agg, List.length_cons, List.length_nil, Nat.reduceAdd, Nat.reduceLeDiff, List.take_succ_cons, List.take_zero, List.take_nil])
  · rfl
theorem c148_pf (h : Held) (hL : h.acked.length < 2 ^ 62) : ACalls prog 68 [.agg [.int .i64 h.flow, .int .i64 h.frame, .int .i64 h.upto, .str h.data, .sl 1 (h.acked.map eI)]] [] (.bool (hRange h)) [] := by
  refine calls_of hmx func68 (by kernel_rfl) (c := f68.body.getD .skip) rfl e148 (rs := [(.t 2)]) (by kernel_rfl) (by simp [ntmps68]) ?_
  simp only [c148, argS]
  cases h1 : wi h.flow 255 <;> cases h2 : wi h.frame 65535 <;> cases h3 : wi h.upto 109951162
  all_goals
    simp only [go_sem, seval]
    repeat' first | refine CX_pure c81_ok rfl rfl rfl rfl ?_ | refine CX_pure (c258_ok hL) rfl rfl rfl rfl ?_ | (refine Rt_pure ?_ rfl; simp only [retO, retO1, retOs, S, get_cons, Nat.reduceEqDiff, reduceIte, obj, getO_cons_zero, getO_cons_succ, List.getElem?_cons_zero, List.getElem?_cons_succ, List.drop_zero, List.drop_succ_cons, loadFrom_cell, loadFrom_agg, List.length_cons, List.length_nil, Nat.reduceAdd, Nat.reduceLeDiff, List.take_succ_cons, List.take_zero, List.take_nil]) | simp only [go_sem, seval, h1, h2, h3]
    simp [hRange, h1, h2, h3]
theorem c148_ok {h_flow : Int} {h_frame : Int} {h_upto : Int} {h_data : ByteArray} {h_acked : List Int} (hL : h_acked.length < 2 ^ 62) : ACalls prog 68 [.agg [.int .i64 h_flow, .int .i64 h_frame, .int .i64 h_upto, .str h_data, .sl 1 (h_acked.map eI)]] [] (.bool (hRange (⟨h_flow, h_frame, h_upto, h_data, h_acked⟩ : Held))) [] := c148_pf (⟨h_flow, h_frame, h_upto, h_data, h_acked⟩ : Held) hL

theorem l87 (l : List Seen) (hL : (l).length < 2 ^ 62) (k' : List It) (hk : ∀ zs, V prog f32.ntmps 0 (Ret [(.t 2)] 0 (.bool true) []) k' zs []) : ∀ (rest done : List Seen), l = done ++ rest →
    Lp prog f32.ntmps 0 (Ret [(.t 2)] 0 (.bool (chain (fun x => wi x.node 31 && wi x.seq 255) (fun a b => decide (a.node < b.node)) done.getLast? rest)) []) c87L1 (.blk 0 :: k') [(0, .sl 2 (l.map Seen.enc)), (5, .sl 2 (l.map Seen.enc)), (6, .int .i64 l.length), (7, .int .i64 done.length)] [] := by
  intro rest
  induction rest with
  | nil =>
    intro done hd
    refine Lp.of_eq hmx c87L1.eq_1 ?_
    have h1 := rg_end hd
    simp only [go_sem, seval, h1, List.length_map]
    exact hk _
  | cons c rest ih =>
    intro done hd
    refine Lp.of_eq hmx c87L1.eq_1 ?_
    obtain ⟨h1, h2, h3, h4⟩ := rg_hd Seen.enc hd hL
    have ih' := ih _ h4
    rw [List.getLast?_append, List.getLast?_singleton, Option.some_or] at ih'
    rcases List.eq_nil_or_concat done with h0 | ⟨ds, p, h0⟩
    · obtain ⟨p1, hp⟩ := rg_first' h0
      cases hw0 : (wi c.node 31) <;> cases hw1 : (wi c.seq 255)
      all_goals
        repeat' first | (refine Lp.bkE [_] ih' (by rfl) (by rfl) (by rfl) (Nat.zero_le _) ?_) | (refine Rt_pure ?_ rfl; simp only [retO, retO1, retOs, S, get_cons, Nat.reduceEqDiff, reduceIte, obj, getO_cons_zero, getO_cons_succ, List.getElem?_cons_zero, List.getElem?_cons_succ, List.drop_zero, List.drop_succ_cons, loadFrom_cell, loadFrom_agg, List.length_cons, List.length_nil, Nat.reduceAdd, Nat.reduceLeDiff, List.take_succ_cons, List.take_zero, List.take_nil]) | refine CX_pure c81_ok rfl rfl rfl rfl ?_ | refine GX_call (fun _ => c81_ok) (by rfl) (by intro h; simp only [h]; rfl) (by rfl) (by rfl) ?_ | (with_reducible intro h; try simp only [h]) | (with_reducible refine And.intro ?_ ?_) | (change chk _ _ = true; rfl) | simp only [go_sem, seval, Vc_bool, h1, h2, h3, Int.toNat_natCast, Int.natCast_nonneg, List.length_map, hw0, hw1, p1] | refine (GX_split rfl).2 ?_
        all_goals (clear hk ih ih' h1 h2 h3 h4 hd hL)
        all_goals clear p1 h0
        all_goals (simp only [hp, chain, hw0, hw1]; grind)
    · rw [List.concat_eq_append] at h0
      obtain ⟨p1, p2, p3, hp⟩ := rg_prev' Seen.enc hd h0 hL
      cases hw0 : (wi c.node 31) <;> cases hw1 : (wi c.seq 255)
      all_goals
        repeat' first | (refine Lp.bkE [_] ih' (by rfl) (by rfl) (by rfl) (Nat.zero_le _) ?_) | (refine Rt_pure ?_ rfl; simp only [retO, retO1, retOs, S, get_cons, Nat.reduceEqDiff, reduceIte, obj, getO_cons_zero, getO_cons_succ, List.getElem?_cons_zero, List.getElem?_cons_succ, List.drop_zero, List.drop_succ_cons, loadFrom_cell, loadFrom_agg, List.length_cons, List.length_nil, Nat.reduceAdd, Nat.reduceLeDiff, List.take_succ_cons, List.take_zero, List.take_nil]) | refine CX_pure c81_ok rfl rfl rfl rfl ?_ | refine GX_call (fun _ => c81_ok) (by rfl) (by intro h; simp only [h]; rfl) (by rfl) (by rfl) ?_ | (with_reducible intro h; try simp only [h]) | (with_reducible refine And.intro ?_ ?_) | (change chk _ _ = true; rfl) | simp only [go_sem, seval, Vc_bool, h1, h2, h3, Int.toNat_natCast, Int.natCast_nonneg, List.length_map, hw0, hw1, p1, p2, p3] | refine (GX_split rfl).2 ?_
        all_goals (clear hk ih ih' h1 h2 h3 h4 hd hL)
        all_goals clear p1 p2 p3 h0
        all_goals (simp only [hp, chain, hw0, hw1]; grind)

theorem c87_ok {l : List Seen} (hL : l.length < 2 ^ 62) : ACalls prog 32 [.sl 2 (l.map Seen.enc)] [] (.bool (seenOk l)) [] := by
  refine calls_of hmx func32 (by kernel_rfl) (c := f32.body.getD .skip) rfl e87 (rs := [(.t 2)]) (by kernel_rfl) (by simp [ntmps32]) ?_
  simp only [c87, argS]
  simp only [go_sem, seval, List.length_map]
  refine Lp.bkE0 (l87 l hL _ (fun s => ?_) l [] rfl) (by rfl) ?_
  · simp only [go_sem, seval]
    (refine Rt_pure ?_ rfl; simp only [retO, retO1, retOs, S, get_cons, Nat.reduceEqDiff, reduceIte, obj, getO_cons_zero, getO_cons_succ, List.getElem?_cons_zero, List.getElem?_cons_succ, List.drop_zero, List.drop_succ_cons, loadFrom_cell, loadFrom_agg, List.length_cons, List.length_nil, Nat.reduceAdd, Nat.reduceLeDiff, List.take_succ_cons, List.take_zero, List.take_nil])
  · rfl

def c86L1 : SC := (.seq (.reg [(.bin 8 .lss (.t 7) (.t 6))]) (.seq (.cond (.t 8) .skip (.exit 0)) (.seq (.block 1 (.seq (.reg [(.mv 9 (.t 7)), (.ia 10 (.t 5) (.t 7) 5), (.ld 11 (.t 10) true 5), (.alc 4 75 [(.int .i64 0), (.int .i64 0), (.int .i64 0), (.str (ByteArray.mk #[])), .nil]), (.mv 3 (.t 9)), (.st (.t 4) (.t 11) 5)]) (.seq (.regD [(.ld 12 (.t 4) true 5), (.call (some 13) (.c (.func 68 [] [])) [(.t 12)]), (.not 14 (.t 13)), (.mv 15 (.t 14)), (.g 15 false (some 16) (.fa 16 (.t 4) 3)), (.g 15 false (some 17) (.ld 17 (.t 16) false 1)), (.g 15 false (some 18) (.len 18 true (.t 17))), (.g 15 false (some 19) (.bin 19 .gtr (.t 18) (.c (.int .i64 100)))), (.pick 20 (.t 15) (.c (.bool true)) (.t 19)), (.mv 21 (.t 20)), (.g 21 false (some 22) (.mv 22 (.t 3))), (.g 21 false (some 23) (.bin 23 .gtr (.t 22) (.c (.int .i64 0)))), (.g 21 false (some 24) (.mv 24 (.t 23))), (.g 24 true (some 25) (.mv 25 (.t 0))), (.g 24 true (some 26) (.mv 26 (.t 3))), (.g 24 true (some 27) (.bin 27 .sub (.t 26) (.c (.int .i64 1)))), (.g 24 true (some 28) (.ia 28 (.t 25) (.t 27) 5)), (.g 24 true (some 29) (.fa 29 (.t 28) 0)), (.g 24 true (some 30) (.ld 30 (.t 29) false 1)), (.g 24 true (some 31) (.fa 31 (.t 4) 0)), (.g 24 true (some 32) (.ld 32 (.t 31) false 1)), (.g 24 true (some 33) (.bin 33 .geq (.t 30) (.t 32))), (.g 21 false (some 34) (.pick 34 (.t 24) (.t 33) (.c (.bool false)))), (.pick 35 (.t 21) (.c (.bool true)) (.t 34))] []) (.cond (.t 35) (.seq (.reg [(.mv 2 (.c (.bool false)))]) .ret) .skip)))) (.reg [(.bin 36 .add (.t 7) (.c (.int .i64 1))), (.mv 7 (.t 36))]))))
def c86 : SC := (.seq (.reg [(.mv 2 (.c (.bool false)))]) (.seq (.seq (.reg [(.mv 5 (.t 0)), (.len 6 false (.t 5)), (.mv 7 (.c (.int .i64 0)))]) (.block 0 (.loop c86L1))) (.seq (.reg [(.mv 37 (.t 0)), (.len 38 false (.t 37)), (.bin 39 .leq (.t 38) (.c (.int .i64 16))), (.mv 2 (.t 39))]) .ret)))
theorem e86 : compC prog f31.ntmps (f31.body.getD .skip) = c86 := by kernel_rfl
theorem l86 (l : List Held) (hA : ∀ x ∈ l, x.acked.length < 2 ^ 62) (hL : (l).length < 2 ^ 62) (k' : List It) (hk : ∀ zs, get zs 0 = .sl 5 (l.map Held.enc) → V prog f31.ntmps 0 (Ret [(.t 2)] 0 (.bool (decide ((l.length : Int) ≤ 16))) []) k' zs []) : ∀ (rest done : List Held), l = done ++ rest →
    Lp prog f31.ntmps 0 (Ret [(.t 2)] 0 (.bool (chain hOk (fun a b => decide (a.flow < b.flow)) done.getLast? rest && decide ((l.length : Int) ≤ 16))) []) c86L1 (.blk 0 :: k') [(0, .sl 5 (l.map Held.enc)), (5, .sl 5 (l.map Held.enc)), (6, .int .i64 l.length), (7, .int .i64 done.length)] [] := by
  intro rest
  induction rest with
  | nil =>
    intro done hd
    refine Lp.of_eq hmx c86L1.eq_1 ?_
    have h1 := rg_end hd
    simp only [go_sem, seval, h1, List.length_map]
    exact hk _ (by rfl)
  | cons c rest ih =>
    intro done hd
    refine Lp.of_eq hmx c86L1.eq_1 ?_
    obtain ⟨h1, h2, h3, h4⟩ := rg_hd Held.enc hd hL
    have ih' := ih _ h4
    rw [List.getLast?_append, List.getLast?_singleton, Option.some_or] at ih'
    have hAc := hA c (by rw [hd]; simp)
    rcases List.eq_nil_or_concat done with h0 | ⟨ds, p, h0⟩
    · obtain ⟨p1, hp⟩ := rg_first' h0
      cases hw0 : (hRange c) <;> cases hw1 : (decide (100 < (c.data.size : Int)))
      all_goals
        repeat' first | (refine Lp.bkE [_] ih' (by rfl) (by rfl) (by rfl) (Nat.zero_le _) ?_) | (refine Rt_pure ?_ rfl; simp only [retO, retO1, retOs, S, get_cons, Nat.reduceEqDiff, reduceIte, obj, getO_cons_zero, getO_cons_succ, List.getElem?_cons_zero, List.getElem?_cons_succ, List.drop_zero, List.drop_succ_cons, loadFrom_cell, loadFrom_agg, List.length_cons, List.length_nil, Nat.reduceAdd, Nat.reduceLeDiff, List.take_succ_cons, List.take_zero, List.take_nil]) | refine CX_pure (c148_ok hAc) rfl rfl rfl rfl ?_ | refine GX_call (fun _ => (c148_ok hAc)) (by rfl) (by intro h; simp only [h]; rfl) (by rfl) (by rfl) ?_ | (with_reducible intro h; try simp only [h]) | (with_reducible refine And.intro ?_ ?_) | (change chk _ _ = true; rfl) | simp only [go_sem, seval, Vc_bool, h1, h2, h3, Int.toNat_natCast, Int.natCast_nonneg, List.length_map, hw0, hw1, p1] | refine (GX_split rfl).2 ?_
        all_goals (clear hk ih ih' h1 h2 h3 h4 hd hL hA hAc)
        all_goals clear p1 h0
        all_goals (simp only [hp, chain, hOk, hw0]; simp only [decide_eq_true_eq, decide_eq_false_iff_not] at hw1; grind)
    · rw [List.concat_eq_append] at h0
      obtain ⟨p1, p2, p3, hp⟩ := rg_prev' Held.enc hd h0 hL
      cases hw0 : (hRange c) <;> cases hw1 : (decide (100 < (c.data.size : Int)))
      all_goals
        repeat' first | (refine Lp.bkE [_] ih' (by rfl) (by rfl) (by rfl) (Nat.zero_le _) ?_) | (refine Rt_pure ?_ rfl; simp only [retO, retO1, retOs, S, get_cons, Nat.reduceEqDiff, reduceIte, obj, getO_cons_zero, getO_cons_succ, List.getElem?_cons_zero, List.getElem?_cons_succ, List.drop_zero, List.drop_succ_cons, loadFrom_cell, loadFrom_agg, List.length_cons, List.length_nil, Nat.reduceAdd, Nat.reduceLeDiff, List.take_succ_cons, List.take_zero, List.take_nil]) | refine CX_pure (c148_ok hAc) rfl rfl rfl rfl ?_ | refine GX_call (fun _ => (c148_ok hAc)) (by rfl) (by intro h; simp only [h]; rfl) (by rfl) (by rfl) ?_ | (with_reducible intro h; try simp only [h]) | (with_reducible refine And.intro ?_ ?_) | (change chk _ _ = true; rfl) | simp only [go_sem, seval, Vc_bool, h1, h2, h3, Int.toNat_natCast, Int.natCast_nonneg, List.length_map, hw0, hw1, p1, p2, p3] | refine (GX_split rfl).2 ?_
        all_goals (clear hk ih ih' h1 h2 h3 h4 hd hL hA hAc)
        all_goals clear p1 p2 p3 h0
        all_goals (simp only [hp, chain, hOk, hw0]; simp only [decide_eq_true_eq, decide_eq_false_iff_not] at hw1; grind)

theorem c86_ok {l : List Held} (hL : l.length < 2 ^ 62) (hA : ∀ x ∈ l, x.acked.length < 2 ^ 62) : ACalls prog 31 [.sl 5 (l.map Held.enc)] [] (.bool (heldOk l)) [] := by
  refine calls_of hmx func31 (by kernel_rfl) (c := f31.body.getD .skip) rfl e86 (rs := [(.t 2)]) (by kernel_rfl) (by simp [ntmps31]) ?_
  simp only [c86, argS]
  simp only [go_sem, seval, List.length_map]
  refine Lp.bkE0 (l86 l hA hL _ (fun s h => ?_) l [] rfl) (by rfl) ?_
  · simp only [go_sem, seval, h, List.length_map]
    (refine Rt_pure ?_ rfl; simp only [retO, retO1, retOs, S, get_cons, Nat.reduceEqDiff, reduceIte, obj, getO_cons_zero, getO_cons_succ, List.getElem?_cons_zero, List.getElem?_cons_succ, List.drop_zero, List.drop_succ_cons, loadFrom_cell, loadFrom_agg, List.length_cons, List.length_nil, Nat.reduceAdd, Nat.reduceLeDiff, List.take_succ_cons, List.take_zero, List.take_nil])
  · rfl
def c188L1 : SC := (.seq (.reg [(.bin 22 .lss (.t 21) (.t 20))]) (.seq (.cond (.t 22) .skip (.exit 0)) (.seq (.block 1 (.seq (.reg [(.mv 23 (.t 21)), (.ia 24 (.t 19) (.t 21) 6), (.ld 25 (.t 24) true 6), (.alc 5 42 [(.int .i64 0), (.int .i64 0), (.int .i64 0), (.int .i64 0), (.int .i64 0), (.str (ByteArray.mk #[]))]), (.mv 4 (.t 23)), (.st (.t 5) (.t 25) 6)]) (.seq (.seq (.reg [(.ld 26 (.t 5) true 6), (.call (some 27) (.c (.func 34 [] [])) [(.t 26)]), (.mv 6 (.t 27))]) (.seq (.reg [(.mv 28 (.t 6)), (.bin 29 .neq (.t 28) (.c (.int .i64 0)))]) (.cond (.t 29) (.seq (.reg [(.mv 30 (.t 6)), (.mv 2 (.t 30))]) .ret) .skip))) (.seq (.seq (.reg [(.mv 31 (.t 3)), (.fa 32 (.t 5) 0), (.ld 33 (.t 32) false 1), (.mgt 34 (.t 31) (.t 33) (.bool false) false)]) (.cond (.t 34) (.seq (.reg [(.mv 2 (.c (.int .i64 6)))]) .ret) .skip)) (.seq (.seq (.regD [(.mv 35 (.t 4)), (.bin 36 .gtr (.t 35) (.c (.int .i64 0))), (.mv 37 (.t 36)), (.g 37 true (some 38) (.fa 38 (.t 1) 1)), (.g 37 true (some 39) (.ld 39 (.t 38) false 1)), (.g 37 true (some 40) (.mv 40 (.t 4))), (.g 37 true (some 41) (.bin 41 .sub (.t 40) (.c (.int .i64 1)))), (.g 37 true (some 42) (.ia 42 (.t 39) (.t 41) 6)), (.g 37 true (some 43) (.fa 43 (.t 42) 2)), (.g 37 true (some 44) (.ld 44 (.t 43) false 1)), (.g 37 true (some 45) (.fa 45 (.t 5) 2)), (.g 37 true (some 46) (.ld 46 (.t 45) false 1)), (.g 37 true (some 47) (.bin 47 .gtr (.t 44) (.t 46))), (.pick 48 (.t 37) (.t 47) (.c (.bool false)))] []) (.cond (.t 48) (.seq (.reg [(.mv 2 (.c (.int .i64 5)))]) .ret) .skip)) (.reg [(.mv 49 (.t 3)), (.fa 50 (.t 5) 0), (.ld 51 (.t 50) false 1), (.mst (.t 49) (.t 51) (.c (.bool true)))])))))) (.reg [(.bin 52 .add (.t 21) (.c (.int .i64 1))), (.mv 21 (.t 52))]))))
def c188 : SC := (.seq (.reg [(.box 1 31 (.t 0)), (.mv 2 (.c (.int .i64 0)))]) (.seq (.seq (.reg [(.fa 7 (.t 1) 0), (.ld 8 (.t 7) false 1), (.call (some 9) (.c (.func 69 [] [])) [(.t 8), (.c (.int .i64 1)), (.c (.int .i64 64))]), (.not 10 (.t 9))]) (.cond (.t 10) (.seq (.reg [(.mv 2 (.c (.int .i64 2)))]) .ret) .skip)) (.seq (.seq (.reg [(.fa 11 (.t 1) 1), (.ld 12 (.t 11) false 1), (.len 13 false (.t 12)), (.fa 14 (.t 1) 0), (.ld 15 (.t 14) false 1), (.bin 16 .gtr (.t 13) (.t 15))]) (.cond (.t 16) (.seq (.reg [(.mv 2 (.c (.int .i64 8)))]) .ret) .skip)) (.seq (.reg [(.mkm 17), (.mv 3 (.t 17))]) (.seq (.seq (.reg [(.fa 18 (.t 1) 1), (.ld 19 (.t 18) false 1), (.len 20 false (.t 19)), (.mv 21 (.c (.int .i64 0)))]) (.block 0 (.loop c188L1))) (.seq (.reg [(.mv 2 (.c (.int .i64 0)))]) .ret))))))
theorem e188 : compC prog f33.ntmps (f33.body.getD .skip) = c188 := by kernel_rfl
def c85 : SC := (.seq (.reg [(.box 1 35 (.t 0)), (.mv 2 (.c (.bool false)))]) (.seq (.reg [(.fa 3 (.t 1) 3), (.ld 4 (.t 3) true 2), (.call (some 5) (.c (.func 33 [] [])) [(.t 4)]), (.bin 6 .eql (.t 5) (.c (.int .i64 0))), (.mv 7 (.t 6)), (.g 7 true (some 8) (.fa 8 (.t 1) 3)), (.g 7 true (some 9) (.fa 9 (.t 8) 1)), (.g 7 true (some 10) (.ld 10 (.t 9) false 1)), (.g 7 true (some 11) (.mkf 11 67 [] [(.t 1)])), (.g 7 true (some 12) (.call (some 12) (.c (.func 65 [] [])) [(.t 10), (.t 11)])), (.g 7 true (some 13) (.not 13 (.t 12))), (.pick 14 (.t 7) (.t 13) (.c (.bool false))), (.mv 2 (.t 14))]) .ret))
theorem e85 : compC prog f30.ntmps (f30.body.getD .skip) = c85 := by kernel_rfl
def c189 : SC := (.seq (.reg [(.box 2 42 (.t 0)), (.mv 3 (.c (.bool false)))]) (.seq (.reg [(.fa 4 (.t 2) 1), (.ld 5 (.t 4) false 1), (.fa 6 (.t 1) 0), (.fa 7 (.t 6) 0), (.ld 8 (.t 7) false 1), (.bin 9 .eql (.t 5) (.t 8)), (.mv 10 (.t 9)), (.g 10 false (some 11) (.fa 11 (.t 2) 5)), (.g 10 false (some 12) (.ld 12 (.t 11) false 1)), (.g 10 false (some 13) (.len 13 true (.t 12))), (.g 10 false (some 14) (.bin 14 .gtr (.t 13) (.c (.int .i64 100)))), (.pick 15 (.t 10) (.c (.bool true)) (.t 14)), (.mv 3 (.t 15))]) .ret))
theorem e189 : compC prog f67.ntmps (f67.body.getD .skip) = c189 := by kernel_rfl
theorem l188 (q : Queue) (hL : (q.pk).length < 2 ^ 62) (k' : List It) (hk : ∀ zs, V prog f33.ntmps 0 (Ret [(.t 2)] 0 (.int .i64 0) []) k' zs [.cells 0 2 31 true [q.enc], .map (q.pk.map fun p => (p.id, .bool true))]) : ∀ (rest done : List Packet), q.pk = done ++ rest →
    Lp prog f33.ntmps 0 (Ret [(.t 2)] 0 (.int .i64 (qck done rest)) []) c188L1 (.blk 0 :: k') [(1, .ptr 0 0 0 0), (3, .map 1), (19, .sl 6 (q.pk.map Packet.enc)), (20, .int .i64 q.pk.length), (21, .int .i64 done.length)] [.cells 0 2 31 true [q.enc], .map (done.map fun p => (p.id, .bool true))] := by
  intro rest
  induction rest with
  | nil =>
    intro done hd
    obtain rfl : done = q.pk := by simpa using hd.symm
    refine Lp.of_eq hmx c188L1.eq_1 ?_
    have h1 := rg_end hd
    simp only [go_sem, seval, h1, List.length_map]
    exact hk _
  | cons c rest ih =>
    intro done hd
    refine Lp.of_eq hmx c188L1.eq_1 ?_
    obtain ⟨h1, h2, h3, h4⟩ := rg_hd Packet.enc hd hL
    have ih' := ih _ h4
    simp only [List.map_append, List.map_cons, List.map_nil] at ih'
    rcases List.eq_nil_or_concat done with h0 | ⟨ds, p, h0⟩
    · obtain ⟨p1, hp⟩ := rg_first' h0
      cases hw0 : (done.any fun x => decide (x.id = c.id))
      all_goals
        repeat' first | (refine Lp.bkE [_] ih' (by rfl) (by rfl) (by simp [ltO, ltv, ltL, Queue.enc]) (Nat.zero_le _) ?_) | (refine Rt_pure ?_ rfl; simp only [retO, retO1, retOs, S, get_cons, Nat.reduceEqDiff, reduceIte, obj, getO_cons_zero, getO_cons_succ, List.getElem?_cons_zero, List.getElem?_cons_succ, List.drop_zero, List.drop_succ_cons, loadFrom_cell, loadFrom_agg, List.length_cons, List.length_nil, Nat.reduceAdd, Nat.reduceLeDiff, List.take_succ_cons, List.take_zero, List.take_nil]) | refine CX_pure c265_ok rfl rfl rfl rfl ?_ | refine GX_call (fun _ => c265_ok) (by rfl) (by intro h; simp only [h]; rfl) (by rfl) (by rfl) ?_ | (with_reducible intro h; try simp only [h]) | (with_reducible refine And.intro ?_ ?_) | (change chk _ _ = true; rfl) | simp only [go_sem, seval, Vc_bool, h1, h2, h3, Int.toNat_natCast, Int.natCast_nonneg, List.length_map, set_at, set_set, hw0, p1] | refine (GX_split rfl).2 ?_
        all_goals (clear hk ih ih' h1 h2 h3 h4 hd hL)
        all_goals clear p1 h0
        all_goals (simp only [hp, qck, hw0]; grind)
    · rw [List.concat_eq_append] at h0
      obtain ⟨p1, p2, p3, hp⟩ := rg_prev' Packet.enc hd h0 hL
      cases hw0 : (done.any fun x => decide (x.id = c.id))
      all_goals
        repeat' first | (refine Lp.bkE [_] ih' (by rfl) (by rfl) (by simp [ltO, ltv, ltL, Queue.enc]) (Nat.zero_le _) ?_) | (refine Rt_pure ?_ rfl; simp only [retO, retO1, retOs, S, get_cons, Nat.reduceEqDiff, reduceIte, obj, getO_cons_zero, getO_cons_succ, List.getElem?_cons_zero, List.getElem?_cons_succ, List.drop_zero, List.drop_succ_cons, loadFrom_cell, loadFrom_agg, List.length_cons, List.length_nil, Nat.reduceAdd, Nat.reduceLeDiff, List.take_succ_cons, List.take_zero, List.take_nil]) | refine CX_pure c265_ok rfl rfl rfl rfl ?_ | refine GX_call (fun _ => c265_ok) (by rfl) (by intro h; simp only [h]; rfl) (by rfl) (by rfl) ?_ | (with_reducible intro h; try simp only [h]) | (with_reducible refine And.intro ?_ ?_) | (change chk _ _ = true; rfl) | simp only [go_sem, seval, Vc_bool, h1, h2, h3, Int.toNat_natCast, Int.natCast_nonneg, List.length_map, set_at, set_set, hw0, p1, p2, p3] | refine (GX_split rfl).2 ?_
        all_goals (clear hk ih ih' h1 h2 h3 h4 hd hL)
        all_goals clear p1 p2 p3 h0
        all_goals (simp only [hp, qck, hw0]; grind)


def c22 : SC := (.seq (.reg [(.box 1 35 (.t 0)), (.mv 2 (.c (.int .i64 0)))]) (.seq (.reg [(.fa 4 (.t 1) 9), (.ld 5 (.t 4) false 1), (.bin 6 .eql (.t 5) (.c (.int .i64 (-1)))), (.mv 7 (.t 6)), (.g 7 true (some 8) (.fa 8 (.t 1) 10)), (.g 7 true (some 9) (.ld 9 (.t 8) false 1)), (.g 7 true (some 10) (.bin 10 .eql (.t 9) (.c (.int .i64 0)))), (.pick 11 (.t 7) (.t 10) (.c (.bool false))), (.mv 12 (.t 11)), (.g 12 false (some 13) (.fa 13 (.t 1) 9)), (.g 12 false (some 14) (.ld 14 (.t 13) false 1)), (.g 12 false (some 15) (.bin 15 .geq (.t 14) (.c (.int .i64 0)))), (.g 12 false (some 16) (.mv 16 (.t 15))), (.g 16 true (some 17) (.fa 17 (.t 1) 3)), (.g 16 true (some 18) (.ld 18 (.t 17) true 2)), (.g 16 true (some 19) (.fa 19 (.t 1) 9)), (.g 16 true (some 20) (.ld 20 (.t 19) false 1)), (.g 16 true (some 21) (.call (some 21) (.c (.func 29 [] [])) [(.t 18), (.t 20)])), (.g 12 false (some 22) (.pick 22 (.t 16) (.t 21) (.c (.bool false)))), (.g 12 false (some 23) (.mv 23 (.t 22))), (.g 23 true (some 24) (.fa 24 (.t 1) 10)), (.g 23 true (some 25) (.ld 25 (.t 24) false 1)), (.g 23 true (some 26) (.bin 26 .geq (.t 25) (.c (.int .i64 1)))), (.g 12 false (some 27) (.pick 27 (.t 23) (.t 26) (.c (.bool false)))), (.g 12 false (some 28) (.mv 28 (.t 27))), (.g 28 true (some 29) (.fa 29 (.t 1) 10)), (.g 28 true (some 30) (.ld 30 (.t 29) false 1)), (.g 28 true (some 31) (.bin 31 .lss (.t 30) (.c (.int .i64 4)))), (.g 12 false (some 32) (.pick 32 (.t 28) (.t 31) (.c (.bool false)))), (.pick 33 (.t 12) (.c (.bool true)) (.t 32)), (.mv 3 (.t 33))]) (.seq (.seq (.reg [(.fa 34 (.t 1) 0), (.ld 35 (.t 34) true 3), (.call (some 36) (.c (.func 25 [] [])) [(.t 35)]), (.bin 37 .neq (.t 36) (.c (.int .i64 0))), (.mv 38 (.t 37)), (.g 38 false (some 39) (.ld 39 (.t 1) true 14)), (.g 38 false (some 40) (.call (some 40) (.c (.func 30 [] [])) [(.t 39)])), (.g 38 false (some 41) (.not 41 (.t 40))), (.pick 42 (.t 38) (.c (.bool true)) (.t 41)), (.mv 43 (.t 42)), (.g 43 false (some 44) (.fa 44 (.t 1) 5)), (.g 43 false (some 45) (.ld 45 (.t 44) false 1)), (.g 43 false (some 46) (.call (some 46) (.c (.func 31 [] [])) [(.t 45)])), (.g 43 false (some 47) (.not 47 (.t 46))), (.pick 48 (.t 43) (.c (.bool true)) (.t 47)), (.mv 49 (.t 48)), (.g 49 false (some 50) (.fa 50 (.t 1) 6)), (.g 49 false (some 51) (.ld 51 (.t 50) false 1)), (.g 49 false (some 52) (.call (some 52) (.c (.func 32 [] [])) [(.t 51)])), (.g 49 false (some 53) (.not 53 (.t 52))), (.pick 54 (.t 49) (.c (.bool true)) (.t 53)), (.mv 55 (.t 54)), (.g 55 false (some 56) (.mv 56 (.t 3))), (.g 55 false (some 57) (.not 57 (.t 56))), (.pick 58 (.t 55) (.c (.bool true)) (.t 57)), (.mv 59 (.t 58)), (.g 59 false (some 60) (.fa 60 (.t 1) 7)), (.g 59 false (some 61) (.ld 61 (.t 60) false 1)), (.g 59 false (some 62) (.call (some 62) (.c (.func 26 [] [])) [(.t 61), (.c (.int .i64 255))])), (.g 59 false (some 63) (.not 63 (.t 62))), (.pick 64 (.t 59) (.c (.bool true)) (.t 63)), (.mv 65 (.t 64)), (.g 65 false (some 66) (.fa 66 (.t 1) 8)), (.g 65 false (some 67) (.ld 67 (.t 66) false 1)), (.g 65 false (some 68) (.call (some 68) (.c (.func 26 [] [])) [(.t 67), (.c (.int .i64 255))])), (.g 65 false (some 69) (.not 69 (.t 68))), (.pick 70 (.t 65) (.c (.bool true)) (.t 69))]) (.cond (.t 70) (.seq (.reg [(.mv 2 (.c (.int .i64 1)))]) .ret) .skip)) (.seq (.seq (.regD [(.fa 71 (.t 1) 11), (.ld 72 (.t 71) false 1), (.call (some 73) (.c (.func 26 [] [])) [(.t 72), (.c (.int .i64 5))]), (.not 74 (.t 73)), (.mv 75 (.t 74)), (.g 75 false (some 76) (.fa 76 (.t 1) 12)), (.g 75 false (some 77) (.ld 77 (.t 76) false 1)), (.g 75 false (some 78) (.fa 78 (.t 1) 11)), (.g 75 false (some 79) (.ld 79 (.t 78) false 1)), (.g 75 false (some 80) (.bin 80 .shl (.c (.int .i64 1)) (.t 79))), (.g 75 false (some 81) (.bin 81 .sub (.t 80) (.c (.int .i64 1)))), (.g 75 false (some 82) (.call (some 82) (.c (.func 26 [] [])) [(.t 77), (.t 81)])), (.g 75 false (some 83) (.not 83 (.t 82))), (.pick 84 (.t 75) (.c (.bool true)) (.t 83)), (.mv 85 (.t 84)), (.g 85 false (some 86) (.fa 86 (.t 1) 13)), (.g 85 false (some 87) (.ld 87 (.t 86) false 1)), (.g 85 false (some 88) (.call (some 88) (.c (.func 26 [] [])) [(.t 87), (.c (.int .i64 2147483647))])), (.g 85 false (some 89) (.not 89 (.t 88))), (.pick 90 (.t 85) (.c (.bool true)) (.t 89))] []) (.cond (.t 90) (.seq (.reg [(.mv 2 (.c (.int .i64 1)))]) .ret) .skip)) (.seq (.reg [(.mv 2 (.c (.int .i64 0)))]) .ret)))))
theorem e22 : compC prog f14.ntmps (f14.body.getD .skip) = c22 := by kernel_rfl
theorem c188_pf (q : Queue) (hL : q.pk.length < 2 ^ 62) : ACalls prog 33 [.agg [.int .i64 q.limit, .sl 6 (q.pk.map Packet.enc)]] [] (.int .i64 (qErr q)) [] := by
  refine calls_of hmx func33 (by kernel_rfl) (c := f33.body.getD .skip) rfl e188 (rs := [(.t 2)]) (by kernel_rfl) (by simp [ntmps33]) ?_
  simp only [c188, argS]
  simp only [go_sem, seval]
  refine CX_pure c298_ok rfl rfl rfl rfl ?_
  simp only [go_sem, seval, Vc_bool, List.length_map]
  refine ⟨fun h1 => ?_, fun h1 => ⟨fun h2 => ?_, fun h2 => ?_⟩⟩
  · (refine Rt_pure ?_ rfl; simp only [retO, retO1, retOs, S, get_cons, Nat.reduceEqDiff, reduceIte, obj, getO_cons_zero, getO_cons_succ, List.getElem?_cons_zero, List.getElem?_cons_succ, List.drop_zero, List.drop_succ_cons, loadFrom_cell, loadFrom_agg, List.length_cons, List.length_nil, Nat.reduceAdd, Nat.reduceLeDiff, List.take_succ_cons, List.take_zero, List.take_nil])
    grind [qErr, wi3]
  · (refine Rt_pure ?_ rfl; simp only [retO, retO1, retOs, S, get_cons, Nat.reduceEqDiff, reduceIte, obj, getO_cons_zero, getO_cons_succ, List.getElem?_cons_zero, List.getElem?_cons_succ, List.drop_zero, List.drop_succ_cons, loadFrom_cell, loadFrom_agg, List.length_cons, List.length_nil, Nat.reduceAdd, Nat.reduceLeDiff, List.take_succ_cons, List.take_zero, List.take_nil])
    grind [qErr, wi3]
  · refine Lp.bkE0 (l188 q hL _ (fun s => ?_) q.pk [] rfl) (by rfl) ?_
    · simp only [go_sem, seval]
      (refine Rt_pure ?_ rfl; simp only [retO, retO1, retOs, S, get_cons, Nat.reduceEqDiff, reduceIte, obj, getO_cons_zero, getO_cons_succ, List.getElem?_cons_zero, List.getElem?_cons_succ, List.drop_zero, List.drop_succ_cons, loadFrom_cell, loadFrom_agg, List.length_cons, List.length_nil, Nat.reduceAdd, Nat.reduceLeDiff, List.take_succ_cons, List.take_zero, List.take_nil])
    · grind [qErr, wi3]
theorem c188_ok {q_limit : Int} {q_pk : List Packet} (hL : q_pk.length < 2 ^ 62) : ACalls prog 33 [.agg [.int .i64 q_limit, .sl 6 (q_pk.map Packet.enc)]] [] (.int .i64 (qErr (⟨q_limit, q_pk⟩ : Queue))) [] := c188_pf (⟨q_limit, q_pk⟩ : Queue) hL

def StBd (s : Station) : Prop := s.tab.cells.length < 2 ^ 62 ∧ s.q.pk.length < 2 ^ 62 ∧ s.held.length < 2 ^ 62 ∧ (∀ h ∈ s.held, h.acked.length < 2 ^ 62) ∧ s.seen.length < 2 ^ 62
theorem c189_ok {p : Packet} {s : Station} : ACalls prog 67 ([] ++ [.agg p.enc] ++ [.ptr 0 0 0 0]) [.cells 0 14 35 true [s.enc]] (.bool (decide (p.to = s.tab.node) || decide (100 < (p.data.size : Int)))) [.cells 0 14 35 true [s.enc]] := by
  refine calls_of hmx func67 (by kernel_rfl) (c := f67.body.getD .skip) rfl e189 (rs := [(.t 3)]) (by kernel_rfl) (by simp [ntmps67]) ?_
  simp only [c189, argS, List.nil_append, List.singleton_append]
  simp only [go_sem, seval]
  refine Rt_T [_] ?_ rfl rfl (Nat.le_refl _)
  simp only [retO, retO1, retOs, S, get_cons, Nat.reduceEqDiff, reduceIte, obj, getO_cons_zero, getO_cons_succ, List.getElem?_cons_zero, List.getElem?_cons_succ, List.drop_zero, List.drop_succ_cons, loadFrom_cell, loadFrom_agg, List.length_cons, List.length_nil, Nat.reduceAdd, Nat.reduceLeDiff, List.take_succ_cons, List.take_zero, List.take_nil]
theorem pks_any (s : Station) : (s.q.pk.all fun p => !decide (p.to = s.tab.node) && decide ((p.data.size : Int) ≤ 100)) = !(s.q.pk.any fun p => decide (p.to = s.tab.node) || decide (100 < (p.data.size : Int))) := by
  induction s.q.pk with
  | nil => rfl
  | cons p l ih =>
    rw [List.all_cons, List.any_cons, ih]
    grind
theorem c85_pf (s : Station) (hL : s.q.pk.length < 2 ^ 62) : ACalls prog 30 [.agg [.int .i64 s.tab.node, .int .i64 s.tab.len, .sl 6 (s.tab.cells.map TCell.enc), .int .i64 s.q.limit, .sl 6 (s.q.pk.map Packet.enc), .sl 5 (s.held.map Held.enc), .sl 2 (s.seen.map Seen.enc), .int .i64 s.list, .int .i64 s.seq, .int .i64 s.trying, .int .i64 s.tries, .int .i64 s.back, .int .i64 s.wait, .int .i64 s.seed]] [] (.bool (pksOk s)) [] := by
  refine calls_of hmx func30 (by kernel_rfl) (c := f30.body.getD .skip) rfl e85 (rs := [(.t 2)]) (by kernel_rfl) (by simp [ntmps30]) ?_
  simp only [c85, argS]
  cases h1 : decide (qErr s.q = 0)
  · simp only [go_sem, seval]
    refine CX_pure (c188_ok hL) rfl rfl rfl rfl ?_
    simp only [go_sem, seval, h1]
    (refine Rt_pure ?_ rfl; simp only [retO, retO1, retOs, S, get_cons, Nat.reduceEqDiff, reduceIte, obj, getO_cons_zero, getO_cons_succ, List.getElem?_cons_zero, List.getElem?_cons_succ, List.drop_zero, List.drop_succ_cons, loadFrom_cell, loadFrom_agg, List.length_cons, List.length_nil, Nat.reduceAdd, Nat.reduceLeDiff, List.take_succ_cons, List.take_zero, List.take_nil])
    simp [pksOk, h1]
  · simp only [go_sem, seval]
    refine CX_pure (c188_ok hL) rfl rfl rfl rfl ?_
    simp only [go_sem, seval, h1]
    refine CX_rd [0] (c186_has (caps := [.ptr 0 0 0 0]) (first := []) (g := 67) hL (pk_all _).1 ((pk_all _).2 _) (by rfl) (by rfl) (fun x _ => c189_ok (s := s))) (by rfl) (by rfl) (by rfl) (by rfl) (by rfl) (by decide) (by rfl) (by rfl) (by rfl) ?_
    simp only [go_sem, seval]
    (refine Rt_pure ?_ rfl; simp only [retO, retO1, retOs, S, get_cons, Nat.reduceEqDiff, reduceIte, obj, getO_cons_zero, getO_cons_succ, List.getElem?_cons_zero, List.getElem?_cons_succ, List.drop_zero, List.drop_succ_cons, loadFrom_cell, loadFrom_agg, List.length_cons, List.length_nil, Nat.reduceAdd, Nat.reduceLeDiff, List.take_succ_cons, List.take_zero, List.take_nil])
    simp [pksOk, h1, pks_any]
theorem c85_ok {s_tab_node : Int} {s_tab_len : Int} {s_tab_cells : List TCell} {s_q_limit : Int} {s_q_pk : List Packet} {s_held : List Held} {s_seen : List Seen} {s_list : Int} {s_seq : Int} {s_trying : Int} {s_tries : Int} {s_back : Int} {s_wait : Int} {s_seed : Int} (hL : s_q_pk.length < 2 ^ 62) : ACalls prog 30 [.agg [.int .i64 s_tab_node, .int .i64 s_tab_len, .sl 6 (s_tab_cells.map TCell.enc), .int .i64 s_q_limit, .sl 6 (s_q_pk.map Packet.enc), .sl 5 (s_held.map Held.enc), .sl 2 (s_seen.map Seen.enc), .int .i64 s_list, .int .i64 s_seq, .int .i64 s_trying, .int .i64 s_tries, .int .i64 s_back, .int .i64 s_wait, .int .i64 s_seed]] [] (.bool (pksOk (⟨(⟨s_tab_node, s_tab_len, s_tab_cells⟩ : Table), (⟨s_q_limit, s_q_pk⟩ : Queue), s_held, s_seen, s_list, s_seq, s_trying, s_tries, s_back, s_wait, s_seed⟩ : Station))) [] := c85_pf (⟨(⟨s_tab_node, s_tab_len, s_tab_cells⟩ : Table), (⟨s_q_limit, s_q_pk⟩ : Queue), s_held, s_seen, s_list, s_seq, s_trying, s_tries, s_back, s_wait, s_seed⟩ : Station) hL

theorem shl5 (b : Int) (h : wi b 5 = true) : IntKind.i64.wrap (IntKind.i64.wrap (1 * 2 ^ min b.toNat 64) - 1) = 2 ^ b.toNat - 1 := by
  have : b = 0 ∨ b = 1 ∨ b = 2 ∨ b = 3 ∨ b = 4 ∨ b = 5 := by simp only [wi] at h; grind
  rcases this with rfl | rfl | rfl | rfl | rfl | rfl <;> decide
theorem c22_pf (s : Station) (hB : StBd s) : ACalls prog 14 [.agg [.int .i64 s.tab.node, .int .i64 s.tab.len, .sl 6 (s.tab.cells.map TCell.enc), .int .i64 s.q.limit, .sl 6 (s.q.pk.map Packet.enc), .sl 5 (s.held.map Held.enc), .sl 2 (s.seen.map Seen.enc), .int .i64 s.list, .int .i64 s.seq, .int .i64 s.trying, .int .i64 s.tries, .int .i64 s.back, .int .i64 s.wait, .int .i64 s.seed]] [] (.int .i64 (stErr s)) [] := by
  refine calls_of hmx func14 (by kernel_rfl) (c := f14.body.getD .skip) rfl e22 (rs := [(.t 2)]) (by kernel_rfl) (by simp [ntmps14]) ?_
  simp only [c22, argS]
  obtain ⟨hB1, hB2, hB3, hB4, hB5⟩ := hB
  simp only [go_sem, seval]
  repeat' first | (refine Rt_pure ?_ rfl; simp only [retO, retO1, retOs, S, get_cons, Nat.reduceEqDiff, reduceIte, obj, getO_cons_zero, getO_cons_succ, List.getElem?_cons_zero, List.getElem?_cons_succ, List.drop_zero, List.drop_succ_cons, loadFrom_cell, loadFrom_agg, List.length_cons, List.length_nil, Nat.reduceAdd, Nat.reduceLeDiff, List.take_succ_cons, List.take_zero, List.take_nil]) | refine CX_pure (c84_ok hB2) rfl rfl rfl rfl ?_ | refine CX_pure (c80_ok hB1) rfl rfl rfl rfl ?_ | refine CX_pure (c85_ok hB2) rfl rfl rfl rfl ?_ | refine CX_pure (c86_ok hB3 hB4) rfl rfl rfl rfl ?_ | refine CX_pure (c87_ok hB5) rfl rfl rfl rfl ?_ | refine CX_pure c81_ok rfl rfl rfl rfl ?_ | refine GX_call (fun _ => (c84_ok hB2)) (by rfl) (by intro h; simp only [h]; rfl) (by rfl) (by rfl) ?_ | refine GX_call (fun _ => (c80_ok hB1)) (by rfl) (by intro h; simp only [h]; rfl) (by rfl) (by rfl) ?_ | refine GX_call (fun _ => (c85_ok hB2)) (by rfl) (by intro h; simp only [h]; rfl) (by rfl) (by rfl) ?_ | refine GX_call (fun _ => (c86_ok hB3 hB4)) (by rfl) (by intro h; simp only [h]; rfl) (by rfl) (by rfl) ?_ | refine GX_call (fun _ => (c87_ok hB5)) (by rfl) (by intro h; simp only [h]; rfl) (by rfl) (by rfl) ?_ | refine GX_call (fun _ => c81_ok) (by rfl) (by intro h; simp only [h]; rfl) (by rfl) (by rfl) ?_ | (with_reducible intro h; try simp only [h]) | (with_reducible refine And.intro ?_ ?_) | (change chk _ _ = true; rfl) | simp only [go_sem, seval, Vc_bool] | refine (GX_split rfl).2 ?_
  all_goals clear hB1 hB2 hB3 hB4 hB5
  · simp only [stErr, stOk, tryOk]
    grind
  · simp only [wi] at *
    grind
  · rename_i h0
    cases hb : wi s.back 5
    · simp [stErr, stOk, hb]
    · have e := shl5 s.back hb
      rw [e, hb] at h
      simp only [stErr, stOk, tryOk, hb]
      grind
  · rename_i h0
    cases hb : wi s.back 5
    · rw [hb] at h
      simp at h
    · have e := shl5 s.back hb
      rw [e, hb] at h
      simp only [stErr, stOk, tryOk, hb]
      grind
/-- The code of slices.Clone. -/
def cClone (t k bytes : Nat) (zs : List AVal) : SC := (.seq (.reg [(.mv 2 (.c .nil))]) (.seq (.seq (.reg [(.mv 3 (.t 0)), (.binN 4 1 false (.t 3))]) (.cond (.t 4) (.seq (.reg [(.mv 2 (.c .nil))]) .ret) .skip)) (.seq (.reg [(.bsl 5 t k zs 0 []), (.mv 6 (.t 0)), (.app 7 t k bytes (.t 5) (.t 6)), (.mv 2 (.t 7))]) .ret)))
theorem e82 : compC prog f27.ntmps (f27.body.getD .skip) = cClone 60 6 48 [(.int .i64 0), (.int .i64 0), (.int .i64 0), (.bool false), (.int .i64 0), (.int .i64 0)] := by kernel_rfl
theorem e153 : compC prog f42.ntmps (f42.body.getD .skip) = cClone 3 1 8 [.int .i64 0] := by kernel_rfl
theorem e260 : compC prog f36.ntmps (f36.body.getD .skip) = cClone 42 6 56 [(.int .i64 0), (.int .i64 0), (.int .i64 0), (.int .i64 0), (.int .i64 0), (.str (ByteArray.mk #[]))] := by kernel_rfl
theorem e261 : compC prog f40.ntmps (f40.body.getD .skip) = cClone 75 5 64 [(.int .i64 0), (.int .i64 0), (.int .i64 0), (.str (ByteArray.mk #[])), .nil] := by kernel_rfl
theorem e262 : compC prog f41.ntmps (f41.body.getD .skip) = cClone 102 2 16 [(.int .i64 0), (.int .i64 0)] := by kernel_rfl
theorem clone_V {t k bytes : Nat} {zs : List AVal} {xs : List (List AVal)} (hk : 0 < k) (hzs : zs.length = k) (hc : cloE xs) (hb : xs.length * bytes ≤ 140737488355328) :
    V prog 8 0 (Ret [.t 2] 0 (.sl k xs) []) [.code (cClone t k bytes zs)] (argS [.sl k xs] 0) [] := by
  simp only [cClone, argS]
  cases xs with
  | nil =>
    simp only [go_sem, seval, hk]
    intro b
    cases b
    · simp only [go_sem, seval, hk, Nat.zero_mul]
      refine Rt.gs (Gs_tell (s' := [(2, .sl k [])]) (H' := [.dead]) ?_ ?_) (Rt_pure ?_ rfl)
      · repeat' (first | exact FzL.nil | refine FzL.cons ?_ ?_ | exact Fz.wk (Wk.refl _) | exact Fz.wk (Wk.nil _) | exact Fz.wk (Wk.emp _) | exact Fz.row0 _ _ _ _ | exact FzH.nil _ | exact FzO.refl _ | refine FzO.one ?_ | refine FzH.cons (by decide) ?_ ?_ | refine FzH.this rfl ?_ | exact FzO.dead (by simp) | (simp only [List.forall_mem_cons, List.not_mem_nil, false_implies, implies_true, and_true, go_sem, seval]) | refine And.intro ?_ ?_)
      · repeat' (first | exact FzL.nil | refine FzL.cons ?_ ?_ | exact Fz.wk (Wk.refl _) | exact Fz.wk (Wk.nil _) | exact Fz.wk (Wk.emp _) | exact Fz.row0 _ _ _ _ | exact FzH.nil _ | exact FzO.refl _ | refine FzO.one ?_ | refine FzH.cons (by decide) ?_ ?_ | refine FzH.this rfl ?_ | exact FzO.dead (by simp) | (simp only [List.forall_mem_cons, List.not_mem_nil, false_implies, implies_true, and_true, go_sem, seval]) | refine And.intro ?_ ?_)
      · rfl
    · simp only [go_sem, seval]
      refine Rt.gs (Gs_tell (s' := [(2, .sl k [])]) (H' := []) ?_ ?_) (Rt_pure ?_ rfl)
      · repeat' (first | exact FzL.nil | refine FzL.cons ?_ ?_ | exact Fz.wk (Wk.refl _) | exact Fz.wk (Wk.nil _) | exact Fz.wk (Wk.emp _) | exact Fz.row0 _ _ _ _ | exact FzH.nil _ | exact FzO.refl _ | refine FzO.one ?_ | refine FzH.cons (by decide) ?_ ?_ | refine FzH.this rfl ?_ | exact FzO.dead (by simp) | (simp only [List.forall_mem_cons, List.not_mem_nil, false_implies, implies_true, and_true, go_sem, seval]) | refine And.intro ?_ ?_)
      · repeat' (first | exact FzL.nil | refine FzL.cons ?_ ?_ | exact Fz.wk (Wk.refl _) | exact Fz.wk (Wk.nil _) | exact Fz.wk (Wk.emp _) | exact Fz.row0 _ _ _ _ | exact FzH.nil _ | exact FzO.refl _ | refine FzO.one ?_ | refine FzH.cons (by decide) ?_ ?_ | refine FzH.this rfl ?_ | exact FzO.dead (by simp) | (simp only [List.forall_mem_cons, List.not_mem_nil, false_implies, implies_true, and_true, go_sem, seval]) | refine And.intro ?_ ?_)
      · rfl
  | cons x xs =>
    simp only [go_sem, seval, hk, Nat.zero_add]
    refine ⟨by simpa using hb, ?_⟩
    refine Rt.gs (Gs_freeze 0 (s' := [(2, .sl k (x :: xs))]) (H' := [.dead]) rfl ?_ ?_) (Rt_pure ?_ rfl)
    · repeat' (first | exact FzL.nil | refine FzL.cons ?_ ?_ | exact Fz.wk (Wk.refl _) | exact Fz.wk (Wk.nil _) | exact Fz.wk (Wk.emp _) | exact Fz.row0 _ _ _ _ | exact FzH.nil _ | exact FzO.refl _ | refine FzO.one ?_ | refine FzH.cons (by decide) ?_ ?_ | refine FzH.this rfl ?_ | exact FzO.dead (by simp) | (simp only [List.forall_mem_cons, List.not_mem_nil, false_implies, implies_true, and_true, go_sem, seval]) | refine And.intro ?_ ?_)
      exact Fz.row 0 (xs.length + 1) (by rw [List.drop_zero, ← List.length_cons, List.take_length]) hc
    · repeat' (first | exact FzL.nil | refine FzL.cons ?_ ?_ | exact Fz.wk (Wk.refl _) | exact Fz.wk (Wk.nil _) | exact Fz.wk (Wk.emp _) | exact Fz.row0 _ _ _ _ | exact FzH.nil _ | exact FzO.refl _ | refine FzO.one ?_ | refine FzH.cons (by decide) ?_ ?_ | refine FzH.this rfl ?_ | exact FzO.dead (by simp) | (simp only [List.forall_mem_cons, List.not_mem_nil, false_implies, implies_true, and_true, go_sem, seval]) | refine And.intro ?_ ?_)
    · rfl

theorem clone_R {t k bytes : Nat} {zs : List AVal} {x : List AVal} {xs : List (List AVal)} (hk : 0 < k) (hzs : zs.length = k) (hc : (x :: xs).all (ltL 1) = true) (hb : (x :: xs).length * bytes ≤ 140737488355328) :
    V prog 8 0 (Ret [.t 2] 0 (.row 0 1 0 (x :: xs).length) [.cells 1 k t false (x :: xs)]) [.code (cClone t k bytes zs)] (argS [.sl k (x :: xs)] 0) [] := by
  simp only [cClone, argS]
  simp only [go_sem, seval, hk, Nat.zero_add]
  refine ⟨by simpa using hb, ?_⟩
  refine Rt_all rfl (by rfl) ?_ (Nat.zero_le _)
  rw [List.all_cons, List.all_nil, Bool.and_true]
  exact hc
theorem cloE_map {α : Type} {f : α → List AVal} {xs : List α} (h : ∀ x, (f x).all clo = true) : cloE (xs.map f) := by
  intro e he c hc
  obtain ⟨x, _, rfl⟩ := List.mem_map.1 he
  exact List.all_eq_true.1 (h x) c hc
theorem lt_map {α : Type} {m : Nat} {f : α → List AVal} {xs : List α} (h : ∀ x, ltL m (f x) = true) : (xs.map f).all (ltL m) = true := by
  rw [List.all_map]
  exact List.all_eq_true.2 fun x _ => h x
theorem c82_ok {xs : List TCell} (hb : xs.length * 48 ≤ 140737488355328) : ACalls prog 27 [.sl 6 (xs.map TCell.enc)] [] (.sl 6 (xs.map TCell.enc)) [] := by
  refine calls_of hmx func27 (by kernel_rfl) (c := f27.body.getD .skip) rfl e82 (rs := [.t 2]) (by kernel_rfl) (show (1:Nat) ≤ 8 by decide) ?_
  exact clone_V (by decide) rfl (cloE_map fun _ => by rfl) (by rw [List.length_map]; exact hb)
theorem c153_ok {xs : List Int} (hb : xs.length * 8 ≤ 140737488355328) : ACalls prog 42 [.sl 1 (xs.map eI)] [] (.sl 1 (xs.map eI)) [] := by
  refine calls_of hmx func42 (by kernel_rfl) (c := f42.body.getD .skip) rfl e153 (rs := [.t 2]) (by kernel_rfl) (show (1:Nat) ≤ 8 by decide) ?_
  exact clone_V (by decide) rfl (cloE_map fun _ => by rfl) (by rw [List.length_map]; exact hb)
theorem c260_ok {xs : List Packet} (hb : xs.length * 56 ≤ 140737488355328) : ACalls prog 36 [.sl 6 (xs.map Packet.enc)] [] (.sl 6 (xs.map Packet.enc)) [] := by
  refine calls_of hmx func36 (by kernel_rfl) (c := f36.body.getD .skip) rfl e260 (rs := [.t 2]) (by kernel_rfl) (show (1:Nat) ≤ 8 by decide) ?_
  exact clone_V (by decide) rfl (cloE_map fun _ => by rfl) (by rw [List.length_map]; exact hb)
theorem c260r_ok {x : Packet} {xs : List Packet} (hb : (x :: xs).length * 56 ≤ 140737488355328) : ACalls prog 36 [.sl 6 ((x :: xs).map Packet.enc)] [] (.row 0 1 0 (x :: xs).length) [.cells 1 6 42 false ((x :: xs).map Packet.enc)] := by
  refine calls_of hmx func36 (by kernel_rfl) (c := f36.body.getD .skip) rfl e260 (rs := [.t 2]) (by kernel_rfl) (show (1:Nat) ≤ 8 by decide) ?_
  have h := clone_R (t := 42) (k := 6) (bytes := 56) (zs := [(.int .i64 0), (.int .i64 0), (.int .i64 0), (.int .i64 0), (.int .i64 0), (.str (ByteArray.mk #[]))]) (x := Packet.enc x) (xs := xs.map Packet.enc) (by decide) rfl (lt_map (xs := x :: xs) fun _ => by rfl) (by simpa using hb)
  simp only [List.map_cons, List.length_cons, List.length_map] at h ⊢
  exact h
theorem c261_ok {xs : List Held} (hb : xs.length * 64 ≤ 140737488355328) : ACalls prog 40 [.sl 5 (xs.map Held.enc)] [] (.sl 5 (xs.map Held.enc)) [] := by
  refine calls_of hmx func40 (by kernel_rfl) (c := f40.body.getD .skip) rfl e261 (rs := [.t 2]) (by kernel_rfl) (show (1:Nat) ≤ 8 by decide) ?_
  exact clone_V (by decide) rfl (cloE_map fun _ => by rfl) (by rw [List.length_map]; exact hb)
theorem c261r_ok {x : Held} {xs : List Held} (hb : (x :: xs).length * 64 ≤ 140737488355328) : ACalls prog 40 [.sl 5 ((x :: xs).map Held.enc)] [] (.row 0 1 0 (x :: xs).length) [.cells 1 5 75 false ((x :: xs).map Held.enc)] := by
  refine calls_of hmx func40 (by kernel_rfl) (c := f40.body.getD .skip) rfl e261 (rs := [.t 2]) (by kernel_rfl) (show (1:Nat) ≤ 8 by decide) ?_
  have h := clone_R (t := 75) (k := 5) (bytes := 64) (zs := [(.int .i64 0), (.int .i64 0), (.int .i64 0), (.str (ByteArray.mk #[])), .nil]) (x := Held.enc x) (xs := xs.map Held.enc) (by decide) rfl (lt_map (xs := x :: xs) fun _ => by rfl) (by simpa using hb)
  simp only [List.map_cons, List.length_cons, List.length_map] at h ⊢
  exact h
theorem c262_ok {xs : List Seen} (hb : xs.length * 16 ≤ 140737488355328) : ACalls prog 41 [.sl 2 (xs.map Seen.enc)] [] (.sl 2 (xs.map Seen.enc)) [] := by
  refine calls_of hmx func41 (by kernel_rfl) (c := f41.body.getD .skip) rfl e262 (rs := [.t 2]) (by kernel_rfl) (show (1:Nat) ≤ 8 by decide) ?_
  exact clone_V (by decide) rfl (cloE_map fun _ => by rfl) (by rw [List.length_map]; exact hb)
def c20 : SC := (.seq (.reg [(.box 3 28 (.t 0)), (.alc 6 35 [(.int .i64 0), (.int .i64 0), .nil, (.int .i64 0), .nil, .nil, .nil, (.int .i64 0), (.int .i64 0), (.int .i64 0), (.int .i64 0), (.int .i64 0), (.int .i64 0), (.int .i64 0)]), (.mv 7 (.c (.int .i64 0)))]) (.seq (.seq (.reg [(.ld 8 (.t 3) true 3), (.call (some 9) (.c (.func 25 [] [])) [(.t 8)]), (.bin 10 .neq (.t 9) (.c (.int .i64 0)))]) (.cond (.t 10) (.seq (.reg [(.bld 11 [(.int .i64 0), (.int .i64 0), .nil, (.int .i64 0), .nil, .nil, .nil, (.int .i64 0), (.int .i64 0), (.int .i64 0), (.int .i64 0), (.int .i64 0), (.int .i64 0), (.int .i64 0)] []), (.st (.t 6) (.t 11) 14), (.mv 7 (.c (.int .i64 1)))]) .ret) .skip)) (.seq (.seq (.reg [(.mv 12 (.t 1)), (.bin 13 .lss (.t 12) (.c (.int .i64 1))), (.mv 14 (.t 13)), (.g 14 false (some 15) (.mv 15 (.t 1))), (.g 14 false (some 16) (.bin 16 .gtr (.t 15) (.c (.int .i64 64)))), (.pick 17 (.t 14) (.c (.bool true)) (.t 16)), (.mv 18 (.t 17)), (.g 18 false (some 19) (.mv 19 (.t 2))), (.g 18 false (some 20) (.call (some 20) (.c (.func 26 [] [])) [(.t 19), (.c (.int .i64 2147483647))])), (.g 18 false (some 21) (.not 21 (.t 20))), (.pick 22 (.t 18) (.c (.bool true)) (.t 21))]) (.cond (.t 22) (.seq (.reg [(.bld 23 [(.int .i64 0), (.int .i64 0), .nil, (.int .i64 0), .nil, .nil, .nil, (.int .i64 0), (.int .i64 0), (.int .i64 0), (.int .i64 0), (.int .i64 0), (.int .i64 0), (.int .i64 0)] []), (.st (.t 6) (.t 23) 14), (.mv 7 (.c (.int .i64 2)))]) .ret) .skip)) (.seq (.reg [(.fa 24 (.t 3) 2), (.ld 25 (.t 24) false 1), (.call (some 26) (.c (.func 27 [] [])) [(.t 25)]), (.fa 27 (.t 3) 2), (.st (.t 27) (.t 26) 1)]) (.seq (.reg [(.ld 28 (.t 3) true 3), (.mv 29 (.t 1)), (.bld 30 [(.int .i64 0), .nil] [(0, 1, (.t 29))]), (.mv 31 (.t 2)), (.bld 32 [(.int .i64 0), (.int .i64 0), .nil, (.int .i64 0), .nil, .nil, .nil, (.int .i64 0), (.int .i64 0), (.int .i64 0), (.int .i64 0), (.int .i64 0), (.int .i64 0), (.int .i64 0)] [(0, 3, (.t 28)), (3, 2, (.t 30)), (9, 1, (.c (.int .i64 (-1)))), (13, 1, (.t 31))]), (.st (.t 6) (.t 32) 14), (.mv 7 (.c (.int .i64 0)))]) .ret)))))
theorem e20 : compC prog f11.ntmps (f11.body.getD .skip) = c20 := by kernel_rfl
def c152L1 : SC := (.seq (.reg [(.bin 28 .lss (.t 27) (.t 26))]) (.seq (.cond (.t 28) .skip (.exit 0)) (.seq (.block 1 (.seq (.reg [(.mv 29 (.t 27)), (.mv 3 (.t 29))]) (.regD [(.fa 30 (.t 1) 5), (.ld 31 (.t 30) false 1), (.mv 32 (.t 3)), (.fa 33 (.t 1) 5), (.ld 34 (.t 33) false 1), (.mv 35 (.t 3)), (.ia 36 (.t 34) (.t 35) 5), (.fa 37 (.t 36) 4), (.ld 38 (.t 37) false 1), (.call (some 39) (.c (.func 42 [] [])) [(.t 38)]), (.ia 40 (.t 31) (.t 32) 5), (.fa 41 (.t 40) 4), (.st (.t 41) (.t 39) 1)] [(1, 9)]))) (.reg [(.bin 42 .add (.t 27) (.c (.int .i64 1))), (.mv 27 (.t 42))]))))
def c152 : SC := (.seq (.reg [(.box 1 35 (.t 0)), (.alc 2 35 [(.int .i64 0), (.int .i64 0), .nil, (.int .i64 0), .nil, .nil, .nil, (.int .i64 0), (.int .i64 0), (.int .i64 0), (.int .i64 0), (.int .i64 0), (.int .i64 0), (.int .i64 0)])]) (.seq (.regD [(.fa 4 (.t 1) 0), (.fa 5 (.t 4) 2), (.ld 6 (.t 5) false 1), (.call (some 7) (.c (.func 27 [] [])) [(.t 6)]), (.fa 8 (.t 1) 3), (.fa 9 (.t 8) 1), (.ld 10 (.t 9) false 1), (.call (some 11) (.c (.func 36 [] [])) [(.t 10)]), (.fa 12 (.t 1) 0), (.fa 13 (.t 12) 2), (.st (.t 13) (.t 7) 1), (.fa 14 (.t 1) 3), (.fa 15 (.t 14) 1), (.st (.t 15) (.t 11) 1)] [(3, 6)]) (.seq (.regD [(.fa 16 (.t 1) 5), (.ld 17 (.t 16) false 1), (.call (some 18) (.c (.func 40 [] [])) [(.t 17)]), (.fa 19 (.t 1) 6), (.ld 20 (.t 19) false 1), (.call (some 21) (.c (.func 41 [] [])) [(.t 20)]), (.fa 22 (.t 1) 5), (.st (.t 22) (.t 18) 1), (.fa 23 (.t 1) 6), (.st (.t 23) (.t 21) 1)] [(2, 4)]) (.seq (.seq (.reg [(.fa 24 (.t 1) 5), (.ld 25 (.t 24) false 1), (.len 26 false (.t 25)), (.mv 27 (.c (.int .i64 0)))]) (.block 0 (.loop c152L1))) (.seq (.reg [(.ld 43 (.t 1) true 14), (.st (.t 2) (.t 43) 14)]) .ret)))))
theorem e152 : compC prog f16.ntmps (f16.body.getD .skip) = c152 := by kernel_rfl
theorem tabErr0_len {t : Table} (h : (!decide (tabErr t = 0)) = false) : t.cells.length ≤ 512 := by
  simp only [Bool.not_eq_false', decide_eq_true_eq] at h
  grind [tabErr]
theorem c20_pf (t : Table) (limit : Int) (seed : Int) (hL : t.cells.length < 2 ^ 62) : ACalls prog 11 [.agg [.int .i64 t.node, .int .i64 t.len, .sl 6 (t.cells.map TCell.enc)], .int .i64 limit, .int .i64 seed] [] (.tup [.agg (newSt t limit seed).1.enc, .int .i64 (newSt t limit seed).2]) [] := by
  refine calls_of hmx func11 (by kernel_rfl) (c := f11.body.getD .skip) rfl e20 (rs := [(.cell 6 true 14), (.t 7)]) (by kernel_rfl) (by simp [ntmps11]) ?_
  simp only [c20, argS]
  simp only [go_sem, seval]
  repeat' first | refine CX_pure (c80_ok hL) rfl rfl rfl rfl ?_ | refine CX_pure c81_ok rfl rfl rfl rfl ?_ | refine CX_pure (c82_ok (Nat.le_trans (Nat.mul_le_mul_right 48 (tabErr0_len (by assumption))) (by decide))) rfl rfl rfl rfl ?_ | refine GX_call (fun _ => (c80_ok hL)) (by rfl) (by intro h; simp only [h]; rfl) (by rfl) (by rfl) ?_ | refine GX_call (fun _ => c81_ok) (by rfl) (by intro h; simp only [h]; rfl) (by rfl) (by rfl) ?_ | refine GX_call (fun _ => (c82_ok (Nat.le_trans (Nat.mul_le_mul_right 48 (tabErr0_len (by assumption))) (by decide)))) (by rfl) (by intro h; simp only [h]; rfl) (by rfl) (by rfl) ?_ | (with_reducible intro h; try simp only [h]) | (with_reducible refine And.intro ?_ ?_) | (change chk _ _ = true; rfl) | simp only [go_sem, seval, Vc_bool] | refine (GX_split rfl).2 ?_
  · have e : newSt t limit seed = (Station.zero, 1) := by grind [newSt]
    rw [e]
    refine Rt.gs (Gs_tell (s' := [(6, .ptr 1 0 0 0), (7, .int .i64 1)]) (H' := [.dead, .cells 0 14 35 true [Station.zero.enc]]) ?_ ?_) (Rt_pure ?_ rfl)
    · repeat' (first | exact FzL.nil | refine FzL.cons ?_ ?_ | exact Fz.wk (Wk.refl _) | exact Fz.wk (Wk.nil _) | exact Fz.wk (Wk.emp _) | exact Fz.row0 _ _ _ _ | exact FzH.nil _ | exact FzO.refl _ | refine FzO.one ?_ | refine FzH.cons (by decide) ?_ ?_ | refine FzH.this rfl ?_ | exact FzO.dead (by simp) | (simp only [List.forall_mem_cons, List.not_mem_nil, false_implies, implies_true, and_true, go_sem, seval]) | refine And.intro ?_ ?_)
    · repeat' (first | exact FzL.nil | refine FzL.cons ?_ ?_ | exact Fz.wk (Wk.refl _) | exact Fz.wk (Wk.nil _) | exact Fz.wk (Wk.emp _) | exact Fz.row0 _ _ _ _ | exact FzH.nil _ | exact FzO.refl _ | refine FzO.one ?_ | refine FzH.cons (by decide) ?_ ?_ | refine FzH.this rfl ?_ | exact FzO.dead (by simp) | (simp only [List.forall_mem_cons, List.not_mem_nil, false_implies, implies_true, and_true, go_sem, seval]) | refine And.intro ?_ ?_)
    · rfl
  · have e : newSt t limit seed = (Station.zero, 2) := by grind [newSt, wi]
    rw [e]
    refine Rt.gs (Gs_tell (s' := [(6, .ptr 1 0 0 0), (7, .int .i64 2)]) (H' := [.dead, .cells 0 14 35 true [Station.zero.enc]]) ?_ ?_) (Rt_pure ?_ rfl)
    · repeat' (first | exact FzL.nil | refine FzL.cons ?_ ?_ | exact Fz.wk (Wk.refl _) | exact Fz.wk (Wk.nil _) | exact Fz.wk (Wk.emp _) | exact Fz.row0 _ _ _ _ | exact FzH.nil _ | exact FzO.refl _ | refine FzO.one ?_ | refine FzH.cons (by decide) ?_ ?_ | refine FzH.this rfl ?_ | exact FzO.dead (by simp) | (simp only [List.forall_mem_cons, List.not_mem_nil, false_implies, implies_true, and_true, go_sem, seval]) | refine And.intro ?_ ?_)
    · repeat' (first | exact FzL.nil | refine FzL.cons ?_ ?_ | exact Fz.wk (Wk.refl _) | exact Fz.wk (Wk.nil _) | exact Fz.wk (Wk.emp _) | exact Fz.row0 _ _ _ _ | exact FzH.nil _ | exact FzO.refl _ | refine FzO.one ?_ | refine FzH.cons (by decide) ?_ ?_ | refine FzH.this rfl ?_ | exact FzO.dead (by simp) | (simp only [List.forall_mem_cons, List.not_mem_nil, false_implies, implies_true, and_true, go_sem, seval]) | refine And.intro ?_ ?_)
    · rfl
  · have e : newSt t limit seed = (⟨t, ⟨limit, []⟩, [], [], 0, 0, -1, 0, 0, 0, seed⟩, 0) := by grind [newSt, wi]
    rw [e]
    refine Rt.gs (Gs_tell (s' := [(6, .ptr 1 0 0 0), (7, .int .i64 0)]) (H' := [.dead, .cells 0 14 35 true [Station.enc ⟨t, ⟨limit, []⟩, [], [], 0, 0, -1, 0, 0, 0, seed⟩]]) ?_ ?_) (Rt_pure ?_ rfl)
    · repeat' (first | exact FzL.nil | refine FzL.cons ?_ ?_ | exact Fz.wk (Wk.refl _) | exact Fz.wk (Wk.nil _) | exact Fz.wk (Wk.emp _) | exact Fz.row0 _ _ _ _ | exact FzH.nil _ | exact FzO.refl _ | refine FzO.one ?_ | refine FzH.cons (by decide) ?_ ?_ | refine FzH.this rfl ?_ | exact FzO.dead (by simp) | (simp only [List.forall_mem_cons, List.not_mem_nil, false_implies, implies_true, and_true, go_sem, seval]) | refine And.intro ?_ ?_)
    · repeat' (first | exact FzL.nil | refine FzL.cons ?_ ?_ | exact Fz.wk (Wk.refl _) | exact Fz.wk (Wk.nil _) | exact Fz.wk (Wk.emp _) | exact Fz.row0 _ _ _ _ | exact FzH.nil _ | exact FzO.refl _ | refine FzO.one ?_ | refine FzH.cons (by decide) ?_ ?_ | refine FzH.this rfl ?_ | exact FzO.dead (by simp) | (simp only [List.forall_mem_cons, List.not_mem_nil, false_implies, implies_true, and_true, go_sem, seval]) | refine And.intro ?_ ?_)
    · rfl
theorem set_same {α : Type} {l : List α} {i : Nat} {x : α} (h : l[i]? = some x) : l.set i x = l := by
  obtain ⟨hi, rfl⟩ := List.getElem?_eq_some_iff.1 h
  exact List.set_getElem_self hi
/-- A station whose messages lie in an object of their own. -/
def Station.encH (s : Station) (id n : Nat) : List AVal := [.int .i64 s.tab.node, .int .i64 s.tab.len, .sl 6 (s.tab.cells.map TCell.enc), .int .i64 s.q.limit, .sl 6 (s.q.pk.map Packet.enc), .row id 1 0 n, .sl 2 (s.seen.map Seen.enc), .int .i64 s.list, .int .i64 s.seq, .int .i64 s.trying, .int .i64 s.tries, .int .i64 s.back, .int .i64 s.wait, .int .i64 s.seed]
/-- A station's zero, before it is told. -/
def zSt : List AVal := [.int .i64 0, .int .i64 0, .nil, .int .i64 0, .nil, .nil, .nil, .int .i64 0, .int .i64 0, .int .i64 0, .int .i64 0, .int .i64 0, .int .i64 0, .int .i64 0]
theorem l152 (s : Station) (hL : s.held.length < 2 ^ 62) (hA : ∀ h ∈ s.held, h.acked.length * 8 ≤ 140737488355328) (hr : AVal) (Hr : Heap) (k' : List It)
    (hk : ∀ zs, get zs 1 = .ptr 0 0 0 0 → get zs 2 = .ptr 1 0 0 0 → V prog f16.ntmps 0 (Ret [.cell 2 true 14] 0 hr Hr) k' zs [.cells 0 14 35 true [Station.encH s 2 s.held.length], .cells 0 14 35 true [zSt], .cells 1 5 75 false (s.held.map Held.enc)]) :
    ∀ (rest done : List Held), s.held = done ++ rest →
    Lp prog f16.ntmps 0 (Ret [.cell 2 true 14] 0 hr Hr) c152L1 (.blk 0 :: k') [(1, .ptr 0 0 0 0), (2, .ptr 1 0 0 0), (26, .int .i64 s.held.length), (27, .int .i64 done.length)] [.cells 0 14 35 true [Station.encH s 2 s.held.length], .cells 0 14 35 true [zSt], .cells 1 5 75 false (s.held.map Held.enc)] := by
  intro rest
  induction rest with
  | nil =>
    intro done hd
    refine Lp.of_eq hmx c152L1.eq_1 ?_
    have h1 := rg_end hd
    simp only [go_sem, seval, h1, List.length_map]
    exact hk _ (by rfl) (by rfl)
  | cons c rest ih =>
    intro done hd
    refine Lp.of_eq hmx c152L1.eq_1 ?_
    obtain ⟨h1, h2, h3, h4⟩ := rg_hd Held.enc hd hL
    have hAc := hA c (by rw [hd]; simp)
    have ih' := ih _ h4
    have hlt : done.length < s.held.length := by rw [hd]; simp
    simp only [go_sem, seval, Station.encH, h1, h2, h3, Int.toNat_natCast, Int.natCast_nonneg, List.length_map, hlt, Nat.zero_add]
    refine ⟨Int.ofNat_lt.2 hlt, ?_⟩
    refine CX_pure (c153_ok hAc) rfl rfl rfl rfl ?_
    have hse : (s.held.map Held.enc).set done.length [.int .i64 c.flow, .int .i64 c.frame, .int .i64 c.upto, .str c.data, .sl 1 (c.acked.map eI)] = s.held.map Held.enc := set_same h2
    simp only [go_sem, seval, h1, h2, h3, Int.toNat_natCast, Int.natCast_nonneg, List.length_map, hlt, Nat.zero_add, hse]
    refine ⟨Int.ofNat_lt.2 hlt, by rfl, ?_⟩
    exact Lp.bkE0 ih' (by rfl) rfl
/-- The bounds of a station that Clone takes. -/
structure ClBd (s : Station) : Prop where
  c : s.tab.cells.length * 48 ≤ 140737488355328
  q : s.q.pk.length * 56 ≤ 140737488355328
  h : s.held.length * 64 ≤ 140737488355328
  n : s.seen.length * 16 ≤ 140737488355328
  a : ∀ h ∈ s.held, h.acked.length * 8 ≤ 140737488355328
theorem c261o {hs : List Held} (h0 : hs ≠ []) (hb : hs.length * 64 ≤ 140737488355328) : ACalls prog 40 [.sl 5 (hs.map Held.enc)] [] (.row 0 1 0 hs.length) [.cells 1 5 75 false (hs.map Held.enc)] := by
  cases hs with
  | nil => exact absurd rfl h0
  | cons x xs => exact c261r_ok hb
theorem c152_pf (s : Station) (hB : ClBd s) : ACalls prog 16 [.agg [.int .i64 s.tab.node, .int .i64 s.tab.len, .sl 6 (s.tab.cells.map TCell.enc), .int .i64 s.q.limit, .sl 6 (s.q.pk.map Packet.enc), .sl 5 (s.held.map Held.enc), .sl 2 (s.seen.map Seen.enc), .int .i64 s.list, .int .i64 s.seq, .int .i64 s.trying, .int .i64 s.tries, .int .i64 s.back, .int .i64 s.wait, .int .i64 s.seed]] [] (.agg s.enc) [] := by
  obtain ⟨b1, b2, b3, b4, b5⟩ := hB
  refine calls_of hmx func16 (by kernel_rfl) (c := f16.body.getD .skip) rfl e152 (rs := [(.cell 2 true 14)]) (by kernel_rfl) (by simp [ntmps16]) ?_
  simp only [c152, argS]
  simp only [go_sem, seval]
  repeat' first | refine CX_pure (c82_ok b1) rfl rfl rfl rfl ?_ | refine GX_call (fun _ => (c82_ok b1)) (by rfl) (by intro h; simp only [h]; rfl) (by rfl) (by rfl) ?_ | (with_reducible intro h; try simp only [h]) | (with_reducible refine And.intro ?_ ?_) | (change chk _ _ = true; rfl) | simp only [go_sem, seval, Vc_bool] | refine (GX_split rfl).2 ?_
  repeat' first | refine CX_pure (c260_ok b2) rfl rfl rfl rfl ?_ | refine GX_call (fun _ => (c260_ok b2)) (by rfl) (by intro h; simp only [h]; rfl) (by rfl) (by rfl) ?_ | (with_reducible intro h; try simp only [h]) | (with_reducible refine And.intro ?_ ?_) | (change chk _ _ = true; rfl) | simp only [go_sem, seval, Vc_bool] | refine (GX_split rfl).2 ?_
  repeat' first | (with_reducible intro h; try simp only [h]) | (with_reducible refine And.intro ?_ ?_) | (change chk _ _ = true; rfl) | simp only [go_sem, seval, Vc_bool] | refine (GX_split rfl).2 ?_
  by_cases h0 : s.held = []
  · repeat' first | refine CX_pure (c261_ok b3) rfl rfl rfl rfl ?_ | refine GX_call (fun _ => (c261_ok b3)) (by rfl) (by intro h; simp only [h]; rfl) (by rfl) (by rfl) ?_ | (with_reducible intro h; try simp only [h]) | (with_reducible refine And.intro ?_ ?_) | (change chk _ _ = true; rfl) | simp only [go_sem, seval, Vc_bool] | refine (GX_split rfl).2 ?_
    repeat' first | refine CX_pure (c262_ok b4) rfl rfl rfl rfl ?_ | refine GX_call (fun _ => (c262_ok b4)) (by rfl) (by intro h; simp only [h]; rfl) (by rfl) (by rfl) ?_ | (with_reducible intro h; try simp only [h]) | (with_reducible refine And.intro ?_ ?_) | (change chk _ _ = true; rfl) | simp only [go_sem, seval, Vc_bool] | refine (GX_split rfl).2 ?_
    refine Lp.of_eq hmx c152L1.eq_1 ?_
    simp only [go_sem, seval, h0, List.map_nil, List.length_nil, show decide ((0:Int) < ((0:Nat):Int)) = false from rfl]
    refine Rt.gs (Gs_tell (s' := [(2, .ptr 1 0 0 0)]) (H' := [.dead, .cells 0 14 35 true [Station.enc { s with held := [] }]]) ?_ ?_) (Rt_pure ?_ rfl)
    · repeat' (first | exact FzL.nil | refine FzL.cons ?_ ?_ | exact Fz.wk (Wk.refl _) | exact Fz.wk (Wk.nil _) | exact Fz.wk (Wk.emp _) | exact Fz.row0 _ _ _ _ | exact FzH.nil _ | exact FzO.refl _ | refine FzO.one ?_ | refine FzH.cons (by decide) ?_ ?_ | refine FzH.this rfl ?_ | exact FzO.dead (by simp) | (simp only [List.forall_mem_cons, List.not_mem_nil, false_implies, implies_true, and_true, go_sem, seval]) | refine And.intro ?_ ?_)
    · repeat' (first | exact FzL.nil | refine FzL.cons ?_ ?_ | exact Fz.wk (Wk.refl _) | exact Fz.wk (Wk.nil _) | exact Fz.wk (Wk.emp _) | exact Fz.row0 _ _ _ _ | exact FzH.nil _ | exact FzO.refl _ | refine FzO.one ?_ | refine FzH.cons (by decide) ?_ ?_ | refine FzH.this rfl ?_ | exact FzO.dead (by simp) | (simp only [List.forall_mem_cons, List.not_mem_nil, false_implies, implies_true, and_true, go_sem, seval]) | refine And.intro ?_ ?_)
    · rfl
  · refine CX_new (r1 := .row 2 1 0 s.held.length) (c261o h0 b3) rfl rfl rfl (by rw [List.all_cons, List.all_nil, Bool.and_true]; exact lt_map (xs := s.held) fun _ => by rfl) (by rfl) ?_
    repeat' first | (with_reducible intro h; try simp only [h]) | (with_reducible refine And.intro ?_ ?_) | (change chk _ _ = true; rfl) | simp only [go_sem, seval, Vc_bool] | refine (GX_split rfl).2 ?_
    repeat' first | refine CX_pure (c262_ok b4) rfl rfl rfl rfl ?_ | refine GX_call (fun _ => (c262_ok b4)) (by rfl) (by intro h; simp only [h]; rfl) (by rfl) (by rfl) ?_ | (with_reducible intro h; try simp only [h]) | (with_reducible refine And.intro ?_ ?_) | (change chk _ _ = true; rfl) | simp only [go_sem, seval, Vc_bool] | refine (GX_split rfl).2 ?_
    refine Lp.bkE0 (l152 s (by omega) b5 _ _ _ (fun zs z1 z2 => ?_) s.held [] rfl) (by rfl) rfl
    simp only [go_sem, seval, z1, z2, Station.encH, zSt]
    refine Rt.gs (Gs_freeze 2 (s' := [(2, .ptr 1 0 0 0)]) (H' := [.dead, .cells 0 14 35 true [s.enc], .dead]) rfl ?_ ?_) (Rt_pure ?_ rfl)
    · refine List.forall_mem_cons.2 ⟨?_, by simp⟩
      simp only [go_sem, seval, z2]
      exact Fz.wk (Wk.refl _)
    · repeat' (first | exact FzL.nil | refine FzL.cons ?_ ?_ | exact Fz.wk (Wk.refl _) | exact Fz.wk (Wk.nil _) | exact Fz.wk (Wk.emp _) | exact Fz.row0 _ _ _ _ | exact FzH.nil _ | exact FzO.refl _ | refine FzO.one ?_ | refine FzH.cons (by decide) ?_ ?_ | refine FzH.this rfl ?_ | exact FzO.dead (by simp) | (simp only [List.forall_mem_cons, List.not_mem_nil, false_implies, implies_true, and_true, go_sem, seval]) | refine And.intro ?_ ?_)
      all_goals first | exact Fz.wk (Wk.refl _) | exact Fz.row 0 _ (by rw [List.drop_zero]; exact List.take_of_length_le (by simp)) (cloE_map fun _ => by rfl)
    · rfl
def c300 : SC := (.seq (.reg [(.box 2 60 (.t 0)), (.mv 4 (.c (.int .i64 0)))]) (.seq (.reg [(.fa 5 (.t 2) 0), (.ld 6 (.t 5) false 1), (.mv 7 (.t 1)), (.call (some 8) (.c (.func 60 [] [])) [(.t 6), (.t 7)]), (.mv 4 (.t 8))]) .ret))
theorem e300 : compC prog f74.ntmps (f74.body.getD .skip) = c300 := by kernel_rfl
def c299L1 : SC := (.seq (.seq (.reg [(.mv 15 (.t 9)), (.mv 16 (.t 10)), (.bin 17 .lss (.t 15) (.t 16))]) (.cond (.t 17) .skip (.exit 0))) (.block 1 (.seq (.reg [(.mv 18 (.t 9)), (.mv 19 (.t 10)), (.bin 20 .add (.t 18) (.t 19)), (.conv 21 .u64 (.t 20)), (.bin 22 .shr (.t 21) (.c (.int .u64 1))), (.conv 23 .i64 (.t 22)), (.mv 11 (.t 23))]) (.seq (.reg [(.mv 24 (.t 2)), (.mv 25 (.t 0)), (.mv 26 (.t 11)), (.ia 27 (.t 25) (.t 26) 6), (.ld 28 (.t 27) true 6), (.mv 29 (.t 1)), (.call (some 30) (.t 24) [(.t 28), (.t 29)]), (.bin 31 .lss (.t 30) (.c (.int .i64 0)))]) (.cond (.t 31) (.reg [(.mv 32 (.t 11)), (.bin 33 .add (.t 32) (.c (.int .i64 1))), (.mv 9 (.t 33))]) (.reg [(.mv 34 (.t 11)), (.mv 10 (.t 34))]))))))
def c299 : SC := (.seq (.reg [(.mv 6 (.c (.int .i64 0))), (.mv 7 (.c (.bool false)))]) (.seq (.reg [(.mv 12 (.t 0)), (.len 13 false (.t 12)), (.mv 8 (.t 13))]) (.seq (.reg [(.mv 14 (.t 8)), (.mv 9 (.c (.int .i64 0))), (.mv 10 (.t 14))]) (.seq (.block 0 (.loop c299L1)) (.seq (.reg [(.mv 35 (.t 9)), (.mv 36 (.t 9)), (.mv 37 (.t 8)), (.bin 38 .lss (.t 36) (.t 37)), (.mv 39 (.t 38)), (.g 39 true (some 40) (.mv 40 (.t 2))), (.g 39 true (some 41) (.mv 41 (.t 0))), (.g 39 true (some 42) (.mv 42 (.t 9))), (.g 39 true (some 43) (.ia 43 (.t 41) (.t 42) 6)), (.g 39 true (some 44) (.ld 44 (.t 43) true 6)), (.g 39 true (some 45) (.mv 45 (.t 1))), (.g 39 true (some 46) (.call (some 46) (.t 40) [(.t 44), (.t 45)])), (.g 39 true (some 47) (.bin 47 .eql (.t 46) (.c (.int .i64 0)))), (.pick 48 (.t 39) (.t 47) (.c (.bool false))), (.mv 6 (.t 35)), (.mv 7 (.t 48))]) .ret)))))
theorem e299 : compC prog f73.ntmps (f73.body.getD .skip) = c299 := by kernel_rfl
def c191 : SC := (.seq (.reg [(.box 2 28 (.t 0)), (.alc 4 60 [(.int .i64 0), (.int .i64 0), (.int .i64 0), (.bool false), (.int .i64 0), (.int .i64 0)]), (.mv 5 (.c (.bool false)))]) (.seq (.seq (.reg [(.ld 8 (.t 2) true 3), (.call (some 9) (.c (.func 25 [] [])) [(.t 8)]), (.bin 10 .neq (.t 9) (.c (.int .i64 0))), (.mv 11 (.t 10)), (.g 11 false (some 12) (.mv 12 (.t 1))), (.g 11 false (some 13) (.bin 13 .lss (.t 12) (.c (.int .i64 0)))), (.pick 14 (.t 11) (.c (.bool true)) (.t 13))]) (.cond (.t 14) (.seq (.reg [(.bld 15 [(.int .i64 0), (.int .i64 0), (.int .i64 0), (.bool false), (.int .i64 0), (.int .i64 0)] []), (.st (.t 4) (.t 15) 6), (.mv 5 (.c (.bool false)))]) .ret) .skip)) (.seq (.regD [(.fa 17 (.t 2) 2), (.ld 18 (.t 17) false 1), (.mv 19 (.t 1)), (.fa 20 (.t 2) 1), (.ld 21 (.t 20) false 1), (.bin 22 .rem (.t 19) (.t 21)), (.call (some 23) (.c (.func 73 [] [])) [(.t 18), (.t 22), (.c (.func 74 [] []))]), (.mv 16 (.t 23)), (.ext 24 (.t 16) 0), (.ext 25 (.t 16) 1), (.mv 6 (.t 24)), (.mv 7 (.t 25))] []) (.seq (.seq (.regD [(.mv 26 (.t 6)), (.fa 27 (.t 2) 2), (.ld 28 (.t 27) false 1), (.len 29 false (.t 28)), (.bin 30 .lss (.t 26) (.t 29)), (.mv 31 (.t 30)), (.g 31 true (some 32) (.fa 32 (.t 2) 2)), (.g 31 true (some 33) (.ld 33 (.t 32) false 1)), (.g 31 true (some 34) (.mv 34 (.t 6))), (.g 31 true (some 35) (.ia 35 (.t 33) (.t 34) 6)), (.g 31 true (some 36) (.fa 36 (.t 35) 0)), (.g 31 true (some 37) (.ld 37 (.t 36) false 1)), (.g 31 true (some 38) (.mv 38 (.t 1))), (.g 31 true (some 39) (.fa 39 (.t 2) 1)), (.g 31 true (some 40) (.ld 40 (.t 39) false 1)), (.g 31 true (some 41) (.bin 41 .rem (.t 38) (.t 40))), (.g 31 true (some 42) (.bin 42 .eql (.t 37) (.t 41))), (.pick 43 (.t 31) (.t 42) (.c (.bool false)))] []) (.cond (.t 43) (.seq (.reg [(.fa 44 (.t 2) 2), (.ld 45 (.t 44) false 1), (.mv 46 (.t 6)), (.ia 47 (.t 45) (.t 46) 6), (.ld 48 (.t 47) true 6), (.st (.t 4) (.t 48) 6), (.mv 5 (.c (.bool true)))]) .ret) .skip)) (.seq (.reg [(.bld 49 [(.int .i64 0), (.int .i64 0), (.int .i64 0), (.bool false), (.int .i64 0), (.int .i64 0)] []), (.st (.t 4) (.t 49) 6), (.mv 5 (.c (.bool false)))]) .ret)))))
theorem e191 : compC prog f43.ntmps (f43.body.getD .skip) = c191 := by kernel_rfl
theorem c300_pf (c : TCell) (n : Int)  : ACalls prog 74 [.agg [.int .i64 c.slot, .int .i64 c.off, .int .i64 c.kind, .bool c.send, .int .i64 c.peer, .int .i64 c.flow], .int .i64 n] [] (.int .i64 (cmp c.slot n)) [] := by
  refine calls_of hmx func74 (by kernel_rfl) (c := f74.body.getD .skip) rfl e300 (rs := [(.t 4)]) (by kernel_rfl) (by simp [ntmps74]) ?_
  simp only [c300, argS]
  simp only [go_sem, seval]
  repeat' first | (refine Rt_pure ?_ rfl; simp only [retO, retO1, retOs, S, get_cons, Nat.reduceEqDiff, reduceIte, obj, getO_cons_zero, getO_cons_succ, List.getElem?_cons_zero, List.getElem?_cons_succ, List.drop_zero, List.drop_succ_cons, loadFrom_cell, loadFrom_agg, List.length_cons, List.length_nil, Nat.reduceAdd, Nat.reduceLeDiff, List.take_succ_cons, List.take_zero, List.take_nil]) | refine CX_pure c151_ok rfl rfl rfl rfl ?_ | refine GX_call (fun _ => c151_ok) (by rfl) (by intro h; simp only [h]; rfl) (by rfl) (by rfl) ?_ | (with_reducible intro h; try simp only [h]) | (with_reducible refine And.intro ?_ ?_) | (change chk _ _ = true; rfl) | simp only [go_sem, seval, Vc_bool] | refine (GX_split rfl).2 ?_
theorem c300_ok {c_slot : Int} {c_off : Int} {c_kind : Int} {c_send : Bool} {c_peer : Int} {c_flow : Int} {n : Int}  : ACalls prog 74 [.agg [.int .i64 c_slot, .int .i64 c_off, .int .i64 c_kind, .bool c_send, .int .i64 c_peer, .int .i64 c_flow], .int .i64 n] [] (.int .i64 (cmp c_slot n)) [] := c300_pf (⟨c_slot, c_off, c_kind, c_send, c_peer, c_flow⟩ : TCell) n 

def cBsL (k : Nat) : SC := (.seq (.seq (.reg [(.mv 15 (.t 9)), (.mv 16 (.t 10)), (.bin 17 .lss (.t 15) (.t 16))]) (.cond (.t 17) .skip (.exit 0))) (.block 1 (.seq (.reg [(.mv 18 (.t 9)), (.mv 19 (.t 10)), (.bin 20 .add (.t 18) (.t 19)), (.conv 21 .u64 (.t 20)), (.bin 22 .shr (.t 21) (.c (.int .u64 1))), (.conv 23 .i64 (.t 22)), (.mv 11 (.t 23))]) (.seq (.reg [(.mv 24 (.t 2)), (.mv 25 (.t 0)), (.mv 26 (.t 11)), (.ia 27 (.t 25) (.t 26) k), (.ld 28 (.t 27) true k), (.mv 29 (.t 1)), (.call (some 30) (.t 24) [(.t 28), (.t 29)]), (.bin 31 .lss (.t 30) (.c (.int .i64 0)))]) (.cond (.t 31) (.reg [(.mv 32 (.t 11)), (.bin 33 .add (.t 32) (.c (.int .i64 1))), (.mv 9 (.t 33))]) (.reg [(.mv 34 (.t 11)), (.mv 10 (.t 34))]))))))
/-- Where a search ends. -/
def bsLo {α : Type} (c : α → Int) (xs : List α) : Nat := (xs.takeWhile fun x => decide (c x < 0)).length
def bsHit {α : Type} (c : α → Int) (xs : List α) : Bool := match xs[bsLo c xs]? with | some x => decide (c x = 0) | none => false
theorem mid_ok {i j : Nat} (h : i + j < 2 ^ 63) : IntKind.i64.wrap ((IntKind.u64.wrap (IntKind.i64.wrap ((i : Int) + (j : Int)))).fdiv (2 ^ min 1 64)) = ((i + j) / 2 : Nat) := by
  have e : (2 ^ min 1 64 : Int) = 2 := rfl
  have e1 : IntKind.i64.wrap ((i : Int) + (j : Int)) = (i : Int) + (j : Int) := wrap_ok (by omega) (by omega)
  have e2 : IntKind.u64.wrap ((i : Int) + (j : Int)) = (i : Int) + (j : Int) := by
    simp only [IntKind.wrap, IntKind.signed, IntKind.bits, Bool.false_and, Bool.false_eq_true, if_false]
    omega
  rw [e1, e2, e, Int.fdiv_eq_ediv_of_nonneg _ (by decide)]
  rw [wrap_ok (by omega) (by omega)]
  omega
section
variable {α : Type} {en : α → List AVal} {k : Nat} {xs : List α} {g : FuncId} {tv : AVal} {c : α → Int}
theorem bs_loop (hlen : xs.length < 2 ^ 62) (hen : ∀ x ∈ xs, (en x).length = k) (hea : ∀ x ∈ xs, ltL 0 (en x) = true) (htv : ltv 0 tv = true)
    (hcl : ∀ x ∈ xs, ACalls prog g [.agg (en x), tv] [] (.int .i64 (c x)) []) (hs : ∀ i x, xs[i]? = some x → (c x < 0 ↔ i < bsLo c xs)) (nt : Nat) (rs : List RS) (r : AVal) (k' : List It)
    (hk : ∀ s, get s 0 = .sl k (xs.map en) → get s 1 = tv → get s 2 = .func g [] [] → get s 8 = .int .i64 xs.length → get s 9 = .int .i64 (bsLo c xs) → V prog nt 0 (Ret rs 0 r []) k' s []) : ∀ (m i j : Nat), j - i ≤ m → i ≤ bsLo c xs → bsLo c xs ≤ j → j ≤ xs.length →
    Lp prog nt 0 (Ret rs 0 r []) (cBsL k) (.blk 0 :: k') [(0, .sl k (xs.map en)), (1, tv), (2, .func g [] []), (8, .int .i64 xs.length), (9, .int .i64 i), (10, .int .i64 j)] [] := by
  intro m
  induction m with
  | zero =>
    intro i j h1 h2 h3 h4
    refine Lp.of_eq hmx (cBsL.eq_1 k) ?_
    have e1 : decide ((i : Int) < (j : Int)) = false := by simp; omega
    simp only [go_sem, seval, e1]
    exact hk _ (by rfl) (by rfl) (by rfl) (by rfl) (by show AVal.int .i64 _ = _; congr 1; omega)
  | succ m ih =>
    intro i j h1 h2 h3 h4
    refine Lp.of_eq hmx (cBsL.eq_1 k) ?_
    rcases Nat.lt_or_ge i j with hij | hij
    · have e1 : decide ((i : Int) < (j : Int)) = true := by simp; omega
      have e2 := mid_ok (i := i) (j := j) (by omega)
      have hm : (i + j) / 2 < xs.length := by omega
      have e3 : (xs.map en)[(i + j) / 2]? = some (en xs[(i + j) / 2]) := by rw [List.getElem?_map, List.getElem?_eq_getElem hm]; rfl
      have hx : xs[(i + j) / 2] ∈ xs := List.getElem_mem hm
      have hek := hen _ hx
      have h5 : loadFrom true k (en xs[(i + j) / 2]) = some (.agg (en xs[(i + j) / 2])) := by simp [loadFrom, ← hek]
      have e4 : IntKind.i64.wrap (((i + j) / 2 : Nat) + (1 : Int)) = (((i + j) / 2 + 1 : Nat) : Int) := by rw [wrap_ok (by omega) (by omega)]; omega
      have hsx := hs ((i + j) / 2) _ (List.getElem?_eq_getElem hm)
      simp only [go_sem, seval, e1, e2, e3, e4, h5, Int.toNat_natCast, Int.natCast_nonneg, List.drop_zero]
      refine CX_pure (hcl _ hx) rfl rfl ?_ rfl ?_
      · simp only [List.nil_append, evs, ltL, ltv, hea _ hx, htv, Bool.and_self]
      · cases hc : decide (c xs[(i + j) / 2] < 0)
        · simp only [go_sem, seval, hc, e4]
          exact Lp.bk0 (ih i ((i + j) / 2) (by omega) h2 (by have : ¬ (c xs[(i + j) / 2] < 0) := of_decide_eq_false hc; rw [hsx] at this; omega) (by omega)) (by rfl)
        · simp only [go_sem, seval, hc, e4]
          exact Lp.bk0 (ih ((i + j) / 2 + 1) j (by omega) (by have : (c xs[(i + j) / 2] < 0) := of_decide_eq_true hc; rw [hsx] at this; omega) h3 h4) (by rfl)
    · have e1 : decide ((i : Int) < (j : Int)) = false := by simp; omega
      simp only [go_sem, seval, e1]
      exact hk _ (by rfl) (by rfl) (by rfl) (by rfl) (by show AVal.int .i64 _ = _; congr 1; omega)
end
theorem bsLo_le {α : Type} {c : α → Int} : ∀ (xs : List α), bsLo c xs ≤ xs.length
  | [] => Nat.le_refl _
  | x :: xs => by
    rw [bsLo, List.takeWhile_cons]
    split
    · have := bsLo_le (c := c) xs
      rw [bsLo] at this
      simp only [List.length_cons]
      omega
    · simp
theorem c299_ok {xs : List TCell} {n : Int} (hlen : xs.length < 2 ^ 62) (hs : ∀ i x, xs[i]? = some x → (cmp x.slot n < 0 ↔ i < bsLo (fun x => cmp x.slot n) xs)) :
    ACalls prog 73 [.sl 6 (xs.map TCell.enc), .int .i64 n, .func 74 [] []] [] (.tup [.int .i64 (bsLo (fun x => cmp x.slot n) xs), .bool (bsHit (fun x => cmp x.slot n) xs)]) [] := by
  refine calls_of hmx func73 (by kernel_rfl) (c := f73.body.getD .skip) rfl e299 (rs := [(.t 6), (.t 7)]) (by kernel_rfl) (by simp [ntmps73]) ?_
  simp only [c299, argS]
  simp only [go_sem, seval, List.length_map]
  refine Lp.bk0 (bs_loop (en := TCell.enc) (k := 6) hlen (fun _ _ => by rfl) (fun _ _ => by rfl) (by rfl) (fun x _ => c300_ok) hs _ _ _ _ (fun s z0 z1 z2 z8 z9 => ?_) xs.length 0 xs.length (by omega) (Nat.zero_le _) (bsLo_le _) (Nat.le_refl _)) (by rfl)
  have hle := bsLo_le (c := fun x => cmp x.slot n) xs
  rcases Nat.lt_or_ge (bsLo (fun x : TCell => cmp x.slot n) xs) xs.length with h | h
  · have e1 : decide (((bsLo (fun x => cmp x.slot n) xs : Nat) : Int) < (xs.length : Int)) = true := by simp; omega
    have e2 : (xs.map TCell.enc)[bsLo (fun x => cmp x.slot n) xs]? = some (TCell.enc xs[bsLo (fun x => cmp x.slot n) xs]) := by rw [List.getElem?_map, List.getElem?_eq_getElem h]; rfl
    have e3 : bsHit (fun x => cmp x.slot n) xs = decide (cmp xs[bsLo (fun x => cmp x.slot n) xs].slot n = 0) := by rw [bsHit, List.getElem?_eq_getElem h]
    rw [e3]
    simp only [go_sem, seval, z0, z1, z2, z8, z9, e1, e2, Int.toNat_natCast, Int.natCast_nonneg]
    refine CX_pure c300_ok rfl rfl rfl rfl ?_
    simp only [go_sem, seval]
    (refine Rt_pure ?_ rfl; simp only [retO, retO1, retOs, S, get_cons, Nat.reduceEqDiff, reduceIte, obj, getO_cons_zero, getO_cons_succ, List.getElem?_cons_zero, List.getElem?_cons_succ, List.drop_zero, List.drop_succ_cons, loadFrom_cell, loadFrom_agg, List.length_cons, List.length_nil, Nat.reduceAdd, Nat.reduceLeDiff, List.take_succ_cons, List.take_zero, List.take_nil])
  · have e1 : decide (((bsLo (fun x => cmp x.slot n) xs : Nat) : Int) < (xs.length : Int)) = false := by simp; omega
    have e3 : bsHit (fun x => cmp x.slot n) xs = false := by rw [bsHit, List.getElem?_eq_none h]
    rw [e3]
    simp only [go_sem, seval, z0, z1, z2, z8, z9, e1]
    (refine Rt_pure ?_ rfl; simp only [retO, retO1, retOs, S, get_cons, Nat.reduceEqDiff, reduceIte, obj, getO_cons_zero, getO_cons_succ, List.getElem?_cons_zero, List.getElem?_cons_succ, List.drop_zero, List.drop_succ_cons, loadFrom_cell, loadFrom_agg, List.length_cons, List.length_nil, Nat.reduceAdd, Nat.reduceLeDiff, List.take_succ_cons, List.take_zero, List.take_nil])

end Go.Av.T
