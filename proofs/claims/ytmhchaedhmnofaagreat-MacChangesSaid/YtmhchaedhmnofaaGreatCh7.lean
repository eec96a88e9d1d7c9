/- The seat: part Ch7. -/
import Derived.Test.YtmhchaedhmnofaaGreatCh6
import Derived.KernelRfl
set_option maxRecDepth 100000
set_option maxHeartbeats 1000000
set_option linter.unusedSimpArgs false
set_option linter.unusedVariables false
namespace Go.Av.T
open Go Go.Av Go.Av.Sp Go.Proofs.Tryz
def c81 : SC := (.seq (.reg [(.mv 4 (.c (.bool false)))]) (.seq (.reg [(.mv 5 (.t 0)), (.bin 6 .geq (.t 5) (.c (.int .i64 0))), (.mv 7 (.t 6)), (.g 7 true (some 8) (.mv 8 (.t 0))), (.g 7 true (some 9) (.mv 9 (.t 1))), (.g 7 true (some 10) (.bin 10 .leq (.t 8) (.t 9))), (.pick 11 (.t 7) (.t 10) (.c (.bool false))), (.mv 4 (.t 11))]) .ret))
theorem e81 : compC prog f81.ntmps (f81.body.getD .skip) = c81 := by kernel_rfl
def c181 : SC := (.seq (.reg [(.mv 2 (.c (.bool false)))]) (.seq (.reg [(.mv 3 (.t 0)), (.bin 4 .geq (.t 3) (.c (.int .i64 0))), (.mv 5 (.t 4)), (.g 5 true (some 6) (.mv 6 (.t 0))), (.g 5 true (some 7) (.bin 7 .lss (.t 6) (.c (.int .i64 32)))), (.pick 8 (.t 5) (.t 7) (.c (.bool false))), (.mv 2 (.t 8))]) .ret))
theorem e181 : compC prog f181.ntmps (f181.body.getD .skip) = c181 := by kernel_rfl
def c298 : SC := (.seq (.reg [(.mv 6 (.c (.bool false)))]) (.seq (.reg [(.mv 7 (.t 0)), (.mv 8 (.t 1)), (.bin 9 .geq (.t 7) (.t 8)), (.mv 10 (.t 9)), (.g 10 true (some 11) (.mv 11 (.t 0))), (.g 10 true (some 12) (.mv 12 (.t 2))), (.g 10 true (some 13) (.bin 13 .leq (.t 11) (.t 12))), (.pick 14 (.t 10) (.t 13) (.c (.bool false))), (.mv 6 (.t 14))]) .ret))
theorem e298 : compC prog f298.ntmps (f298.body.getD .skip) = c298 := by kernel_rfl
def c310 : SC := (.seq (.reg [(.mv 4 (.c (.bool false)))]) (.seq (.reg [(.mv 5 (.t 0)), (.bin 6 .geq (.t 5) (.c (.int .i64 0))), (.mv 7 (.t 6)), (.g 7 true (some 8) (.mv 8 (.t 0))), (.g 7 true (some 9) (.mv 9 (.t 1))), (.g 7 true (some 10) (.bin 10 .leq (.t 8) (.t 9))), (.pick 11 (.t 7) (.t 10) (.c (.bool false))), (.mv 4 (.t 11))]) .ret))
theorem e310 : compC prog f310.ntmps (f310.body.getD .skip) = c310 := by kernel_rfl
def c259 : SC := (.seq (.reg [(.mv 2 (.c (.bool false)))]) (.seq (.reg [(.mv 3 (.t 0)), (.mv 4 (.t 0)), (.bin 5 .neq (.t 3) (.t 4)), (.mv 2 (.t 5))]) .ret))
theorem e259 : compC prog f259.ntmps (f259.body.getD .skip) = c259 := by kernel_rfl
def c151 : SC := (.seq (.reg [(.mv 4 (.c (.int .i64 0)))]) (.seq (.reg [(.mv 7 (.t 0)), (.call (some 8) (.c (.func 259 [] [])) [(.t 7)]), (.mv 5 (.t 8))]) (.seq (.reg [(.mv 9 (.t 1)), (.call (some 10) (.c (.func 259 [] [])) [(.t 9)]), (.mv 6 (.t 10))]) (.seq (.seq (.reg [(.mv 11 (.t 5))]) (.cond (.t 11) (.seq (.seq (.reg [(.mv 12 (.t 6))]) (.cond (.t 12) (.seq (.reg [(.mv 4 (.c (.int .i64 0)))]) .ret) .skip)) (.seq (.reg [(.mv 4 (.c (.int .i64 (-1))))]) .ret)) .skip)) (.seq (.seq (.reg [(.mv 13 (.t 6))]) (.cond (.t 13) (.seq (.reg [(.mv 4 (.c (.int .i64 1)))]) .ret) .skip)) (.seq (.seq (.reg [(.mv 14 (.t 0)), (.mv 15 (.t 1)), (.bin 16 .lss (.t 14) (.t 15))]) (.cond (.t 16) (.seq (.reg [(.mv 4 (.c (.int .i64 (-1))))]) .ret) .skip)) (.seq (.seq (.reg [(.mv 17 (.t 0)), (.mv 18 (.t 1)), (.bin 19 .gtr (.t 17) (.t 18))]) (.cond (.t 19) (.seq (.reg [(.mv 4 (.c (.int .i64 1)))]) .ret) .skip)) (.seq (.reg [(.mv 4 (.c (.int .i64 0)))]) .ret))))))))
theorem e151 : compC prog f151.ntmps (f151.body.getD .skip) = c151 := by kernel_rfl
def c183 : SC := (.seq (.reg [(.box 2 57 (.t 0)), (.box 3 57 (.t 1)), (.mv 4 (.c (.int .i64 0)))]) (.seq (.regD [(.fa 5 (.t 2) 0), (.ld 6 (.t 5) false 1), (.fa 7 (.t 3) 0), (.ld 8 (.t 7) false 1), (.call (some 9) (.c (.func 151 [] [])) [(.t 6), (.t 8)]), (.fa 10 (.t 2) 2), (.ld 11 (.t 10) false 1), (.fa 12 (.t 3) 2), (.ld 13 (.t 12) false 1), (.call (some 14) (.c (.func 151 [] [])) [(.t 11), (.t 13)]), (.bsl 15 3 1 [(.int .i64 0)] 2 [(0, (.t 9)), (1, (.t 14))]), (.call (some 16) (.c (.func 297 [] [])) [(.t 15)]), (.mv 4 (.t 16))] [(4, 6), (4, 8)]) .ret))
theorem e183 : compC prog f183.ntmps (f183.body.getD .skip) = c183 := by kernel_rfl
def c297L1 : SC := (.seq (.reg [(.bin 9 .lss (.t 8) (.t 7))]) (.seq (.cond (.t 9) .skip (.exit 0)) (.seq (.block 1 (.seq (.reg [(.ia 10 (.t 6) (.t 8) 1), (.ld 11 (.t 10) false 1), (.mv 5 (.t 11))]) (.seq (.reg [(.mv 12 (.t 5)), (.mv 13 (.t 3)), (.bin 14 .neq (.t 12) (.t 13))]) (.cond (.t 14) (.seq (.reg [(.mv 15 (.t 5)), (.mv 2 (.t 15))]) .ret) .skip)))) (.reg [(.bin 16 .add (.t 8) (.c (.int .i64 1))), (.mv 8 (.t 16))]))))
def c297 : SC := (.seq (.reg [(.mv 2 (.c (.int .i64 0)))]) (.seq (.reg [(.mv 3 (.c (.int .i64 0)))]) (.seq (.seq (.reg [(.mv 6 (.t 0)), (.len 7 false (.t 6)), (.mv 8 (.c (.int .i64 0)))]) (.block 0 (.loop c297L1))) (.seq (.reg [(.mv 17 (.t 3)), (.mv 2 (.t 17))]) .ret))))
theorem e297 : compC prog f297.ntmps (f297.body.getD .skip) = c297 := by kernel_rfl
def c184 : SC := (.seq (.reg [(.box 2 24 (.t 0)), (.box 3 57 (.t 1)), (.mv 4 (.c (.int .i64 0)))]) (.seq (.seq (.reg [(.fa 5 (.t 3) 2), (.ld 6 (.t 5) false 1), (.bin 7 .lss (.t 6) (.c (.int .i64 1))), (.mv 8 (.t 7)), (.g 8 false (some 9) (.fa 9 (.t 3) 2)), (.g 8 false (some 10) (.ld 10 (.t 9) false 1)), (.g 8 false (some 11) (.bin 11 .gtr (.t 10) (.c (.int .i64 3)))), (.pick 12 (.t 8) (.c (.bool true)) (.t 11))]) (.cond (.t 12) (.seq (.reg [(.mv 4 (.c (.int .i64 1)))]) .ret) .skip)) (.seq (.seq (.reg [(.fa 13 (.t 3) 2), (.ld 14 (.t 13) false 1), (.bin 15 .neq (.t 14) (.c (.int .i64 1))), (.mv 16 (.t 15)), (.g 16 true (some 17) (.fa 17 (.t 3) 5)), (.g 16 true (some 18) (.ld 18 (.t 17) false 1)), (.g 16 true (some 19) (.bin 19 .neq (.t 18) (.c (.int .i64 (-1))))), (.pick 20 (.t 16) (.t 19) (.c (.bool false))), (.mv 21 (.t 20)), (.g 21 false (some 22) (.fa 22 (.t 3) 2)), (.g 21 false (some 23) (.ld 23 (.t 22) false 1)), (.g 21 false (some 24) (.bin 24 .eql (.t 23) (.c (.int .i64 3)))), (.g 21 false (some 25) (.mv 25 (.t 24))), (.g 25 true (some 26) (.fa 26 (.t 3) 4)), (.g 25 true (some 27) (.ld 27 (.t 26) false 1)), (.g 25 true (some 28) (.bin 28 .neq (.t 27) (.c (.int .i64 (-1))))), (.g 25 true (some 29) (.mv 29 (.t 28))), (.g 29 false (some 30) (.fa 30 (.t 3) 3)), (.g 29 false (some 31) (.ld 31 (.t 30) false 1)), (.g 25 true (some 32) (.pick 32 (.t 29) (.c (.bool true)) (.t 31))), (.g 21 false (some 33) (.pick 33 (.t 25) (.t 32) (.c (.bool false)))), (.pick 34 (.t 21) (.c (.bool true)) (.t 33))]) (.cond (.t 34) (.seq (.reg [(.mv 4 (.c (.int .i64 1)))]) .ret) .skip)) (.seq (.seq (.reg [(.fa 35 (.t 3) 0), (.ld 36 (.t 35) false 1), (.bin 37 .lss (.t 36) (.c (.int .i64 0))), (.mv 38 (.t 37)), (.g 38 false (some 39) (.fa 39 (.t 3) 0)), (.g 38 false (some 40) (.ld 40 (.t 39) false 1)), (.g 38 false (some 41) (.fa 41 (.t 2) 1)), (.g 38 false (some 42) (.ld 42 (.t 41) false 1)), (.g 38 false (some 43) (.bin 43 .geq (.t 40) (.t 42))), (.pick 44 (.t 38) (.c (.bool true)) (.t 43)), (.mv 45 (.t 44)), (.g 45 false (some 46) (.fa 46 (.t 3) 1)), (.g 45 false (some 47) (.ld 47 (.t 46) false 1)), (.g 45 false (some 48) (.bin 48 .lss (.t 47) (.c (.int .i64 0)))), (.pick 49 (.t 45) (.c (.bool true)) (.t 48)), (.mv 50 (.t 49)), (.g 50 false (some 51) (.fa 51 (.t 3) 1)), (.g 50 false (some 52) (.ld 52 (.t 51) false 1)), (.g 50 false (some 53) (.bin 53 .geq (.t 52) (.c (.int .i64 16)))), (.pick 54 (.t 50) (.c (.bool true)) (.t 53))]) (.cond (.t 54) (.seq (.reg [(.mv 4 (.c (.int .i64 2)))]) .ret) .skip)) (.seq (.seq (.reg [(.fa 55 (.t 3) 2), (.ld 56 (.t 55) false 1), (.bin 57 .neq (.t 56) (.c (.int .i64 3))), (.mv 58 (.t 57)), (.g 58 true (some 59) (.fa 59 (.t 3) 4)), (.g 58 true (some 60) (.ld 60 (.t 59) false 1)), (.g 58 true (some 61) (.bin 61 .lss (.t 60) (.c (.int .i64 0)))), (.g 58 true (some 62) (.mv 62 (.t 61))), (.g 62 false (some 63) (.fa 63 (.t 3) 4)), (.g 62 false (some 64) (.ld 64 (.t 63) false 1)), (.g 62 false (some 65) (.bin 65 .geq (.t 64) (.c (.int .i64 32)))), (.g 58 true (some 66) (.pick 66 (.t 62) (.c (.bool true)) (.t 65))), (.g 58 true (some 67) (.mv 67 (.t 66))), (.g 67 false (some 68) (.fa 68 (.t 3) 4)), (.g 67 false (some 69) (.ld 69 (.t 68) false 1)), (.g 67 false (some 70) (.fa 70 (.t 2) 0)), (.g 67 false (some 71) (.ld 71 (.t 70) false 1)), (.g 67 false (some 72) (.bin 72 .eql (.t 69) (.t 71))), (.g 58 true (some 73) (.pick 73 (.t 67) (.c (.bool true)) (.t 72))), (.pick 74 (.t 58) (.t 73) (.c (.bool false))), (.mv 75 (.t 74)), (.g 75 false (some 76) (.fa 76 (.t 3) 2)), (.g 75 false (some 77) (.ld 77 (.t 76) false 1)), (.g 75 false (some 78) (.bin 78 .eql (.t 77) (.c (.int .i64 1)))), (.g 75 false (some 79) (.mv 79 (.t 78))), (.g 79 true (some 80) (.fa 80 (.t 3) 5)), (.g 79 true (some 81) (.ld 81 (.t 80) false 1)), (.g 79 true (some 82) (.bin 82 .lss (.t 81) (.c (.int .i64 0)))), (.g 75 false (some 83) (.pick 83 (.t 79) (.t 82) (.c (.bool false)))), (.pick 84 (.t 75) (.c (.bool true)) (.t 83))]) (.cond (.t 84) (.seq (.reg [(.mv 4 (.c (.int .i64 2)))]) .ret) .skip)) (.seq (.reg [(.mv 4 (.c (.int .i64 0)))]) .ret))))))
theorem e184 : compC prog f184.ntmps (f184.body.getD .skip) = c184 := by kernel_rfl
def c185 : SC := (.seq (.reg [(.box 2 57 (.t 0)), (.box 3 57 (.t 1)), (.mv 4 (.c (.bool false)))]) (.seq (.reg [(.fa 5 (.t 2) 0), (.ld 6 (.t 5) false 1), (.fa 7 (.t 3) 0), (.ld 8 (.t 7) false 1), (.bin 9 .lss (.t 6) (.t 8)), (.mv 10 (.t 9)), (.g 10 false (some 11) (.fa 11 (.t 2) 0)), (.g 10 false (some 12) (.ld 12 (.t 11) false 1)), (.g 10 false (some 13) (.fa 13 (.t 3) 0)), (.g 10 false (some 14) (.ld 14 (.t 13) false 1)), (.g 10 false (some 15) (.bin 15 .eql (.t 12) (.t 14))), (.g 10 false (some 16) (.mv 16 (.t 15))), (.g 16 true (some 17) (.fa 17 (.t 2) 2)), (.g 16 true (some 18) (.ld 18 (.t 17) false 1)), (.g 16 true (some 19) (.fa 19 (.t 3) 2)), (.g 16 true (some 20) (.ld 20 (.t 19) false 1)), (.g 16 true (some 21) (.bin 21 .lss (.t 18) (.t 20))), (.g 10 false (some 22) (.pick 22 (.t 16) (.t 21) (.c (.bool false)))), (.pick 23 (.t 10) (.c (.bool true)) (.t 22)), (.mv 4 (.t 23))]) .ret))
theorem e185 : compC prog f185.ntmps (f185.body.getD .skip) = c185 := by kernel_rfl
def c90 : SC := (.seq (.reg [(.mv 2 (.c (.bool false)))]) (.seq (.reg [(.mv 3 (.t 0)), (.bin 4 .geq (.t 3) (.c (.int .i64 0))), (.mv 5 (.t 4)), (.g 5 true (some 6) (.mv 6 (.t 0))), (.g 5 true (some 7) (.bin 7 .lss (.t 6) (.c (.int .i64 32)))), (.pick 8 (.t 5) (.t 7) (.c (.bool false))), (.mv 2 (.t 8))]) .ret))
theorem e90 : compC prog f90.ntmps (f90.body.getD .skip) = c90 := by kernel_rfl
def c91 : SC := (.seq (.reg [(.mv 2 (.c (.bool false)))]) (.seq (.reg [(.mv 3 (.t 0)), (.bin 4 .geq (.t 3) (.c (.int .i64 0))), (.mv 5 (.t 4)), (.g 5 true (some 6) (.mv 6 (.t 0))), (.g 5 true (some 7) (.bin 7 .leq (.t 6) (.c (.int .i64 255)))), (.pick 8 (.t 5) (.t 7) (.c (.bool false))), (.mv 2 (.t 8))]) .ret))
theorem e91 : compC prog f91.ntmps (f91.body.getD .skip) = c91 := by kernel_rfl
def c178 : SC := (.seq (.reg [(.mv 2 (.c (.bool false)))]) (.seq (.reg [(.mv 3 (.t 0)), (.bin 4 .leq (.t 3) (.c (.int .i64 40))), (.mv 5 (.t 4)), (.g 5 false (some 6) (.mv 6 (.t 0))), (.g 5 false (some 7) (.bin 7 .gtr (.t 6) (.c (.int .i64 512)))), (.g 5 false (some 8) (.mv 8 (.t 7))), (.g 8 true (some 9) (.mv 9 (.t 0))), (.g 8 true (some 10) (.bin 10 .leq (.t 9) (.c (.int .i64 516)))), (.g 5 false (some 11) (.pick 11 (.t 8) (.t 10) (.c (.bool false)))), (.pick 12 (.t 5) (.c (.bool true)) (.t 11)), (.mv 2 (.t 12))]) .ret))
theorem e178 : compC prog f178.ntmps (f178.body.getD .skip) = c178 := by kernel_rfl
theorem c81_pf (n : Int) (m : Int)  : ACalls prog 81 [.int .i64 n, .int .i64 m] [] (.bool (wi n m)) [] := by
  refine calls_of hmx func81 (by kernel_rfl) (c := f81.body.getD .skip) rfl e81 (rs := [(.t 4)]) (by kernel_rfl) (by simp [ntmps81]) ?_
  simp only [c81, argS]
  simp only [go_sem, seval]
  (refine Rt_pure ?_ rfl; simp only [retO, retO1, retOs, S, get_cons, Nat.reduceEqDiff, reduceIte, obj, getO_cons_zero, getO_cons_succ, List.getElem?_cons_zero, List.getElem?_cons_succ, List.drop_zero, List.drop_succ_cons, loadFrom_cell, loadFrom_agg, List.length_cons, List.length_nil, Nat.reduceAdd, Nat.reduceLeDiff, List.take_succ_cons, List.take_zero, List.take_nil])
  simp [wi]
theorem c81_ok {n : Int} {m : Int}  : ACalls prog 81 [.int .i64 n, .int .i64 m] [] (.bool (wi n m)) [] := c81_pf n m 

theorem c181_pf (n : Int)  : ACalls prog 181 [.int .i64 n] [] (.bool (wi n 31)) [] := by
  refine calls_of hmx func181 (by kernel_rfl) (c := f181.body.getD .skip) rfl e181 (rs := [(.t 2)]) (by kernel_rfl) (by simp [ntmps181]) ?_
  simp only [c181, argS]
  simp only [go_sem, seval]
  (refine Rt_pure ?_ rfl; simp only [retO, retO1, retOs, S, get_cons, Nat.reduceEqDiff, reduceIte, obj, getO_cons_zero, getO_cons_succ, List.getElem?_cons_zero, List.getElem?_cons_succ, List.drop_zero, List.drop_succ_cons, loadFrom_cell, loadFrom_agg, List.length_cons, List.length_nil, Nat.reduceAdd, Nat.reduceLeDiff, List.take_succ_cons, List.take_zero, List.take_nil])
  grind [wi]
theorem c181_ok {n : Int}  : ACalls prog 181 [.int .i64 n] [] (.bool (wi n 31)) [] := c181_pf n 

theorem c298_pf (n : Int) (l : Int) (h : Int)  : ACalls prog 298 [.int .i64 n, .int .i64 l, .int .i64 h] [] (.bool (wi3 n l h)) [] := by
  refine calls_of hmx func298 (by kernel_rfl) (c := f298.body.getD .skip) rfl e298 (rs := [(.t 6)]) (by kernel_rfl) (by simp [ntmps298]) ?_
  simp only [c298, argS]
  simp only [go_sem, seval]
  (refine Rt_pure ?_ rfl; simp only [retO, retO1, retOs, S, get_cons, Nat.reduceEqDiff, reduceIte, obj, getO_cons_zero, getO_cons_succ, List.getElem?_cons_zero, List.getElem?_cons_succ, List.drop_zero, List.drop_succ_cons, loadFrom_cell, loadFrom_agg, List.length_cons, List.length_nil, Nat.reduceAdd, Nat.reduceLeDiff, List.take_succ_cons, List.take_zero, List.take_nil])
  simp [wi3]
theorem c298_ok {n : Int} {l : Int} {h : Int}  : ACalls prog 298 [.int .i64 n, .int .i64 l, .int .i64 h] [] (.bool (wi3 n l h)) [] := c298_pf n l h 

theorem c310_pf (n : Int) (m : Int)  : ACalls prog 310 [.int .i64 n, .int .i64 m] [] (.bool (wi n m)) [] := by
  refine calls_of hmx func310 (by kernel_rfl) (c := f310.body.getD .skip) rfl e310 (rs := [(.t 4)]) (by kernel_rfl) (by simp [ntmps310]) ?_
  simp only [c310, argS]
  simp only [go_sem, seval]
  (refine Rt_pure ?_ rfl; simp only [retO, retO1, retOs, S, get_cons, Nat.reduceEqDiff, reduceIte, obj, getO_cons_zero, getO_cons_succ, List.getElem?_cons_zero, List.getElem?_cons_succ, List.drop_zero, List.drop_succ_cons, loadFrom_cell, loadFrom_agg, List.length_cons, List.length_nil, Nat.reduceAdd, Nat.reduceLeDiff, List.take_succ_cons, List.take_zero, List.take_nil])
  simp [wi]
theorem c310_ok {n : Int} {m : Int}  : ACalls prog 310 [.int .i64 n, .int .i64 m] [] (.bool (wi n m)) [] := c310_pf n m 

theorem c259_pf (n : Int)  : ACalls prog 259 [.int .i64 n] [] (.bool false) [] := by
  refine calls_of hmx func259 (by kernel_rfl) (c := f259.body.getD .skip) rfl e259 (rs := [(.t 2)]) (by kernel_rfl) (by simp [ntmps259]) ?_
  simp only [c259, argS]
  simp only [go_sem, seval]
  (refine Rt_pure ?_ rfl; simp only [retO, retO1, retOs, S, get_cons, Nat.reduceEqDiff, reduceIte, obj, getO_cons_zero, getO_cons_succ, List.getElem?_cons_zero, List.getElem?_cons_succ, List.drop_zero, List.drop_succ_cons, loadFrom_cell, loadFrom_agg, List.length_cons, List.length_nil, Nat.reduceAdd, Nat.reduceLeDiff, List.take_succ_cons, List.take_zero, List.take_nil])
theorem c259_ok {n : Int}  : ACalls prog 259 [.int .i64 n] [] (.bool false) [] := c259_pf n 

theorem c90_pf (n : Int)  : ACalls prog 90 [.int .i64 n] [] (.bool (wi n 31)) [] := by
  refine calls_of hmx func90 (by kernel_rfl) (c := f90.body.getD .skip) rfl e90 (rs := [(.t 2)]) (by kernel_rfl) (by simp [ntmps90]) ?_
  simp only [c90, argS]
  simp only [go_sem, seval]
  (refine Rt_pure ?_ rfl; simp only [retO, retO1, retOs, S, get_cons, Nat.reduceEqDiff, reduceIte, obj, getO_cons_zero, getO_cons_succ, List.getElem?_cons_zero, List.getElem?_cons_succ, List.drop_zero, List.drop_succ_cons, loadFrom_cell, loadFrom_agg, List.length_cons, List.length_nil, Nat.reduceAdd, Nat.reduceLeDiff, List.take_succ_cons, List.take_zero, List.take_nil])
  grind [wi]
theorem c90_ok {n : Int}  : ACalls prog 90 [.int .i64 n] [] (.bool (wi n 31)) [] := c90_pf n 

theorem c91_pf (n : Int)  : ACalls prog 91 [.int .i64 n] [] (.bool (wi n 255)) [] := by
  refine calls_of hmx func91 (by kernel_rfl) (c := f91.body.getD .skip) rfl e91 (rs := [(.t 2)]) (by kernel_rfl) (by simp [ntmps91]) ?_
  simp only [c91, argS]
  simp only [go_sem, seval]
  (refine Rt_pure ?_ rfl; simp only [retO, retO1, retOs, S, get_cons, Nat.reduceEqDiff, reduceIte, obj, getO_cons_zero, getO_cons_succ, List.getElem?_cons_zero, List.getElem?_cons_succ, List.drop_zero, List.drop_succ_cons, loadFrom_cell, loadFrom_agg, List.length_cons, List.length_nil, Nat.reduceAdd, Nat.reduceLeDiff, List.take_succ_cons, List.take_zero, List.take_nil])
  simp [wi]
theorem c91_ok {n : Int}  : ACalls prog 91 [.int .i64 n] [] (.bool (wi n 255)) [] := c91_pf n 

def cmp (a b : Int) : Int := if a < b then -1 else if b < a then 1 else 0
theorem c151_pf (a : Int) (b : Int)  : ACalls prog 151 [.int .i64 a, .int .i64 b] [] (.int .i64 (cmp a b)) [] := by
  refine calls_of hmx func151 (by kernel_rfl) (c := f151.body.getD .skip) rfl e151 (rs := [(.t 4)]) (by kernel_rfl) (by simp [ntmps151]) ?_
  simp only [c151, argS]
  simp only [go_sem, seval]
  repeat' first | (refine Rt_pure ?_ rfl; simp only [retO, retO1, retOs, S, get_cons, Nat.reduceEqDiff, reduceIte, obj, getO_cons_zero, getO_cons_succ, List.getElem?_cons_zero, List.getElem?_cons_succ, List.drop_zero, List.drop_succ_cons, loadFrom_cell, loadFrom_agg, List.length_cons, List.length_nil, Nat.reduceAdd, Nat.reduceLeDiff, List.take_succ_cons, List.take_zero, List.take_nil]) | refine CX_pure c259_ok rfl rfl rfl rfl ?_ | refine GX_call (fun _ => c259_ok) (by rfl) (by intro h; simp only [h]; rfl) (by rfl) (by rfl) ?_ | (with_reducible intro h; try simp only [h]) | (with_reducible refine And.intro ?_ ?_) | (change chk _ _ = true; rfl) | simp only [go_sem, seval, Vc_bool] | refine (GX_split rfl).2 ?_
  all_goals grind [cmp]
theorem c151_ok {a : Int} {b : Int}  : ACalls prog 151 [.int .i64 a, .int .i64 b] [] (.int .i64 (cmp a b)) [] := c151_pf a b 

theorem c184_pf (t : Table) (c : TCell)  : ACalls prog 184 [.agg [.int .i64 t.node, .int .i64 t.len, .sl 6 (t.cells.map TCell.enc)], .agg [.int .i64 c.slot, .int .i64 c.off, .int .i64 c.kind, .bool c.send, .int .i64 c.peer, .int .i64 c.flow]] [] (.int .i64 (cellErr t.node t.len c)) [] := by
  refine calls_of hmx func184 (by kernel_rfl) (c := f184.body.getD .skip) rfl e184 (rs := [(.t 4)]) (by kernel_rfl) (by simp [ntmps184]) ?_
  simp only [c184, argS]
  simp only [go_sem, seval, encs]
  repeat' first | (refine Rt_pure ?_ rfl; simp only [retO, retO1, retOs, S, get_cons, Nat.reduceEqDiff, reduceIte, obj, getO_cons_zero, getO_cons_succ, List.getElem?_cons_zero, List.getElem?_cons_succ, List.drop_zero, List.drop_succ_cons, loadFrom_cell, loadFrom_agg, List.length_cons, List.length_nil, Nat.reduceAdd, Nat.reduceLeDiff, List.take_succ_cons, List.take_zero, List.take_nil]) | (with_reducible intro h; try simp only [h]) | (with_reducible refine And.intro ?_ ?_) | (change chk _ _ = true; rfl) | simp only [go_sem, seval, Vc_bool] | refine (GX_split rfl).2 ?_
  all_goals grind [cellErr]
theorem c184_ok {t_node : Int} {t_len : Int} {t_cells : List TCell} {c_slot : Int} {c_off : Int} {c_kind : Int} {c_send : Bool} {c_peer : Int} {c_flow : Int}  : ACalls prog 184 [.agg [.int .i64 t_node, .int .i64 t_len, .sl 6 (t_cells.map TCell.enc)], .agg [.int .i64 c_slot, .int .i64 c_off, .int .i64 c_kind, .bool c_send, .int .i64 c_peer, .int .i64 c_flow]] [] (.int .i64 (cellErr t_node t_len (⟨c_slot, c_off, c_kind, c_send, c_peer, c_flow⟩ : TCell))) [] := c184_pf (⟨t_node, t_len, t_cells⟩ : Table) (⟨c_slot, c_off, c_kind, c_send, c_peer, c_flow⟩ : TCell) 

theorem c185_pf (a : TCell) (b : TCell)  : ACalls prog 185 [.agg [.int .i64 a.slot, .int .i64 a.off, .int .i64 a.kind, .bool a.send, .int .i64 a.peer, .int .i64 a.flow], .agg [.int .i64 b.slot, .int .i64 b.off, .int .i64 b.kind, .bool b.send, .int .i64 b.peer, .int .i64 b.flow]] [] (.bool (cellLess a b)) [] := by
  refine calls_of hmx func185 (by kernel_rfl) (c := f185.body.getD .skip) rfl e185 (rs := [(.t 4)]) (by kernel_rfl) (by simp [ntmps185]) ?_
  simp only [c185, argS]
  simp only [go_sem, seval]
  (refine Rt_pure ?_ rfl; simp only [retO, retO1, retOs, S, get_cons, Nat.reduceEqDiff, reduceIte, obj, getO_cons_zero, getO_cons_succ, List.getElem?_cons_zero, List.getElem?_cons_succ, List.drop_zero, List.drop_succ_cons, loadFrom_cell, loadFrom_agg, List.length_cons, List.length_nil, Nat.reduceAdd, Nat.reduceLeDiff, List.take_succ_cons, List.take_zero, List.take_nil])
  simp [cellLess]
theorem c185_ok {a_slot : Int} {a_off : Int} {a_kind : Int} {a_send : Bool} {a_peer : Int} {a_flow : Int} {b_slot : Int} {b_off : Int} {b_kind : Int} {b_send : Bool} {b_peer : Int} {b_flow : Int}  : ACalls prog 185 [.agg [.int .i64 a_slot, .int .i64 a_off, .int .i64 a_kind, .bool a_send, .int .i64 a_peer, .int .i64 a_flow], .agg [.int .i64 b_slot, .int .i64 b_off, .int .i64 b_kind, .bool b_send, .int .i64 b_peer, .int .i64 b_flow]] [] (.bool (cellLess (⟨a_slot, a_off, a_kind, a_send, a_peer, a_flow⟩ : TCell) (⟨b_slot, b_off, b_kind, b_send, b_peer, b_flow⟩ : TCell))) [] := c185_pf (⟨a_slot, a_off, a_kind, a_send, a_peer, a_flow⟩ : TCell) (⟨b_slot, b_off, b_kind, b_send, b_peer, b_flow⟩ : TCell) 

theorem c178_pf (n : Int)  : ACalls prog 178 [.int .i64 n] [] (.bool (fewCells n)) [] := by
  refine calls_of hmx func178 (by kernel_rfl) (c := f178.body.getD .skip) rfl e178 (rs := [(.t 2)]) (by kernel_rfl) (by simp [ntmps178]) ?_
  simp only [c178, argS]
  simp only [go_sem, seval]
  (refine Rt_pure ?_ rfl; simp only [retO, retO1, retOs, S, get_cons, Nat.reduceEqDiff, reduceIte, obj, getO_cons_zero, getO_cons_succ, List.getElem?_cons_zero, List.getElem?_cons_succ, List.drop_zero, List.drop_succ_cons, loadFrom_cell, loadFrom_agg, List.length_cons, List.length_nil, Nat.reduceAdd, Nat.reduceLeDiff, List.take_succ_cons, List.take_zero, List.take_nil])
  simp [fewCells]
theorem c178_ok {n : Int}  : ACalls prog 178 [.int .i64 n] [] (.bool (fewCells n)) [] := c178_pf n 


def c182 : SC := (.seq (.reg [(.box 3 57 (.t 0)), (.mv 6 (.c (.int .i64 0)))]) (.seq (.reg [(.fa 9 (.t 3) 2), (.ld 10 (.t 9) false 1), (.bin 11 .eql (.t 10) (.c (.int .i64 3))), (.mv 7 (.t 11))]) (.seq (.reg [(.fa 12 (.t 3) 2), (.ld 13 (.t 12) false 1), (.bin 14 .eql (.t 13) (.c (.int .i64 1))), (.mv 8 (.t 14))]) (.seq (.block 0 (.seq (.reg [(.mv 16 (.t 7)), (.not 17 (.t 16)), (.mv 18 (.t 17)), (.g 18 true (some 19) (.mv 19 (.t 8))), (.g 18 true (some 20) (.not 20 (.t 19))), (.pick 21 (.t 18) (.t 20) (.c (.bool false))), (.mv 22 (.t 21)), (.g 22 true (some 23) (.fa 23 (.t 3) 2)), (.g 22 true (some 24) (.ld 24 (.t 23) false 1)), (.g 22 true (some 25) (.bin 25 .neq (.t 24) (.c (.int .i64 2)))), (.pick 26 (.t 22) (.t 25) (.c (.bool false))), (.mv 15 (.t 26))]) (.cond (.t 15) (.seq (.reg [(.mv 6 (.c (.int .i64 1)))]) .ret) (.seq (.seq (.reg [(.mv 28 (.t 8)), (.not 29 (.t 28)), (.mv 30 (.t 29)), (.g 30 true (some 31) (.fa 31 (.t 3) 5)), (.g 30 true (some 32) (.ld 32 (.t 31) false 1)), (.g 30 true (some 33) (.bin 33 .neq (.t 32) (.c (.int .i64 (-1))))), (.pick 34 (.t 30) (.t 33) (.c (.bool false))), (.mv 27 (.t 34))]) (.cond (.t 27) .skip (.reg [(.mv 35 (.t 7)), (.mv 36 (.t 35)), (.g 36 true (some 37) (.fa 37 (.t 3) 4)), (.g 36 true (some 38) (.ld 38 (.t 37) false 1)), (.g 36 true (some 39) (.bin 39 .neq (.t 38) (.c (.int .i64 (-1))))), (.g 36 true (some 40) (.mv 40 (.t 39))), (.g 40 false (some 41) (.fa 41 (.t 3) 3)), (.g 40 false (some 42) (.ld 42 (.t 41) false 1)), (.g 36 true (some 43) (.pick 43 (.t 40) (.c (.bool true)) (.t 42))), (.pick 44 (.t 36) (.t 43) (.c (.bool false))), (.mv 27 (.t 44))]))) (.cond (.t 27) (.seq (.reg [(.mv 6 (.c (.int .i64 1)))]) .ret) (.seq (.seq (.reg [(.fa 46 (.t 3) 0), (.ld 47 (.t 46) false 1), (.bin 48 .lss (.t 47) (.c (.int .i64 0))), (.mv 49 (.t 48)), (.g 49 false (some 50) (.fa 50 (.t 3) 0)), (.g 49 false (some 51) (.ld 51 (.t 50) false 1)), (.g 49 false (some 52) (.mv 52 (.t 2))), (.g 49 false (some 53) (.bin 53 .geq (.t 51) (.t 52))), (.pick 54 (.t 49) (.c (.bool true)) (.t 53)), (.mv 45 (.t 54))]) (.cond (.t 45) .skip (.seq (.reg [(.fa 55 (.t 3) 1), (.ld 56 (.t 55) false 1), (.bin 57 .lss (.t 56) (.c (.int .i64 0))), (.mv 58 (.t 57)), (.g 58 false (some 59) (.fa 59 (.t 3) 1)), (.g 58 false (some 60) (.ld 60 (.t 59) false 1)), (.g 58 false (some 61) (.bin 61 .geq (.t 60) (.c (.int .i64 16)))), (.pick 62 (.t 58) (.c (.bool true)) (.t 61)), (.mv 45 (.t 62))]) (.cond (.t 45) .skip (.seq (.reg [(.mv 63 (.t 7)), (.not 64 (.t 63)), (.mv 65 (.t 64)), (.g 65 true (some 66) (.fa 66 (.t 3) 4)), (.g 65 true (some 67) (.ld 67 (.t 66) false 1)), (.g 65 true (some 68) (.call (some 68) (.c (.func 181 [] [])) [(.t 67)])), (.g 65 true (some 69) (.not 69 (.t 68))), (.g 65 true (some 70) (.mv 70 (.t 69))), (.g 70 false (some 71) (.fa 71 (.t 3) 4)), (.g 70 false (some 72) (.ld 72 (.t 71) false 1)), (.g 70 false (some 73) (.mv 73 (.t 1))), (.g 70 false (some 74) (.bin 74 .eql (.t 72) (.t 73))), (.g 65 true (some 75) (.pick 75 (.t 70) (.c (.bool true)) (.t 74))), (.pick 76 (.t 65) (.t 75) (.c (.bool false))), (.mv 45 (.t 76))]) (.cond (.t 45) .skip (.reg [(.mv 77 (.t 8)), (.mv 78 (.t 77)), (.g 78 true (some 79) (.fa 79 (.t 3) 5)), (.g 78 true (some 80) (.ld 80 (.t 79) false 1)), (.g 78 true (some 81) (.bin 81 .lss (.t 80) (.c (.int .i64 0)))), (.pick 82 (.t 78) (.t 81) (.c (.bool false))), (.mv 45 (.t 82))]))))))) (.cond (.t 45) (.seq (.reg [(.mv 6 (.c (.int .i64 2)))]) .ret) .skip))))))) (.seq (.reg [(.mv 6 (.c (.int .i64 0)))]) .ret)))))
theorem e182 : compC prog f182.ntmps (f182.body.getD .skip) = c182 := by kernel_rfl
theorem c182_pf (c : TCell) (self : Int) (len : Int)  : ACalls prog 182 [.agg [.int .i64 c.slot, .int .i64 c.off, .int .i64 c.kind, .bool c.send, .int .i64 c.peer, .int .i64 c.flow], .int .i64 self, .int .i64 len] [] (.int .i64 (cellErr self len c)) [] := by
  refine calls_of hmx func182 (by kernel_rfl) (c := f182.body.getD .skip) rfl e182 (rs := [(.t 6)]) (by kernel_rfl) (by simp [ntmps182]) ?_
  simp only [c182, argS]
  simp only [go_sem, seval]
  repeat' first | (refine Rt_pure ?_ rfl; simp only [retO, retO1, retOs, S, get_cons, Nat.reduceEqDiff, reduceIte, obj, getO_cons_zero, getO_cons_succ, List.getElem?_cons_zero, List.getElem?_cons_succ, List.drop_zero, List.drop_succ_cons, loadFrom_cell, loadFrom_agg, List.length_cons, List.length_nil, Nat.reduceAdd, Nat.reduceLeDiff, List.take_succ_cons, List.take_zero, List.take_nil]) | refine CX_pure c181_ok rfl rfl rfl rfl ?_ | refine GX_call (fun _ => c181_ok) (by rfl) (by intro h; simp only [h]; rfl) (by rfl) (by rfl) ?_ | (with_reducible intro h; try simp only [h]) | (with_reducible refine And.intro ?_ ?_) | (change chk _ _ = true; rfl) | simp only [go_sem, seval, Vc_bool] | refine (GX_split rfl).2 ?_
  all_goals (simp only [bnorm, AVal.int.injEq, AVal.bool.injEq, true_and, cellErr, wi] at *; grind)
theorem c182_ok {c_slot : Int} {c_off : Int} {c_kind : Int} {c_send : Bool} {c_peer : Int} {c_flow : Int} {self : Int} {len : Int}  : ACalls prog 182 [.agg [.int .i64 c_slot, .int .i64 c_off, .int .i64 c_kind, .bool c_send, .int .i64 c_peer, .int .i64 c_flow], .int .i64 self, .int .i64 len] [] (.int .i64 (cellErr self len (⟨c_slot, c_off, c_kind, c_send, c_peer, c_flow⟩ : TCell))) [] := c182_pf (⟨c_slot, c_off, c_kind, c_send, c_peer, c_flow⟩ : TCell) self len 


def c80L1 : SC := (.seq (.reg [(.bin 28 .lss (.t 27) (.t 26))]) (.seq (.cond (.t 28) .skip (.exit 0)) (.seq (.block 1 (.seq (.reg [(.mv 29 (.t 27)), (.ia 30 (.t 25) (.t 27) 6), (.ld 31 (.t 30) true 6), (.alc 4 57 [(.int .i64 0), (.int .i64 0), (.int .i64 0), (.bool false), (.int .i64 0), (.int .i64 0)]), (.mv 3 (.t 29)), (.st (.t 4) (.t 31) 6)]) (.seq (.seq (.reg [(.ld 32 (.t 4) true 6), (.fa 33 (.t 1) 0), (.ld 34 (.t 33) false 1), (.fa 35 (.t 1) 1), (.ld 36 (.t 35) false 1), (.call (some 37) (.c (.func 182 [] [])) [(.t 32), (.t 34), (.t 36)]), (.mv 5 (.t 37))]) (.seq (.reg [(.mv 38 (.t 5)), (.bin 39 .neq (.t 38) (.c (.int .i64 0)))]) (.cond (.t 39) (.seq (.reg [(.mv 40 (.t 5)), (.mv 2 (.t 40))]) .ret) .skip))) (.seq (.regD [(.mv 41 (.t 3)), (.bin 42 .gtr (.t 41) (.c (.int .i64 0))), (.mv 43 (.t 42)), (.g 43 true (some 44) (.fa 44 (.t 1) 2)), (.g 43 true (some 45) (.ld 45 (.t 44) false 1)), (.g 43 true (some 46) (.mv 46 (.t 3))), (.g 43 true (some 47) (.bin 47 .sub (.t 46) (.c (.int .i64 1)))), (.g 43 true (some 48) (.ia 48 (.t 45) (.t 47) 6)), (.g 43 true (some 49) (.ld 49 (.t 48) true 6)), (.g 43 true (some 50) (.ld 50 (.t 4) true 6)), (.g 43 true (some 51) (.call (some 51) (.c (.func 183 [] [])) [(.t 49), (.t 50)])), (.g 43 true (some 52) (.bin 52 .geq (.t 51) (.c (.int .i64 0)))), (.pick 53 (.t 43) (.t 52) (.c (.bool false)))] []) (.cond (.t 53) (.seq (.reg [(.mv 2 (.c (.int .i64 5)))]) .ret) .skip))))) (.reg [(.bin 54 .add (.t 27) (.c (.int .i64 1))), (.mv 27 (.t 54))]))))
def c80 : SC := (.seq (.reg [(.box 1 24 (.t 0)), (.mv 2 (.c (.int .i64 0)))]) (.seq (.seq (.reg [(.fa 6 (.t 1) 0), (.ld 7 (.t 6) false 1), (.call (some 8) (.c (.func 181 [] [])) [(.t 7)]), (.not 9 (.t 8)), (.mv 10 (.t 9)), (.g 10 false (some 11) (.fa 11 (.t 1) 1)), (.g 10 false (some 12) (.ld 12 (.t 11) false 1)), (.g 10 false (some 13) (.bin 13 .lss (.t 12) (.c (.int .i64 1)))), (.pick 14 (.t 10) (.c (.bool true)) (.t 13)), (.mv 15 (.t 14)), (.g 15 false (some 16) (.fa 16 (.t 1) 1)), (.g 15 false (some 17) (.ld 17 (.t 16) false 1)), (.g 15 false (some 18) (.bin 18 .gtr (.t 17) (.c (.int .i64 512)))), (.pick 19 (.t 15) (.c (.bool true)) (.t 18))]) (.cond (.t 19) (.seq (.reg [(.mv 2 (.c (.int .i64 2)))]) .ret) .skip)) (.seq (.seq (.reg [(.fa 20 (.t 1) 2), (.ld 21 (.t 20) false 1), (.len 22 false (.t 21)), (.bin 23 .gtr (.t 22) (.c (.int .i64 512)))]) (.cond (.t 23) (.seq (.reg [(.mv 2 (.c (.int .i64 8)))]) .ret) .skip)) (.seq (.seq (.reg [(.fa 24 (.t 1) 2), (.ld 25 (.t 24) false 1), (.len 26 false (.t 25)), (.mv 27 (.c (.int .i64 0)))]) (.block 0 (.loop c80L1))) (.seq (.reg [(.mv 2 (.c (.int .i64 0)))]) .ret)))))
theorem e80 : compC prog f80.ntmps (f80.body.getD .skip) = c80 := by kernel_rfl
def c83L1 : SC := (.seq (.seq (.reg [(.mv 27 (.t 3)), (.fa 28 (.t 1) 2), (.ld 29 (.t 28) false 1), (.len 30 false (.t 29)), (.bin 31 .lss (.t 27) (.t 30))]) (.cond (.t 31) .skip (.exit 0))) (.seq (.block 1 (.seq (.seq (.regD [(.ld 34 (.t 1) true 3), (.fa 35 (.t 1) 2), (.ld 36 (.t 35) false 1), (.mv 37 (.t 3)), (.ia 38 (.t 36) (.t 37) 6), (.ld 39 (.t 38) true 6), (.call (some 40) (.c (.func 184 [] [])) [(.t 34), (.t 39)]), (.mv 4 (.t 40))] []) (.seq (.reg [(.mv 41 (.t 4)), (.bin 42 .neq (.t 41) (.c (.int .i64 0)))]) (.cond (.t 42) (.seq (.reg [(.mv 43 (.t 4)), (.mv 2 (.t 43))]) .ret) .skip))) (.seq (.regD [(.mv 44 (.t 3)), (.bin 45 .gtr (.t 44) (.c (.int .i64 0))), (.mv 46 (.t 45)), (.g 46 true (some 47) (.fa 47 (.t 1) 2)), (.g 46 true (some 48) (.ld 48 (.t 47) false 1)), (.g 46 true (some 49) (.mv 49 (.t 3))), (.g 46 true (some 50) (.bin 50 .sub (.t 49) (.c (.int .i64 1)))), (.g 46 true (some 51) (.ia 51 (.t 48) (.t 50) 6)), (.g 46 true (some 52) (.ld 52 (.t 51) true 6)), (.g 46 true (some 53) (.fa 53 (.t 1) 2)), (.g 46 true (some 54) (.ld 54 (.t 53) false 1)), (.g 46 true (some 55) (.mv 55 (.t 3))), (.g 46 true (some 56) (.ia 56 (.t 54) (.t 55) 6)), (.g 46 true (some 57) (.ld 57 (.t 56) true 6)), (.g 46 true (some 58) (.call (some 58) (.c (.func 185 [] [])) [(.t 52), (.t 57)])), (.g 46 true (some 59) (.not 59 (.t 58))), (.pick 60 (.t 46) (.t 59) (.c (.bool false)))] []) (.cond (.t 60) (.seq (.reg [(.mv 2 (.c (.int .i64 5)))]) .ret) .skip)))) (.reg [(.mv 32 (.t 3)), (.bin 33 .add (.t 32) (.c (.int .i64 1))), (.mv 3 (.t 33))])))
def c83 : SC := (.seq (.reg [(.box 1 24 (.t 0)), (.mv 2 (.c (.int .i64 0)))]) (.seq (.seq (.reg [(.fa 5 (.t 1) 0), (.ld 6 (.t 5) false 1), (.bin 7 .lss (.t 6) (.c (.int .i64 0))), (.mv 8 (.t 7)), (.g 8 false (some 9) (.fa 9 (.t 1) 0)), (.g 8 false (some 10) (.ld 10 (.t 9) false 1)), (.g 8 false (some 11) (.bin 11 .geq (.t 10) (.c (.int .i64 32)))), (.pick 12 (.t 8) (.c (.bool true)) (.t 11)), (.mv 13 (.t 12)), (.g 13 false (some 14) (.fa 14 (.t 1) 1)), (.g 13 false (some 15) (.ld 15 (.t 14) false 1)), (.g 13 false (some 16) (.bin 16 .lss (.t 15) (.c (.int .i64 1)))), (.pick 17 (.t 13) (.c (.bool true)) (.t 16)), (.mv 18 (.t 17)), (.g 18 false (some 19) (.fa 19 (.t 1) 1)), (.g 18 false (some 20) (.ld 20 (.t 19) false 1)), (.g 18 false (some 21) (.bin 21 .gtr (.t 20) (.c (.int .i64 512)))), (.pick 22 (.t 18) (.c (.bool true)) (.t 21))]) (.cond (.t 22) (.seq (.reg [(.mv 2 (.c (.int .i64 2)))]) .ret) .skip)) (.seq (.seq (.reg [(.fa 23 (.t 1) 2), (.ld 24 (.t 23) false 1), (.len 25 false (.t 24)), (.bin 26 .gtr (.t 25) (.c (.int .i64 512)))]) (.cond (.t 26) (.seq (.reg [(.mv 2 (.c (.int .i64 8)))]) .ret) .skip)) (.seq (.seq (.reg [(.mv 3 (.c (.int .i64 0)))]) (.block 0 (.loop c83L1))) (.seq (.reg [(.mv 2 (.c (.int .i64 0)))]) .ret)))))
theorem e83 : compC prog f83.ntmps (f83.body.getD .skip) = c83 := by kernel_rfl
theorem c297_ok {a b : Int} : ACalls prog 297 [.row 0 0 0 2] [.cells 0 1 3 true [[.int .i64 a], [.int .i64 b]]] (.int .i64 (if a = 0 then b else a)) [.cells 0 1 3 true [[.int .i64 a], [.int .i64 b]]] := by
  refine calls_of hmx func297 (by kernel_rfl) (c := f297.body.getD .skip) rfl e297 (rs := [(.t 2)]) (by kernel_rfl) (by simp [ntmps297]) ?_
  simp only [c297, argS]
  simp only [go_sem, seval]
  refine Lp.of_eq hmx c297L1.eq_1 ?_
  simp only [go_sem, seval]
  simp only [go_sem, seval, Vc_bool]
  refine ⟨fun h1 => ?_, fun h1 => ?_⟩
  · refine Rt_all ?_ rfl rfl (Nat.le_refl _)
    simp only [retO, retO1, retOs, S, get_cons, Nat.reduceEqDiff, reduceIte, obj, getO_cons_zero, getO_cons_succ, List.getElem?_cons_zero, List.getElem?_cons_succ, List.drop_zero, List.drop_succ_cons, loadFrom_cell, loadFrom_agg, List.length_cons, List.length_nil, Nat.reduceAdd, Nat.reduceLeDiff, List.take_succ_cons, List.take_zero, List.take_nil]
    grind
  · refine Lp.of_eq hmx c297L1.eq_1 ?_
    simp only [go_sem, seval]
    simp only [go_sem, seval, Vc_bool]
    refine ⟨fun h2 => ?_, fun h2 => ?_⟩
    · refine Rt_all ?_ rfl rfl (Nat.le_refl _)
      simp only [retO, retO1, retOs, S, get_cons, Nat.reduceEqDiff, reduceIte, obj, getO_cons_zero, getO_cons_succ, List.getElem?_cons_zero, List.getElem?_cons_succ, List.drop_zero, List.drop_succ_cons, loadFrom_cell, loadFrom_agg, List.length_cons, List.length_nil, Nat.reduceAdd, Nat.reduceLeDiff, List.take_succ_cons, List.take_zero, List.take_nil]
      grind
    · refine Lp.of_eq hmx c297L1.eq_1 ?_
      simp only [go_sem, seval]
      refine Rt_all ?_ rfl rfl (Nat.le_refl _)
      simp only [retO, retO1, retOs, S, get_cons, Nat.reduceEqDiff, reduceIte, obj, getO_cons_zero, getO_cons_succ, List.getElem?_cons_zero, List.getElem?_cons_succ, List.drop_zero, List.drop_succ_cons, loadFrom_cell, loadFrom_agg, List.length_cons, List.length_nil, Nat.reduceAdd, Nat.reduceLeDiff, List.take_succ_cons, List.take_zero, List.take_nil]
      grind
def cellCmp (a b : TCell) : Int := if cmp a.slot b.slot = 0 then cmp a.kind b.kind else cmp a.slot b.slot
theorem cellCmp_less (a b : TCell) : decide (0 ≤ cellCmp a b) = !cellLess a b := by
  simp only [cellCmp, cellLess, cmp]
  grind
theorem c183_pf (a : TCell) (b : TCell)  : ACalls prog 183 [.agg [.int .i64 a.slot, .int .i64 a.off, .int .i64 a.kind, .bool a.send, .int .i64 a.peer, .int .i64 a.flow], .agg [.int .i64 b.slot, .int .i64 b.off, .int .i64 b.kind, .bool b.send, .int .i64 b.peer, .int .i64 b.flow]] [] (.int .i64 (cellCmp a b)) [] := by
  refine calls_of hmx func183 (by kernel_rfl) (c := f183.body.getD .skip) rfl e183 (rs := [(.t 4)]) (by kernel_rfl) (by simp [ntmps183]) ?_
  simp only [c183, argS]
  simp only [go_sem, seval]
  refine CX_pure c151_ok rfl rfl rfl rfl ?_
  simp only [go_sem, seval]
  refine CX_pure c151_ok rfl rfl rfl rfl ?_
  simp only [go_sem, seval]
  refine CX_rd [2] c297_ok (by rfl) (by rfl) (by rfl) (by rfl) (by rfl) (by decide) (by rfl) (by rfl) (by rfl) ?_
  simp only [go_sem, seval]
  refine ⟨by rfl, ?_⟩
  (refine Rt_pure ?_ rfl; simp only [retO, retO1, retOs, S, get_cons, Nat.reduceEqDiff, reduceIte, obj, getO_cons_zero, getO_cons_succ, List.getElem?_cons_zero, List.getElem?_cons_succ, List.drop_zero, List.drop_succ_cons, loadFrom_cell, loadFrom_agg, List.length_cons, List.length_nil, Nat.reduceAdd, Nat.reduceLeDiff, List.take_succ_cons, List.take_zero, List.take_nil])
  grind [cellCmp]
theorem c183_ok {a_slot : Int} {a_off : Int} {a_kind : Int} {a_send : Bool} {a_peer : Int} {a_flow : Int} {b_slot : Int} {b_off : Int} {b_kind : Int} {b_send : Bool} {b_peer : Int} {b_flow : Int}  : ACalls prog 183 [.agg [.int .i64 a_slot, .int .i64 a_off, .int .i64 a_kind, .bool a_send, .int .i64 a_peer, .int .i64 a_flow], .agg [.int .i64 b_slot, .int .i64 b_off, .int .i64 b_kind, .bool b_send, .int .i64 b_peer, .int .i64 b_flow]] [] (.int .i64 (cellCmp (⟨a_slot, a_off, a_kind, a_send, a_peer, a_flow⟩ : TCell) (⟨b_slot, b_off, b_kind, b_send, b_peer, b_flow⟩ : TCell))) [] := c183_pf (⟨a_slot, a_off, a_kind, a_send, a_peer, a_flow⟩ : TCell) (⟨b_slot, b_off, b_kind, b_send, b_peer, b_flow⟩ : TCell) 

theorem l80 (t : Table) (hL : t.cells.length < 2 ^ 62) (k' : List It) (hk : ∀ s, V prog f80.ntmps 0 (Ret [.t 2] 0 (.int .i64 0) []) k' s [.cells 0 3 24 true [t.enc]]) : ∀ (rest done : List TCell), t.cells = done ++ rest →
    Lp prog f80.ntmps 0 (Ret [.t 2] 0 (.int .i64 (chainE (cellErr t.node t.len) cellLess 5 done.getLast? rest)) []) c80L1 (.blk 0 :: k') [(1, .ptr 0 0 0 0), (25, .sl 6 (t.cells.map TCell.enc)), (26, .int .i64 t.cells.length), (27, .int .i64 done.length)] [.cells 0 3 24 true [t.enc]] := by
  intro rest
  induction rest with
  | nil =>
    intro done hd
    refine Lp.of_eq hmx c80L1.eq_1 ?_
    have h1 := rg_end hd
    simp only [go_sem, seval, h1]
    exact hk _
  | cons c rest ih =>
    intro done hd
    refine Lp.of_eq hmx c80L1.eq_1 ?_
    obtain ⟨h1, h2, h3, h4⟩ := rg_hd TCell.enc hd hL
    have ih' := ih _ h4
    rw [List.getLast?_append, List.getLast?_singleton, Option.some_or] at ih'
    simp only [go_sem, seval, h1, h2, h3, Int.toNat_natCast, Int.natCast_nonneg]
    refine CX_pure c182_ok rfl rfl rfl rfl ?_
    simp only [go_sem, seval, Vc_bool]
    refine ⟨fun h5 => ?_, fun h5 => ?_⟩
    · (refine Rt_pure ?_ rfl; simp only [retO, retO1, retOs, S, get_cons, Nat.reduceEqDiff, reduceIte, obj, getO_cons_zero, getO_cons_succ, List.getElem?_cons_zero, List.getElem?_cons_succ, List.drop_zero, List.drop_succ_cons, loadFrom_cell, loadFrom_agg, List.length_cons, List.length_nil, Nat.reduceAdd, Nat.reduceLeDiff, List.take_succ_cons, List.take_zero, List.take_nil])
      grind [chainE]
    · rcases List.eq_nil_or_concat done with h0 | ⟨ds, p, h0⟩
      · subst h0
        simp only [go_sem, seval, rg_first, h3]
        have e : chainE (cellErr t.node t.len) cellLess 5 none (c :: rest) = chainE (cellErr t.node t.len) cellLess 5 (some c) rest := by grind [chainE]
        rw [← e] at ih'
        exact Lp.bk [_] ih' (by rfl) (by rfl) (by rfl) (Nat.zero_le _)
      · rw [List.concat_eq_append] at h0
        subst h0
        obtain ⟨p1, p2, p3⟩ := rg_prev TCell.enc hd hL
        simp only [go_sem, seval, p1, p2, p3, h3, Int.toNat_natCast, Int.natCast_nonneg]
        refine CX_pure c183_ok rfl rfl rfl rfl ?_
        simp only [go_sem, seval, Vc_bool, cellCmp_less, h3]
        refine ⟨fun h6 => ?_, fun h6 => ?_⟩
        · (refine Rt_pure ?_ rfl; simp only [retO, retO1, retOs, S, get_cons, Nat.reduceEqDiff, reduceIte, obj, getO_cons_zero, getO_cons_succ, List.getElem?_cons_zero, List.getElem?_cons_succ, List.drop_zero, List.drop_succ_cons, loadFrom_cell, loadFrom_agg, List.length_cons, List.length_nil, Nat.reduceAdd, Nat.reduceLeDiff, List.take_succ_cons, List.take_zero, List.take_nil])
          grind [chainE]
        · have e : chainE (cellErr t.node t.len) cellLess 5 (ds ++ [p]).getLast? (c :: rest) = chainE (cellErr t.node t.len) cellLess 5 (some c) rest := by grind [chainE]
          rw [← e] at ih'
          exact Lp.bk [_] ih' (by rfl) (by rfl) (by rfl) (Nat.zero_le _)
theorem c80_pf (t : Table) (hL : t.cells.length < 2 ^ 62) : ACalls prog 80 [.agg [.int .i64 t.node, .int .i64 t.len, .sl 6 (t.cells.map TCell.enc)]] [] (.int .i64 (tabErr t)) [] := by
  refine calls_of hmx func80 (by kernel_rfl) (c := f80.body.getD .skip) rfl e80 (rs := [(.t 2)]) (by kernel_rfl) (by simp [ntmps80]) ?_
  simp only [c80, argS]
  simp only [go_sem, seval]
  refine CX_pure c181_ok rfl rfl rfl rfl ?_
  simp only [go_sem, seval, Vc_bool, List.length_map]
  refine ⟨fun h1 => ?_, fun h1 => ⟨fun h2 => ?_, fun h2 => ?_⟩⟩
  · (refine Rt_pure ?_ rfl; simp only [retO, retO1, retOs, S, get_cons, Nat.reduceEqDiff, reduceIte, obj, getO_cons_zero, getO_cons_succ, List.getElem?_cons_zero, List.getElem?_cons_succ, List.drop_zero, List.drop_succ_cons, loadFrom_cell, loadFrom_agg, List.length_cons, List.length_nil, Nat.reduceAdd, Nat.reduceLeDiff, List.take_succ_cons, List.take_zero, List.take_nil])
    grind [tabErr, wi]
  · (refine Rt_pure ?_ rfl; simp only [retO, retO1, retOs, S, get_cons, Nat.reduceEqDiff, reduceIte, obj, getO_cons_zero, getO_cons_succ, List.getElem?_cons_zero, List.getElem?_cons_succ, List.drop_zero, List.drop_succ_cons, loadFrom_cell, loadFrom_agg, List.length_cons, List.length_nil, Nat.reduceAdd, Nat.reduceLeDiff, List.take_succ_cons, List.take_zero, List.take_nil])
    grind [tabErr, wi]
  · have e : tabErr t = chainE (cellErr t.node t.len) cellLess 5 ([] : List TCell).getLast? t.cells := by grind [tabErr, wi]
    rw [e]
    refine Lp.bk0 (l80 t hL _ (fun s => ?_) t.cells [] rfl) (by rfl)
    simp only [go_sem, seval]
    (refine Rt_pure ?_ rfl; simp only [retO, retO1, retOs, S, get_cons, Nat.reduceEqDiff, reduceIte, obj, getO_cons_zero, getO_cons_succ, List.getElem?_cons_zero, List.getElem?_cons_succ, List.drop_zero, List.drop_succ_cons, loadFrom_cell, loadFrom_agg, List.length_cons, List.length_nil, Nat.reduceAdd, Nat.reduceLeDiff, List.take_succ_cons, List.take_zero, List.take_nil])
theorem c80_ok {t_node : Int} {t_len : Int} {t_cells : List TCell} (hL : t_cells.length < 2 ^ 62) : ACalls prog 80 [.agg [.int .i64 t_node, .int .i64 t_len, .sl 6 (t_cells.map TCell.enc)]] [] (.int .i64 (tabErr (⟨t_node, t_len, t_cells⟩ : Table))) [] := c80_pf (⟨t_node, t_len, t_cells⟩ : Table) hL

theorem l83 (t : Table) (hL : t.cells.length < 2 ^ 62) (k' : List It) (hk : ∀ s, V prog f83.ntmps 0 (Ret [.t 2] 0 (.int .i64 0) []) k' s [.cells 0 3 24 true [t.enc]]) : ∀ (rest done : List TCell), t.cells = done ++ rest →
    Lp prog f83.ntmps 0 (Ret [.t 2] 0 (.int .i64 (chainE (cellErr t.node t.len) cellLess 5 done.getLast? rest)) []) c83L1 (.blk 0 :: k') [(1, .ptr 0 0 0 0), (3, .int .i64 done.length)] [.cells 0 3 24 true [t.enc]] := by
  intro rest
  induction rest with
  | nil =>
    intro done hd
    refine Lp.of_eq hmx c83L1.eq_1 ?_
    have h1 := rg_end hd
    simp only [go_sem, seval, h1, List.length_map]
    exact hk _
  | cons c rest ih =>
    intro done hd
    refine Lp.of_eq hmx c83L1.eq_1 ?_
    obtain ⟨h1, h2, h3, h4⟩ := rg_hd TCell.enc hd hL
    have ih' := ih _ h4
    rw [List.getLast?_append, List.getLast?_singleton, Option.some_or] at ih'
    simp only [go_sem, seval, h1, h2, h3, Int.toNat_natCast, Int.natCast_nonneg, List.length_map]
    refine CX_pure c184_ok rfl rfl rfl rfl ?_
    simp only [go_sem, seval, Vc_bool]
    refine ⟨fun h5 => ?_, fun h5 => ?_⟩
    · (refine Rt_pure ?_ rfl; simp only [retO, retO1, retOs, S, get_cons, Nat.reduceEqDiff, reduceIte, obj, getO_cons_zero, getO_cons_succ, List.getElem?_cons_zero, List.getElem?_cons_succ, List.drop_zero, List.drop_succ_cons, loadFrom_cell, loadFrom_agg, List.length_cons, List.length_nil, Nat.reduceAdd, Nat.reduceLeDiff, List.take_succ_cons, List.take_zero, List.take_nil])
      grind [chainE]
    · rcases List.eq_nil_or_concat done with h0 | ⟨ds, p, h0⟩
      · subst h0
        simp only [go_sem, seval, rg_first, h3]
        have e : chainE (cellErr t.node t.len) cellLess 5 none (c :: rest) = chainE (cellErr t.node t.len) cellLess 5 (some c) rest := by grind [chainE]
        rw [← e] at ih'
        exact Lp.bk0 ih' (by rfl)
      · rw [List.concat_eq_append] at h0
        subst h0
        obtain ⟨p1, p2, p3⟩ := rg_prev TCell.enc hd hL
        simp only [go_sem, seval, p1, p2, p3, h2, h3, Int.toNat_natCast, Int.natCast_nonneg]
        refine CX_pure c185_ok rfl rfl rfl rfl ?_
        simp only [go_sem, seval, Vc_bool, h3]
        refine ⟨fun h6 => ?_, fun h6 => ?_⟩
        · (refine Rt_pure ?_ rfl; simp only [retO, retO1, retOs, S, get_cons, Nat.reduceEqDiff, reduceIte, obj, getO_cons_zero, getO_cons_succ, List.getElem?_cons_zero, List.getElem?_cons_succ, List.drop_zero, List.drop_succ_cons, loadFrom_cell, loadFrom_agg, List.length_cons, List.length_nil, Nat.reduceAdd, Nat.reduceLeDiff, List.take_succ_cons, List.take_zero, List.take_nil])
          grind [chainE]
        · have e : chainE (cellErr t.node t.len) cellLess 5 (ds ++ [p]).getLast? (c :: rest) = chainE (cellErr t.node t.len) cellLess 5 (some c) rest := by grind [chainE]
          rw [← e] at ih'
          exact Lp.bk0 ih' (by rfl)
theorem c83_pf (t : Table) (hL : t.cells.length < 2 ^ 62) : ACalls prog 83 [.agg [.int .i64 t.node, .int .i64 t.len, .sl 6 (t.cells.map TCell.enc)]] [] (.int .i64 (tabErr t)) [] := by
  refine calls_of hmx func83 (by kernel_rfl) (c := f83.body.getD .skip) rfl e83 (rs := [(.t 2)]) (by kernel_rfl) (by simp [ntmps83]) ?_
  simp only [c83, argS]
  simp only [go_sem, seval, Vc_bool, List.length_map]
  refine ⟨fun h1 => ?_, fun h1 => ⟨fun h2 => ?_, fun h2 => ?_⟩⟩
  · (refine Rt_pure ?_ rfl; simp only [retO, retO1, retOs, S, get_cons, Nat.reduceEqDiff, reduceIte, obj, getO_cons_zero, getO_cons_succ, List.getElem?_cons_zero, List.getElem?_cons_succ, List.drop_zero, List.drop_succ_cons, loadFrom_cell, loadFrom_agg, List.length_cons, List.length_nil, Nat.reduceAdd, Nat.reduceLeDiff, List.take_succ_cons, List.take_zero, List.take_nil])
    grind [tabErr, wi]
  · (refine Rt_pure ?_ rfl; simp only [retO, retO1, retOs, S, get_cons, Nat.reduceEqDiff, reduceIte, obj, getO_cons_zero, getO_cons_succ, List.getElem?_cons_zero, List.getElem?_cons_succ, List.drop_zero, List.drop_succ_cons, loadFrom_cell, loadFrom_agg, List.length_cons, List.length_nil, Nat.reduceAdd, Nat.reduceLeDiff, List.take_succ_cons, List.take_zero, List.take_nil])
    grind [tabErr, wi]
  · have e : tabErr t = chainE (cellErr t.node t.len) cellLess 5 ([] : List TCell).getLast? t.cells := by grind [tabErr, wi]
    rw [e]
    refine Lp.bk0 (l83 t hL _ (fun s => ?_) t.cells [] rfl) (by rfl)
    simp only [go_sem, seval]
    (refine Rt_pure ?_ rfl; simp only [retO, retO1, retOs, S, get_cons, Nat.reduceEqDiff, reduceIte, obj, getO_cons_zero, getO_cons_succ, List.getElem?_cons_zero, List.getElem?_cons_succ, List.drop_zero, List.drop_succ_cons, loadFrom_cell, loadFrom_agg, List.length_cons, List.length_nil, Nat.reduceAdd, Nat.reduceLeDiff, List.take_succ_cons, List.take_zero, List.take_nil])
theorem c83_ok {t_node : Int} {t_len : Int} {t_cells : List TCell} (hL : t_cells.length < 2 ^ 62) : ACalls prog 83 [.agg [.int .i64 t_node, .int .i64 t_len, .sl 6 (t_cells.map TCell.enc)]] [] (.int .i64 (tabErr (⟨t_node, t_len, t_cells⟩ : Table))) [] := c83_pf (⟨t_node, t_len, t_cells⟩ : Table) hL


/-- The code of slices.IndexFunc, k cells an element. -/
def cIdxL (k : Nat) : SC := (.seq (.reg [(.bin 9 .lss (.t 8) (.t 7))]) (.seq (.cond (.t 9) .skip (.exit 0)) (.seq (.block 1 (.seq (.reg [(.mv 10 (.t 8)), (.mv 5 (.t 10))]) (.seq (.reg [(.mv 11 (.t 1)), (.mv 12 (.t 0)), (.mv 13 (.t 5)), (.ia 14 (.t 12) (.t 13) k), (.ld 15 (.t 14) true k), (.call (some 16) (.t 11) [(.t 15)])]) (.cond (.t 16) (.seq (.reg [(.mv 17 (.t 5)), (.mv 4 (.t 17))]) .ret) .skip)))) (.reg [(.bin 18 .add (.t 8) (.c (.int .i64 1))), (.mv 8 (.t 18))]))))
def cIdx (k : Nat) : SC := (.seq (.reg [(.mv 4 (.c (.int .i64 0)))]) (.seq (.seq (.reg [(.mv 6 (.t 0)), (.len 7 false (.t 6)), (.mv 8 (.c (.int .i64 0)))]) (.block 0 (.loop (cIdxL k)))) (.seq (.reg [(.mv 4 (.c (.int .i64 (-1))))]) .ret)))
theorem e206 : compC prog f206.ntmps (f206.body.getD .skip) = cIdx 6 := by kernel_rfl
theorem e200 : compC prog f200.ntmps (f200.body.getD .skip) = cIdx 5 := by kernel_rfl
theorem e309 : compC prog f309.ntmps (f309.body.getD .skip) = cIdx 6 := by kernel_rfl
section
variable {α : Type} {en : α → List AVal} {k : Nat} {xs : List α} {g : FuncId} {first caps : List AVal} {Hc : Heap} {p : α → Bool}
theorem idx_loop (hlen : xs.length < 2 ^ 62) (hen : ∀ x ∈ xs, (en x).length = k) (hea : ∀ x ∈ xs, ltL Hc.length (en x) = true) (hfun : ltv Hc.length (.func g first caps) = true) (hH : Hc.all (ltO Hc.length) = true)
    (hcl : ∀ x ∈ xs, ACalls prog g (first ++ [.agg (en x)] ++ caps) Hc (.bool (p x)) Hc) (k' : List It) (hk : ∀ s, V prog 19 Hc.length (Ret [.t 4] Hc.length (.int .i64 (-1)) Hc) k' s Hc) : ∀ (rest done : List α), xs = done ++ rest →
    Lp prog 19 Hc.length (Ret [.t 4] Hc.length (.int .i64 (idxFrom p done.length rest)) Hc) (cIdxL k) (.blk 0 :: k') [(0, .sl k (xs.map en)), (1, .func g first caps), (7, .int .i64 xs.length), (8, .int .i64 done.length)] Hc := by
  intro rest
  induction rest with
  | nil =>
    intro done hd
    refine Lp.of_eq hmx (cIdxL.eq_1 k) ?_
    have h1 := rg_end hd
    simp only [go_sem, seval, h1]
    exact hk _
  | cons c rest ih =>
    intro done hd
    refine Lp.of_eq hmx (cIdxL.eq_1 k) ?_
    obtain ⟨h1, h2, h3, h4⟩ := rg_hd en hd hlen
    have ih' := ih _ h4
    have hc : c ∈ xs := by rw [hd]; simp
    have hek := hen c hc
    have h5 : loadFrom true k (en c) = some (.agg (en c)) := by simp [loadFrom, ← hek]
    simp only [go_sem, seval, h1, h2, h3, h5, Int.toNat_natCast, Int.natCast_nonneg, List.drop_zero]
    refine CX_self (hcl c hc) rfl rfl ?_ rfl hH ?_
    · rw [ltv, Bool.and_eq_true] at hfun
      rw [ltL_append, ltL_append, hfun.1, hfun.2]
      simp [ltL, ltv, hea c hc]
    · simp only [go_sem, seval, Vc_bool, h3]
      refine ⟨fun h6 => ?_, fun h6 => ?_⟩
      · refine Rt_all ?_ rfl hH (Nat.le_refl _)
        simp only [retO, retO1, retOs, S, get_cons, Nat.reduceEqDiff, reduceIte, obj, getO_cons_zero, getO_cons_succ, List.getElem?_cons_zero, List.getElem?_cons_succ, List.drop_zero, List.drop_succ_cons, loadFrom_cell, loadFrom_agg, List.length_cons, List.length_nil, Nat.reduceAdd, Nat.reduceLeDiff, List.take_succ_cons, List.take_zero, List.take_nil]
        simp [idxFrom, h6]
      · have e : idxFrom p done.length (c :: rest) = idxFrom p (done ++ [c]).length rest := by simp [idxFrom, h6]
        rw [← e] at ih'
        exact Lp.bk0 ih' (by rfl)
theorem idx_V (hlen : xs.length < 2 ^ 62) (hen : ∀ x ∈ xs, (en x).length = k) (hea : ∀ x ∈ xs, ltL Hc.length (en x) = true) (hfun : ltv Hc.length (.func g first caps) = true) (hH : Hc.all (ltO Hc.length) = true)
    (hcl : ∀ x ∈ xs, ACalls prog g (first ++ [.agg (en x)] ++ caps) Hc (.bool (p x)) Hc) : V prog 19 Hc.length (Ret [.t 4] Hc.length (.int .i64 (idxFrom p 0 xs)) Hc) [.code (cIdx k)] (argS [.sl k (xs.map en), .func g first caps] 0) Hc := by
  simp only [cIdx, argS]
  simp only [go_sem, seval, List.length_map]
  refine Lp.bk0 (idx_loop hlen hen hea hfun hH hcl _ (fun s => ?_) xs [] rfl) (by rfl)
  simp only [go_sem, seval]
  refine Rt_all ?_ rfl hH (Nat.le_refl _)
  simp only [retO, retO1, retOs, S, get_cons, Nat.reduceEqDiff, reduceIte, obj, getO_cons_zero, getO_cons_succ, List.getElem?_cons_zero, List.getElem?_cons_succ, List.drop_zero, List.drop_succ_cons, loadFrom_cell, loadFrom_agg, List.length_cons, List.length_nil, Nat.reduceAdd, Nat.reduceLeDiff, List.take_succ_cons, List.take_zero, List.take_nil]
end
/-- slices.IndexFunc. -/
def IdxF (f k : Nat) : Prop := ∀ {α : Type} {en : α → List AVal} {xs : List α} {g : FuncId} {first caps : List AVal} {Hc : Heap} {p : α → Bool}, xs.length < 2 ^ 62 → (∀ x ∈ xs, (en x).length = k) → (∀ x ∈ xs, ltL Hc.length (en x) = true) → ltv Hc.length (.func g first caps) = true → Hc.all (ltO Hc.length) = true →
  (∀ x ∈ xs, ACalls prog g (first ++ [.agg (en x)] ++ caps) Hc (.bool (p x)) Hc) → ACalls prog f [.sl k (xs.map en), .func g first caps] Hc (.int .i64 (idxFrom p 0 xs)) Hc
theorem c206_idx : IdxF 206 6 := by
  intro α en xs g first caps Hc p h1 h2 h3 h4 h5 h6
  refine calls_of hmx func206 (by kernel_rfl) (c := f206.body.getD .skip) rfl e206 (rs := [(.t 4)]) (by kernel_rfl) (by simp [ntmps206]) ?_
  exact idx_V h1 h2 h3 h4 h5 h6
theorem c309_idx : IdxF 309 6 := by
  intro α en xs g first caps Hc p h1 h2 h3 h4 h5 h6
  refine calls_of hmx func309 (by kernel_rfl) (c := f309.body.getD .skip) rfl e309 (rs := [(.t 4)]) (by kernel_rfl) (by simp [ntmps309]) ?_
  exact idx_V h1 h2 h3 h4 h5 h6
/-- slices.ContainsFunc. -/
def cHas (f : Nat) : SC := (.seq (.reg [(.mv 4 (.c (.bool false)))]) (.seq (.reg [(.mv 5 (.t 0)), (.mv 6 (.t 1)), (.call (some 7) (.c (.func f [] [])) [(.t 5), (.t 6)]), (.bin 8 .geq (.t 7) (.c (.int .i64 0))), (.mv 4 (.t 8))]) .ret))
theorem e186 : compC prog f186.ntmps (f186.body.getD .skip) = cHas 206 := by kernel_rfl
theorem e208 : compC prog f208.ntmps (f208.body.getD .skip) = cHas 309 := by kernel_rfl
def HasF (f k : Nat) : Prop := ∀ {α : Type} {en : α → List AVal} {xs : List α} {g : FuncId} {first caps : List AVal} {Hc : Heap} {p : α → Bool}, xs.length < 2 ^ 62 → (∀ x ∈ xs, (en x).length = k) → (∀ x ∈ xs, ltL Hc.length (en x) = true) → ltv Hc.length (.func g first caps) = true → Hc.all (ltO Hc.length) = true →
  (∀ x ∈ xs, ACalls prog g (first ++ [.agg (en x)] ++ caps) Hc (.bool (p x)) Hc) → ACalls prog f [.sl k (xs.map en), .func g first caps] Hc (.bool (xs.any p)) Hc
theorem has_V {α : Type} {en : α → List AVal} {k : Nat} {xs : List α} {g : FuncId} {first caps : List AVal} {Hc : Heap} {p : α → Bool} {f : Nat} (hf : IdxF f k) (hlen : xs.length < 2 ^ 62) (hen : ∀ x ∈ xs, (en x).length = k) (hea : ∀ x ∈ xs, ltL Hc.length (en x) = true) (hfun : ltv Hc.length (.func g first caps) = true) (hH : Hc.all (ltO Hc.length) = true)
    (hcl : ∀ x ∈ xs, ACalls prog g (first ++ [.agg (en x)] ++ caps) Hc (.bool (p x)) Hc) : V prog 9 Hc.length (Ret [.t 4] Hc.length (.bool (xs.any p)) Hc) [.code (cHas f)] (argS [.sl k (xs.map en), .func g first caps] 0) Hc := by
  simp only [cHas, argS]
  simp only [go_sem, seval]
  refine CX_self (hf hlen hen hea hfun hH hcl) rfl rfl (by simp [ltL, ltv] at hfun ⊢; exact hfun) rfl hH ?_
  simp only [go_sem, seval, idxFrom_any]
  refine Rt_all ?_ rfl hH (Nat.le_refl _)
  simp only [retO, retO1, retOs, S, get_cons, Nat.reduceEqDiff, reduceIte, obj, getO_cons_zero, getO_cons_succ, List.getElem?_cons_zero, List.getElem?_cons_succ, List.drop_zero, List.drop_succ_cons, loadFrom_cell, loadFrom_agg, List.length_cons, List.length_nil, Nat.reduceAdd, Nat.reduceLeDiff, List.take_succ_cons, List.take_zero, List.take_nil]
theorem c186_has : HasF 186 6 := by
  intro α en xs g first caps Hc p h1 h2 h3 h4 h5 h6
  refine calls_of hmx func186 (by kernel_rfl) (c := f186.body.getD .skip) rfl e186 (rs := [(.t 4)]) (by kernel_rfl) (by simp [ntmps186]) ?_
  exact has_V c206_idx h1 h2 h3 h4 h5 h6
theorem c208_has : HasF 208 6 := by
  intro α en xs g first caps Hc p h1 h2 h3 h4 h5 h6
  refine calls_of hmx func208 (by kernel_rfl) (c := f208.body.getD .skip) rfl e208 (rs := [(.t 4)]) (by kernel_rfl) (by simp [ntmps208]) ?_
  exact has_V c309_idx h1 h2 h3 h4 h5 h6

def c265 : SC := (.seq (.reg [(.box 1 104 (.t 0)), (.mv 2 (.c (.int .i64 0)))]) (.seq (.seq (.reg [(.fa 3 (.t 1) 0), (.ld 4 (.t 3) false 1), (.bin 5 .lss (.t 4) (.c (.int .i64 0))), (.mv 6 (.t 5)), (.g 6 false (some 7) (.fa 7 (.t 1) 1)), (.g 6 false (some 8) (.ld 8 (.t 7) false 1)), (.g 6 false (some 9) (.call (some 9) (.c (.func 298 [] [])) [(.t 8), (.c (.int .i64 (-1))), (.c (.int .i64 31))])), (.g 6 false (some 10) (.not 10 (.t 9))), (.pick 11 (.t 6) (.c (.bool true)) (.t 10)), (.mv 12 (.t 11)), (.g 12 false (some 13) (.fa 13 (.t 1) 2)), (.g 12 false (some 14) (.ld 14 (.t 13) false 1)), (.g 12 false (some 15) (.call (some 15) (.c (.func 298 [] [])) [(.t 14), (.c (.int .i64 0)), (.c (.int .i64 3))])), (.g 12 false (some 16) (.not 16 (.t 15))), (.pick 17 (.t 12) (.c (.bool true)) (.t 16)), (.mv 18 (.t 17)), (.g 18 false (some 19) (.fa 19 (.t 1) 3)), (.g 18 false (some 20) (.ld 20 (.t 19) false 1)), (.g 18 false (some 21) (.call (some 21) (.c (.func 298 [] [])) [(.t 20), (.c (.int .i64 0)), (.c (.int .i64 1099511627776))])), (.g 18 false (some 22) (.not 22 (.t 21))), (.pick 23 (.t 18) (.c (.bool true)) (.t 22)), (.mv 24 (.t 23)), (.g 24 false (some 25) (.fa 25 (.t 1) 4)), (.g 24 false (some 26) (.ld 26 (.t 25) false 1)), (.g 24 false (some 27) (.call (some 27) (.c (.func 298 [] [])) [(.t 26), (.c (.int .i64 1)), (.c (.int .i64 4096))])), (.g 24 false (some 28) (.not 28 (.t 27))), (.pick 29 (.t 24) (.c (.bool true)) (.t 28))]) (.cond (.t 29) (.seq (.reg [(.mv 2 (.c (.int .i64 2)))]) .ret) .skip)) (.seq (.seq (.reg [(.fa 30 (.t 1) 5), (.ld 31 (.t 30) false 1), (.len 32 true (.t 31)), (.bin 33 .gtr (.t 32) (.c (.int .i64 127)))]) (.cond (.t 33) (.seq (.reg [(.mv 2 (.c (.int .i64 8)))]) .ret) .skip)) (.seq (.reg [(.mv 2 (.c (.int .i64 0)))]) .ret))))
theorem e265 : compC prog f265.ntmps (f265.body.getD .skip) = c265 := by kernel_rfl
def c190 : SC := (.seq (.reg [(.box 1 104 (.t 0)), (.mv 2 (.c (.int .i64 0)))]) (.seq (.seq (.reg [(.fa 3 (.t 1) 0), (.ld 4 (.t 3) false 1), (.bin 5 .lss (.t 4) (.c (.int .i64 0))), (.mv 6 (.t 5)), (.g 6 false (some 7) (.fa 7 (.t 1) 1)), (.g 6 false (some 8) (.ld 8 (.t 7) false 1)), (.g 6 false (some 9) (.bin 9 .lss (.t 8) (.c (.int .i64 (-1))))), (.pick 10 (.t 6) (.c (.bool true)) (.t 9)), (.mv 11 (.t 10)), (.g 11 false (some 12) (.fa 12 (.t 1) 1)), (.g 11 false (some 13) (.ld 13 (.t 12) false 1)), (.g 11 false (some 14) (.bin 14 .geq (.t 13) (.c (.int .i64 32)))), (.pick 15 (.t 11) (.c (.bool true)) (.t 14)), (.mv 16 (.t 15)), (.g 16 false (some 17) (.fa 17 (.t 1) 2)), (.g 16 false (some 18) (.ld 18 (.t 17) false 1)), (.g 16 false (some 19) (.bin 19 .lss (.t 18) (.c (.int .i64 0)))), (.pick 20 (.t 16) (.c (.bool true)) (.t 19)), (.mv 21 (.t 20)), (.g 21 false (some 22) (.fa 22 (.t 1) 2)), (.g 21 false (some 23) (.ld 23 (.t 22) false 1)), (.g 21 false (some 24) (.bin 24 .geq (.t 23) (.c (.int .i64 4)))), (.pick 25 (.t 21) (.c (.bool true)) (.t 24)), (.mv 26 (.t 25)), (.g 26 false (some 27) (.fa 27 (.t 1) 3)), (.g 26 false (some 28) (.ld 28 (.t 27) false 1)), (.g 26 false (some 29) (.bin 29 .lss (.t 28) (.c (.int .i64 0)))), (.pick 30 (.t 26) (.c (.bool true)) (.t 29)), (.mv 31 (.t 30)), (.g 31 false (some 32) (.fa 32 (.t 1) 3)), (.g 31 false (some 33) (.ld 33 (.t 32) false 1)), (.g 31 false (some 34) (.bin 34 .gtr (.t 33) (.c (.int .i64 1099511627776)))), (.pick 35 (.t 31) (.c (.bool true)) (.t 34)), (.mv 36 (.t 35)), (.g 36 false (some 37) (.fa 37 (.t 1) 4)), (.g 36 false (some 38) (.ld 38 (.t 37) false 1)), (.g 36 false (some 39) (.bin 39 .lss (.t 38) (.c (.int .i64 1)))), (.pick 40 (.t 36) (.c (.bool true)) (.t 39)), (.mv 41 (.t 40)), (.g 41 false (some 42) (.fa 42 (.t 1) 4)), (.g 41 false (some 43) (.ld 43 (.t 42) false 1)), (.g 41 false (some 44) (.bin 44 .gtr (.t 43) (.c (.int .i64 4096)))), (.pick 45 (.t 41) (.c (.bool true)) (.t 44))]) (.cond (.t 45) (.seq (.reg [(.mv 2 (.c (.int .i64 2)))]) .ret) .skip)) (.seq (.seq (.reg [(.fa 46 (.t 1) 5), (.ld 47 (.t 46) false 1), (.len 48 true (.t 47)), (.bin 49 .gtr (.t 48) (.c (.int .i64 127)))]) (.cond (.t 49) (.seq (.reg [(.mv 2 (.c (.int .i64 8)))]) .ret) .skip)) (.seq (.reg [(.mv 2 (.c (.int .i64 0)))]) .ret))))
theorem e190 : compC prog f190.ntmps (f190.body.getD .skip) = c190 := by kernel_rfl
def c93L1 : SC := (.seq (.seq (.reg [(.mv 6 (.t 5)), (.mv 7 (.t 0)), (.len 8 false (.t 7)), (.bin 9 .lss (.t 6) (.t 8))]) (.cond (.t 9) .skip (.exit 0))) (.seq (.block 1 (.seq (.reg [(.mv 12 (.t 0)), (.mv 13 (.t 5)), (.ia 14 (.t 12) (.t 13) 6), (.fa 15 (.t 14) 0), (.ld 16 (.t 15) false 1), (.mv 17 (.t 1)), (.bin 18 .eql (.t 16) (.t 17))]) (.cond (.t 18) (.seq (.reg [(.mv 19 (.t 5)), (.mv 4 (.t 19))]) .ret) .skip))) (.reg [(.mv 10 (.t 5)), (.bin 11 .add (.t 10) (.c (.int .i64 1))), (.mv 5 (.t 11))])))
def c93 : SC := (.seq (.reg [(.mv 4 (.c (.int .i64 0)))]) (.seq (.seq (.reg [(.mv 5 (.c (.int .i64 0)))]) (.block 0 (.loop c93L1))) (.seq (.reg [(.mv 4 (.c (.int .i64 (-1))))]) .ret)))
theorem e93 : compC prog f93.ntmps (f93.body.getD .skip) = c93 := by kernel_rfl
def c88L1 : SC := (.seq (.seq (.reg [(.mv 20 (.t 3)), (.fa 21 (.t 1) 1), (.ld 22 (.t 21) false 1), (.len 23 false (.t 22)), (.bin 24 .lss (.t 20) (.t 23))]) (.cond (.t 24) .skip (.exit 0))) (.seq (.block 1 (.seq (.reg [(.fa 27 (.t 1) 1), (.ld 28 (.t 27) false 1), (.mv 29 (.t 3)), (.ia 30 (.t 28) (.t 29) 6), (.ld 31 (.t 30) true 6), (.alc 4 104 [(.int .i64 0), (.int .i64 0), (.int .i64 0), (.int .i64 0), (.int .i64 0), (.str (ByteArray.mk #[]))]), (.st (.t 4) (.t 31) 6)]) (.seq (.seq (.reg [(.ld 32 (.t 4) true 6), (.call (some 33) (.c (.func 190 [] [])) [(.t 32)]), (.mv 5 (.t 33))]) (.seq (.reg [(.mv 34 (.t 5)), (.bin 35 .neq (.t 34) (.c (.int .i64 0)))]) (.cond (.t 35) (.seq (.reg [(.mv 36 (.t 5)), (.mv 2 (.t 36))]) .ret) .skip))) (.seq (.seq (.reg [(.fa 37 (.t 1) 1), (.ld 38 (.t 37) false 1), (.fa 39 (.t 4) 0), (.ld 40 (.t 39) false 1), (.call (some 41) (.c (.func 93 [] [])) [(.t 38), (.t 40)]), (.mv 42 (.t 3)), (.bin 43 .lss (.t 41) (.t 42))]) (.cond (.t 43) (.seq (.reg [(.mv 2 (.c (.int .i64 6)))]) .ret) .skip)) (.seq (.regD [(.mv 44 (.t 3)), (.bin 45 .gtr (.t 44) (.c (.int .i64 0))), (.mv 46 (.t 45)), (.g 46 true (some 47) (.fa 47 (.t 1) 1)), (.g 46 true (some 48) (.ld 48 (.t 47) false 1)), (.g 46 true (some 49) (.mv 49 (.t 3))), (.g 46 true (some 50) (.bin 50 .sub (.t 49) (.c (.int .i64 1)))), (.g 46 true (some 51) (.ia 51 (.t 48) (.t 50) 6)), (.g 46 true (some 52) (.fa 52 (.t 51) 2)), (.g 46 true (some 53) (.ld 53 (.t 52) false 1)), (.g 46 true (some 54) (.fa 54 (.t 4) 2)), (.g 46 true (some 55) (.ld 55 (.t 54) false 1)), (.g 46 true (some 56) (.bin 56 .gtr (.t 53) (.t 55))), (.pick 57 (.t 46) (.t 56) (.c (.bool false)))] []) (.cond (.t 57) (.seq (.reg [(.mv 2 (.c (.int .i64 5)))]) .ret) .skip)))))) (.reg [(.mv 25 (.t 3)), (.bin 26 .add (.t 25) (.c (.int .i64 1))), (.mv 3 (.t 26))])))
def c88 : SC := (.seq (.reg [(.box 1 27 (.t 0)), (.mv 2 (.c (.int .i64 0)))]) (.seq (.seq (.reg [(.fa 6 (.t 1) 0), (.ld 7 (.t 6) false 1), (.bin 8 .lss (.t 7) (.c (.int .i64 1))), (.mv 9 (.t 8)), (.g 9 false (some 10) (.fa 10 (.t 1) 0)), (.g 9 false (some 11) (.ld 11 (.t 10) false 1)), (.g 9 false (some 12) (.bin 12 .gtr (.t 11) (.c (.int .i64 64)))), (.pick 13 (.t 9) (.c (.bool true)) (.t 12))]) (.cond (.t 13) (.seq (.reg [(.mv 2 (.c (.int .i64 2)))]) .ret) .skip)) (.seq (.seq (.reg [(.fa 14 (.t 1) 1), (.ld 15 (.t 14) false 1), (.len 16 false (.t 15)), (.fa 17 (.t 1) 0), (.ld 18 (.t 17) false 1), (.bin 19 .gtr (.t 16) (.t 18))]) (.cond (.t 19) (.seq (.reg [(.mv 2 (.c (.int .i64 8)))]) .ret) .skip)) (.seq (.seq (.reg [(.mv 3 (.c (.int .i64 0)))]) (.block 0 (.loop c88L1))) (.seq (.reg [(.mv 2 (.c (.int .i64 0)))]) .ret)))))
theorem e88 : compC prog f88.ntmps (f88.body.getD .skip) = c88 := by kernel_rfl
def c187 : SC := (.seq (.reg [(.box 2 104 (.t 0)), (.mv 3 (.c (.bool false)))]) (.seq (.reg [(.fa 4 (.t 2) 0), (.ld 5 (.t 4) false 1), (.ld 6 (.t 1) false 1), (.bin 7 .eql (.t 5) (.t 6)), (.mv 3 (.t 7))]) .ret))
theorem e187 : compC prog f187.ntmps (f187.body.getD .skip) = c187 := by kernel_rfl
def c349 : SC := (.seq (.reg [(.box 2 104 (.t 0)), (.mv 3 (.c (.bool false)))]) (.seq (.reg [(.fa 4 (.t 2) 0), (.ld 5 (.t 4) false 1), (.ld 6 (.t 1) false 1), (.bin 7 .eql (.t 5) (.t 6)), (.mv 3 (.t 7))]) .ret))
theorem e349 : compC prog f349.ntmps (f349.body.getD .skip) = c349 := by kernel_rfl
def c408 : SC := (.seq (.reg [(.box 2 104 (.t 0)), (.mv 3 (.c (.bool false)))]) (.seq (.reg [(.fa 4 (.t 2) 1), (.ld 5 (.t 4) false 1), (.ld 6 (.t 1) false 1), (.bin 7 .eql (.t 5) (.t 6)), (.mv 3 (.t 7))]) .ret))
theorem e408 : compC prog f408.ntmps (f408.body.getD .skip) = c408 := by kernel_rfl
def c84 : SC := (.seq (.reg [(.box 2 27 (.t 0)), (.box 3 3 (.t 1)), (.mv 4 (.c (.bool false)))]) (.seq (.reg [(.fa 5 (.t 2) 1), (.ld 6 (.t 5) false 1), (.mkf 7 187 [] [(.t 3)]), (.call (some 8) (.c (.func 186 [] [])) [(.t 6), (.t 7)]), (.mv 4 (.t 8))]) .ret))
theorem e84 : compC prog f84.ntmps (f84.body.getD .skip) = c84 := by kernel_rfl
def c266 : SC := (.seq (.reg [(.box 2 27 (.t 0)), (.box 3 3 (.t 1)), (.mv 4 (.c (.int .i64 0)))]) (.seq (.reg [(.fa 5 (.t 2) 1), (.ld 6 (.t 5) false 1), (.mkf 7 349 [] [(.t 3)]), (.call (some 8) (.c (.func 206 [] [])) [(.t 6), (.t 7)]), (.mv 4 (.t 8))]) .ret))
theorem e266 : compC prog f266.ntmps (f266.body.getD .skip) = c266 := by kernel_rfl
def c365 : SC := (.seq (.reg [(.box 3 3 (.t 1)), (.mv 4 (.c (.int .i64 0)))]) (.seq (.reg [(.mv 5 (.t 0)), (.mkf 6 408 [] [(.t 3)]), (.call (some 7) (.c (.func 206 [] [])) [(.t 5), (.t 6)]), (.mv 4 (.t 7))]) .ret))
theorem e365 : compC prog f365.ntmps (f365.body.getD .skip) = c365 := by kernel_rfl
theorem c265_pf (p : Packet)  : ACalls prog 265 [.agg [.int .i64 p.id, .int .i64 p.to, .int .i64 p.pri, .int .i64 p.born, .int .i64 p.life, .str p.data]] [] (.int .i64 (pkErr p)) [] := by
  refine calls_of hmx func265 (by kernel_rfl) (c := f265.body.getD .skip) rfl e265 (rs := [(.t 2)]) (by kernel_rfl) (by simp [ntmps265]) ?_
  simp only [c265, argS]
  simp only [go_sem, seval]
  repeat' first | (refine Rt_pure ?_ rfl; simp only [retO, retO1, retOs, S, get_cons, Nat.reduceEqDiff, reduceIte, obj, getO_cons_zero, getO_cons_succ, List.getElem?_cons_zero, List.getElem?_cons_succ, List.drop_zero, List.drop_succ_cons, loadFrom_cell, loadFrom_agg, List.length_cons, List.length_nil, Nat.reduceAdd, Nat.reduceLeDiff, List.take_succ_cons, List.take_zero, List.take_nil]) | refine CX_pure c298_ok rfl rfl rfl rfl ?_ | refine GX_call (fun _ => c298_ok) (by rfl) (by intro h; simp only [h]; rfl) (by rfl) (by rfl) ?_ | (with_reducible intro h; try simp only [h]) | (with_reducible refine And.intro ?_ ?_) | (change chk _ _ = true; rfl) | simp only [go_sem, seval, Vc_bool] | refine (GX_split rfl).2 ?_
  all_goals simp only [AVal.int.injEq, true_and, Option.some.injEq]
  all_goals grind [pkErr]
theorem c265_ok {p_id : Int} {p_to : Int} {p_pri : Int} {p_born : Int} {p_life : Int} {p_data : ByteArray}  : ACalls prog 265 [.agg [.int .i64 p_id, .int .i64 p_to, .int .i64 p_pri, .int .i64 p_born, .int .i64 p_life, .str p_data]] [] (.int .i64 (pkErr (⟨p_id, p_to, p_pri, p_born, p_life, p_data⟩ : Packet))) [] := c265_pf (⟨p_id, p_to, p_pri, p_born, p_life, p_data⟩ : Packet) 

theorem c190_pf (p : Packet)  : ACalls prog 190 [.agg [.int .i64 p.id, .int .i64 p.to, .int .i64 p.pri, .int .i64 p.born, .int .i64 p.life, .str p.data]] [] (.int .i64 (pkErr p)) [] := by
  refine calls_of hmx func190 (by kernel_rfl) (c := f190.body.getD .skip) rfl e190 (rs := [(.t 2)]) (by kernel_rfl) (by simp [ntmps190]) ?_
  simp only [c190, argS]
  simp only [go_sem, seval]
  repeat' first | (refine Rt_pure ?_ rfl; simp only [retO, retO1, retOs, S, get_cons, Nat.reduceEqDiff, reduceIte, obj, getO_cons_zero, getO_cons_succ, List.getElem?_cons_zero, List.getElem?_cons_succ, List.drop_zero, List.drop_succ_cons, loadFrom_cell, loadFrom_agg, List.length_cons, List.length_nil, Nat.reduceAdd, Nat.reduceLeDiff, List.take_succ_cons, List.take_zero, List.take_nil]) | (with_reducible intro h; try simp only [h]) | (with_reducible refine And.intro ?_ ?_) | (change chk _ _ = true; rfl) | simp only [go_sem, seval, Vc_bool] | refine (GX_split rfl).2 ?_
  all_goals simp only [AVal.int.injEq, true_and, Option.some.injEq]
  all_goals grind [pkErr, wi3]
theorem c190_ok {p_id : Int} {p_to : Int} {p_pri : Int} {p_born : Int} {p_life : Int} {p_data : ByteArray}  : ACalls prog 190 [.agg [.int .i64 p_id, .int .i64 p_to, .int .i64 p_pri, .int .i64 p_born, .int .i64 p_life, .str p_data]] [] (.int .i64 (pkErr (⟨p_id, p_to, p_pri, p_born, p_life, p_data⟩ : Packet))) [] := c190_pf (⟨p_id, p_to, p_pri, p_born, p_life, p_data⟩ : Packet) 

theorem l93 (L : List Packet) (id : Int) (hL : L.length < 2 ^ 62) (k' : List It) (hk : ∀ s, V prog f93.ntmps 0 (Ret [.t 4] 0 (.int .i64 (-1)) []) k' s []) : ∀ (rest done : List Packet), L = done ++ rest →
    Lp prog f93.ntmps 0 (Ret [.t 4] 0 (.int .i64 (idxFrom (fun p => decide (p.id = id)) done.length rest)) []) c93L1 (.blk 0 :: k') [(0, .sl 6 (L.map Packet.enc)), (1, .int .i64 id), (5, .int .i64 done.length)] [] := by
  intro rest
  induction rest with
  | nil =>
    intro done hd
    refine Lp.of_eq hmx c93L1.eq_1 ?_
    have h1 := rg_end hd
    simp only [go_sem, seval, h1, List.length_map]
    exact hk _
  | cons c rest ih =>
    intro done hd
    refine Lp.of_eq hmx c93L1.eq_1 ?_
    obtain ⟨h1, h2, h3, h4⟩ := rg_hd Packet.enc hd hL
    have ih' := ih _ h4
    simp only [go_sem, seval, h1, h2, h3, Int.toNat_natCast, Int.natCast_nonneg, List.length_map, Vc_bool]
    refine ⟨fun h5 => ?_, fun h5 => ?_⟩
    · (refine Rt_pure ?_ rfl; simp only [retO, retO1, retOs, S, get_cons, Nat.reduceEqDiff, reduceIte, obj, getO_cons_zero, getO_cons_succ, List.getElem?_cons_zero, List.getElem?_cons_succ, List.drop_zero, List.drop_succ_cons, loadFrom_cell, loadFrom_agg, List.length_cons, List.length_nil, Nat.reduceAdd, Nat.reduceLeDiff, List.take_succ_cons, List.take_zero, List.take_nil])
      grind [idxFrom]
    · have e : idxFrom (fun p : Packet => decide (p.id = id)) done.length (c :: rest) = idxFrom (fun p => decide (p.id = id)) (done ++ [c]).length rest := by simp [idxFrom, h5]
      rw [← e] at ih'
      exact Lp.bk0 ih' (by rfl)
theorem c93_ok {L : List Packet} {id : Int} (hL : L.length < 2 ^ 62) : ACalls prog 93 [.sl 6 (L.map Packet.enc), .int .i64 id] [] (.int .i64 (pkIdx L id)) [] := by
  refine calls_of hmx func93 (by kernel_rfl) (c := f93.body.getD .skip) rfl e93 (rs := [(.t 4)]) (by kernel_rfl) (by simp [ntmps93]) ?_
  simp only [c93, argS]
  simp only [go_sem, seval]
  refine Lp.bk0 (l93 L id hL _ (fun s => ?_) L [] rfl) (by rfl)
  simp only [go_sem, seval]
  (refine Rt_pure ?_ rfl; simp only [retO, retO1, retOs, S, get_cons, Nat.reduceEqDiff, reduceIte, obj, getO_cons_zero, getO_cons_succ, List.getElem?_cons_zero, List.getElem?_cons_succ, List.drop_zero, List.drop_succ_cons, loadFrom_cell, loadFrom_agg, List.length_cons, List.length_nil, Nat.reduceAdd, Nat.reduceLeDiff, List.take_succ_cons, List.take_zero, List.take_nil])
theorem pk_all (L : List Packet) : (∀ x ∈ L, (Packet.enc x).length = 6) ∧ ∀ m, ∀ x ∈ L, ltL m (Packet.enc x) = true := ⟨fun _ _ => rfl, fun _ _ _ => rfl⟩
theorem c187_ok {p : Packet} {id : Int} : ACalls prog 187 ([] ++ [.agg p.enc] ++ [.ptr 0 0 0 0]) [.cells 0 1 3 true [[.int .i64 id]]] (.bool (decide (p.id = id))) [.cells 0 1 3 true [[.int .i64 id]]] := by
  refine calls_of hmx func187 (by kernel_rfl) (c := f187.body.getD .skip) rfl e187 (rs := [(.t 3)]) (by kernel_rfl) (by simp [ntmps187]) ?_
  simp only [c187, argS, List.nil_append, List.singleton_append]
  simp only [go_sem, seval]
  refine Rt_T [_] ?_ rfl rfl (Nat.le_refl _)
  simp only [retO, retO1, retOs, S, get_cons, Nat.reduceEqDiff, reduceIte, obj, getO_cons_zero, getO_cons_succ, List.getElem?_cons_zero, List.getElem?_cons_succ, List.drop_zero, List.drop_succ_cons, loadFrom_cell, loadFrom_agg, List.length_cons, List.length_nil, Nat.reduceAdd, Nat.reduceLeDiff, List.take_succ_cons, List.take_zero, List.take_nil]
theorem c349_ok {p : Packet} {id : Int} : ACalls prog 349 ([] ++ [.agg p.enc] ++ [.ptr 0 0 0 0]) [.cells 0 1 3 true [[.int .i64 id]]] (.bool (decide (p.id = id))) [.cells 0 1 3 true [[.int .i64 id]]] := by
  refine calls_of hmx func349 (by kernel_rfl) (c := f349.body.getD .skip) rfl e349 (rs := [(.t 3)]) (by kernel_rfl) (by simp [ntmps349]) ?_
  simp only [c349, argS, List.nil_append, List.singleton_append]
  simp only [go_sem, seval]
  refine Rt_T [_] ?_ rfl rfl (Nat.le_refl _)
  simp only [retO, retO1, retOs, S, get_cons, Nat.reduceEqDiff, reduceIte, obj, getO_cons_zero, getO_cons_succ, List.getElem?_cons_zero, List.getElem?_cons_succ, List.drop_zero, List.drop_succ_cons, loadFrom_cell, loadFrom_agg, List.length_cons, List.length_nil, Nat.reduceAdd, Nat.reduceLeDiff, List.take_succ_cons, List.take_zero, List.take_nil]
theorem c408_ok {p : Packet} {to : Int} : ACalls prog 408 ([] ++ [.agg p.enc] ++ [.ptr 0 0 0 0]) [.cells 0 1 3 true [[.int .i64 to]]] (.bool (decide (p.to = to))) [.cells 0 1 3 true [[.int .i64 to]]] := by
  refine calls_of hmx func408 (by kernel_rfl) (c := f408.body.getD .skip) rfl e408 (rs := [(.t 3)]) (by kernel_rfl) (by simp [ntmps408]) ?_
  simp only [c408, argS, List.nil_append, List.singleton_append]
  simp only [go_sem, seval]
  refine Rt_T [_] ?_ rfl rfl (Nat.le_refl _)
  simp only [retO, retO1, retOs, S, get_cons, Nat.reduceEqDiff, reduceIte, obj, getO_cons_zero, getO_cons_succ, List.getElem?_cons_zero, List.getElem?_cons_succ, List.drop_zero, List.drop_succ_cons, loadFrom_cell, loadFrom_agg, List.length_cons, List.length_nil, Nat.reduceAdd, Nat.reduceLeDiff, List.take_succ_cons, List.take_zero, List.take_nil]
theorem c84_pf (q : Queue) (id : Int) (hL : q.pk.length < 2 ^ 62) : ACalls prog 84 [.agg [.int .i64 q.limit, .sl 6 (q.pk.map Packet.enc)], .int .i64 id] [] (.bool (hasId q.pk id)) [] := by
  refine calls_of hmx func84 (by kernel_rfl) (c := f84.body.getD .skip) rfl e84 (rs := [(.t 4)]) (by kernel_rfl) (by simp [ntmps84]) ?_
  simp only [c84, argS]
  simp only [go_sem, seval]
  refine CX_rd [1] (c186_has (caps := [.ptr 0 0 0 0]) (first := []) (g := 187) hL (pk_all _).1 ((pk_all _).2 _) (by rfl) (by rfl) (fun x _ => c187_ok (id := id))) (by rfl) (by rfl) (by rfl) (by rfl) (by rfl) (by decide) (by rfl) (by rfl) (by rfl) ?_
  simp only [go_sem, seval]
  (refine Rt_pure ?_ rfl; simp only [retO, retO1, retOs, S, get_cons, Nat.reduceEqDiff, reduceIte, obj, getO_cons_zero, getO_cons_succ, List.getElem?_cons_zero, List.getElem?_cons_succ, List.drop_zero, List.drop_succ_cons, loadFrom_cell, loadFrom_agg, List.length_cons, List.length_nil, Nat.reduceAdd, Nat.reduceLeDiff, List.take_succ_cons, List.take_zero, List.take_nil])
  rfl
theorem c84_ok {q_limit : Int} {q_pk : List Packet} {id : Int} (hL : q_pk.length < 2 ^ 62) : ACalls prog 84 [.agg [.int .i64 q_limit, .sl 6 (q_pk.map Packet.enc)], .int .i64 id] [] (.bool (hasId q_pk id)) [] := c84_pf (⟨q_limit, q_pk⟩ : Queue) id hL

theorem c266_pf (q : Queue) (id : Int) (hL : q.pk.length < 2 ^ 62) : ACalls prog 266 [.agg [.int .i64 q.limit, .sl 6 (q.pk.map Packet.enc)], .int .i64 id] [] (.int .i64 (pkIdx q.pk id)) [] := by
  refine calls_of hmx func266 (by kernel_rfl) (c := f266.body.getD .skip) rfl e266 (rs := [(.t 4)]) (by kernel_rfl) (by simp [ntmps266]) ?_
  simp only [c266, argS]
  simp only [go_sem, seval]
  refine CX_rd [1] (c206_idx (caps := [.ptr 0 0 0 0]) (first := []) (g := 349) hL (pk_all _).1 ((pk_all _).2 _) (by rfl) (by rfl) (fun x _ => c349_ok (id := id))) (by rfl) (by rfl) (by rfl) (by rfl) (by rfl) (by decide) (by rfl) (by rfl) (by rfl) ?_
  simp only [go_sem, seval]
  (refine Rt_pure ?_ rfl; simp only [retO, retO1, retOs, S, get_cons, Nat.reduceEqDiff, reduceIte, obj, getO_cons_zero, getO_cons_succ, List.getElem?_cons_zero, List.getElem?_cons_succ, List.drop_zero, List.drop_succ_cons, loadFrom_cell, loadFrom_agg, List.length_cons, List.length_nil, Nat.reduceAdd, Nat.reduceLeDiff, List.take_succ_cons, List.take_zero, List.take_nil])
  rfl
theorem c266_ok {q_limit : Int} {q_pk : List Packet} {id : Int} (hL : q_pk.length < 2 ^ 62) : ACalls prog 266 [.agg [.int .i64 q_limit, .sl 6 (q_pk.map Packet.enc)], .int .i64 id] [] (.int .i64 (pkIdx q_pk id)) [] := c266_pf (⟨q_limit, q_pk⟩ : Queue) id hL

theorem c365_ok {L : List Packet} {to : Int} (hL : L.length < 2 ^ 62) : ACalls prog 365 [.sl 6 (L.map Packet.enc), .int .i64 to] [] (.int .i64 (idxFrom (fun p => decide (p.to = to)) 0 L)) [] := by
  refine calls_of hmx func365 (by kernel_rfl) (c := f365.body.getD .skip) rfl e365 (rs := [(.t 4)]) (by kernel_rfl) (by simp [ntmps365]) ?_
  simp only [c365, argS]
  simp only [go_sem, seval]
  refine CX_rd [0] (c206_idx (caps := [.ptr 0 0 0 0]) (first := []) (g := 408) hL (pk_all _).1 ((pk_all _).2 _) (by rfl) (by rfl) (fun x _ => c408_ok (to := to))) (by rfl) (by rfl) (by rfl) (by rfl) (by rfl) (by decide) (by rfl) (by rfl) (by rfl) ?_
  simp only [go_sem, seval]
  (refine Rt_pure ?_ rfl; simp only [retO, retO1, retOs, S, get_cons, Nat.reduceEqDiff, reduceIte, obj, getO_cons_zero, getO_cons_succ, List.getElem?_cons_zero, List.getElem?_cons_succ, List.drop_zero, List.drop_succ_cons, loadFrom_cell, loadFrom_agg, List.length_cons, List.length_nil, Nat.reduceAdd, Nat.reduceLeDiff, List.take_succ_cons, List.take_zero, List.take_nil])

def c258L1 : SC := (.seq (.reg [(.bin 8 .lss (.t 7) (.t 6))]) (.seq (.cond (.t 8) .skip (.exit 0)) (.seq (.block 1 (.seq (.reg [(.mv 9 (.t 7)), (.ia 10 (.t 5) (.t 7) 1), (.ld 11 (.t 10) false 1), (.mv 3 (.t 9)), (.mv 4 (.t 11))]) (.seq (.reg [(.mv 12 (.t 4)), (.call (some 13) (.c (.func 81 [] [])) [(.t 12), (.c (.int .i64 31))]), (.not 14 (.t 13)), (.mv 15 (.t 14)), (.g 15 false (some 16) (.mv 16 (.t 3))), (.g 15 false (some 17) (.bin 17 .gtr (.t 16) (.c (.int .i64 0)))), (.g 15 false (some 18) (.mv 18 (.t 17))), (.g 18 true (some 19) (.mv 19 (.t 0))), (.g 18 true (some 20) (.mv 20 (.t 3))), (.g 18 true (some 21) (.bin 21 .sub (.t 20) (.c (.int .i64 1)))), (.g 18 true (some 22) (.ia 22 (.t 19) (.t 21) 1)), (.g 18 true (some 23) (.ld 23 (.t 22) false 1)), (.g 18 true (some 24) (.mv 24 (.t 4))), (.g 18 true (some 25) (.bin 25 .geq (.t 23) (.t 24))), (.g 15 false (some 26) (.pick 26 (.t 18) (.t 25) (.c (.bool false)))), (.pick 27 (.t 15) (.c (.bool true)) (.t 26))]) (.cond (.t 27) (.seq (.reg [(.mv 2 (.c (.bool false)))]) .ret) .skip)))) (.reg [(.bin 28 .add (.t 7) (.c (.int .i64 1))), (.mv 7 (.t 28))]))))
def c258 : SC := (.seq (.reg [(.mv 2 (.c (.bool false)))]) (.seq (.seq (.reg [(.mv 5 (.t 0)), (.len 6 false (.t 5)), (.mv 7 (.c (.int .i64 0)))]) (.block 0 (.loop c258L1))) (.seq (.reg [(.mv 2 (.c (.bool true)))]) .ret)))
theorem e258 : compC prog f258.ntmps (f258.body.getD .skip) = c258 := by kernel_rfl
def c148 : SC := (.seq (.reg [(.box 1 100 (.t 0)), (.mv 2 (.c (.bool false)))]) (.seq (.reg [(.fa 3 (.t 1) 0), (.ld 4 (.t 3) false 1), (.call (some 5) (.c (.func 81 [] [])) [(.t 4), (.c (.int .i64 255))]), (.mv 6 (.t 5)), (.g 6 true (some 7) (.fa 7 (.t 1) 1)), (.g 6 true (some 8) (.ld 8 (.t 7) false 1)), (.g 6 true (some 9) (.call (some 9) (.c (.func 81 [] [])) [(.t 8), (.c (.int .i64 65535))])), (.pick 10 (.t 6) (.t 9) (.c (.bool false))), (.mv 11 (.t 10)), (.g 11 true (some 12) (.fa 12 (.t 1) 2)), (.g 11 true (some 13) (.ld 13 (.t 12) false 1)), (.g 11 true (some 14) (.call (some 14) (.c (.func 81 [] [])) [(.t 13), (.c (.int .i64 109951162))])), (.pick 15 (.t 11) (.t 14) (.c (.bool false))), (.mv 16 (.t 15)), (.g 16 true (some 17) (.fa 17 (.t 1) 4)), (.g 16 true (some 18) (.ld 18 (.t 17) false 1)), (.g 16 true (some 19) (.call (some 19) (.c (.func 258 [] [])) [(.t 18)])), (.pick 20 (.t 16) (.t 19) (.c (.bool false))), (.mv 2 (.t 20))]) .ret))
theorem e148 : compC prog f148.ntmps (f148.body.getD .skip) = c148 := by kernel_rfl
def c87L1 : SC := (.seq (.reg [(.bin 8 .lss (.t 7) (.t 6))]) (.seq (.cond (.t 8) .skip (.exit 0)) (.seq (.block 1 (.seq (.reg [(.mv 9 (.t 7)), (.ia 10 (.t 5) (.t 7) 2), (.ld 11 (.t 10) true 2), (.alc 4 160 [(.int .i64 0), (.int .i64 0)]), (.mv 3 (.t 9)), (.st (.t 4) (.t 11) 2)]) (.seq (.regD [(.fa 12 (.t 4) 0), (.ld 13 (.t 12) false 1), (.call (some 14) (.c (.func 81 [] [])) [(.t 13), (.c (.int .i64 31))]), (.not 15 (.t 14)), (.mv 16 (.t 15)), (.g 16 false (some 17) (.fa 17 (.t 4) 1)), (.g 16 false (some 18) (.ld 18 (.t 17) false 1)), (.g 16 false (some 19) (.call (some 19) (.c (.func 81 [] [])) [(.t 18), (.c (.int .i64 255))])), (.g 16 false (some 20) (.not 20 (.t 19))), (.pick 21 (.t 16) (.c (.bool true)) (.t 20)), (.mv 22 (.t 21)), (.g 22 false (some 23) (.mv 23 (.t 3))), (.g 22 false (some 24) (.bin 24 .gtr (.t 23) (.c (.int .i64 0)))), (.g 22 false (some 25) (.mv 25 (.t 24))), (.g 25 true (some 26) (.mv 26 (.t 0))), (.g 25 true (some 27) (.mv 27 (.t 3))), (.g 25 true (some 28) (.bin 28 .sub (.t 27) (.c (.int .i64 1)))), (.g 25 true (some 29) (.ia 29 (.t 26) (.t 28) 2)), (.g 25 true (some 30) (.fa 30 (.t 29) 0)), (.g 25 true (some 31) (.ld 31 (.t 30) false 1)), (.g 25 true (some 32) (.fa 32 (.t 4) 0)), (.g 25 true (some 33) (.ld 33 (.t 32) false 1)), (.g 25 true (some 34) (.bin 34 .geq (.t 31) (.t 33))), (.g 22 false (some 35) (.pick 35 (.t 25) (.t 34) (.c (.bool false)))), (.pick 36 (.t 22) (.c (.bool true)) (.t 35))] []) (.cond (.t 36) (.seq (.reg [(.mv 2 (.c (.bool false)))]) .ret) .skip)))) (.reg [(.bin 37 .add (.t 7) (.c (.int .i64 1))), (.mv 7 (.t 37))]))))
def c87 : SC := (.seq (.reg [(.mv 2 (.c (.bool false)))]) (.seq (.seq (.reg [(.mv 5 (.t 0)), (.len 6 false (.t 5)), (.mv 7 (.c (.int .i64 0)))]) (.block 0 (.loop c87L1))) (.seq (.reg [(.mv 2 (.c (.bool true)))]) .ret)))
theorem e87 : compC prog f87.ntmps (f87.body.getD .skip) = c87 := by kernel_rfl
theorem l258 (l : List Int) (hL : (l).length < 2 ^ 62) (k' : List It) (hk : ∀ zs, V prog f258.ntmps 0 (Ret [(.t 2)] 0 (.bool true) []) k' zs []) : ∀ (rest done : List Int), l = done ++ rest →
    Lp prog f258.ntmps 0 (Ret [(.t 2)] 0 (.bool (chain (fun n => wi n 31) (fun a b => decide (a < b)) done.getLast? rest)) []) c258L1 (.blk 0 :: k') [(0, .sl 1 (l.map eI)), (5, .sl 1 (l.map eI)), (6, .int .i64 l.length), (7, .int .i64 done.length)] [] := by
  intro rest
  induction rest with
  | nil =>
    intro done hd
    refine Lp.of_eq hmx c258L1.eq_1 ?_
    have h1 := rg_end hd
    simp only [go_sem, seval, h1, List.length_map]
    exact hk _
  | cons c rest ih =>
    intro done hd
    refine Lp.of_eq hmx c258L1.eq_1 ?_
    obtain ⟨h1, h2, h3, h4⟩ := rg_hd eI hd hL
    have ih' := ih _ h4
    rw [List.getLast?_append, List.getLast?_singleton, Option.some_or] at ih'
    rcases List.eq_nil_or_concat done with h0 | ⟨ds, p, h0⟩
    · obtain ⟨p1, hp⟩ := rg_first' h0
      cases hw0 : (wi c 31)
      all_goals
        repeat' first | (refine Lp.bkE0 ih' (by rfl) ?_) | (refine Rt_pure ?_ rfl; simp only [retO, retO1, retOs, S, get_cons, Nat.reduceEqDiff, reduceIte, obj, getO_cons_zero, getO_cons_succ, List.getElem?_cons_zero, List.getElem?_cons_succ, List.drop_zero, List.drop_succ_cons, loadFrom_cell, loadFrom_agg, List.length_cons, List.length_nil, Nat.reduceAdd, Nat.reduceLeDiff, List.take_succ_cons, List.take_zero, List.take_nil]) | refine CX_pure c81_ok rfl rfl rfl rfl ?_ | refine GX_call (fun _ => c81_ok) (by rfl) (by intro h; simp only [h]; rfl) (by rfl) (by rfl) ?_ | (with_reducible intro h; try simp only [h]) | (with_reducible refine And.intro ?_ ?_) | (change chk _ _ = true; rfl) | simp only [go_sem, seval, Vc_bool, h1, h2, h3, Int.toNat_natCast, Int.natCast_nonneg, List.length_map, hw0, p1] | refine (GX_split rfl).2 ?_
        all_goals (clear hk ih ih' h1 h2 h3 h4 hd hL)
        all_goals clear p1 h0
        all_goals (simp only [hp, chain, hw0]; grind)
    · rw [List.concat_eq_append] at h0
      obtain ⟨p1, p2, p3, hp⟩ := rg_prev' eI hd h0 hL
      cases hw0 : (wi c 31)
      all_goals
        repeat' first | (refine Lp.bkE0 ih' (by rfl) ?_) | (refine Rt_pure ?_ rfl; simp only [retO, retO1, retOs, S, get_cons, Nat.reduceEqDiff, reduceIte, obj, getO_cons_zero, getO_cons_succ, List.getElem?_cons_zero, List.getElem?_cons_succ, List.drop_zero, List.drop_succ_cons, loadFrom_cell, loadFrom_agg, List.length_cons, List.length_nil, Nat.reduceAdd, Nat.reduceLeDiff, List.take_succ_cons, List.take_zero, List.take_nil]) | refine CX_pure c81_ok rfl rfl rfl rfl ?_ | refine GX_call (fun _ => c81_ok) (by rfl) (by intro h; simp only [h]; rfl) (by rfl) (by rfl) ?_ | (with_reducible intro h; try simp only [h]) | (with_reducible refine And.intro ?_ ?_) | (change chk _ _ = true; rfl) | simp only [go_sem, seval, Vc_bool, h1, h2, h3, Int.toNat_natCast, Int.natCast_nonneg, List.length_map, hw0, p1, p2, p3] | refine (GX_split rfl).2 ?_
        all_goals (clear hk ih ih' h1 h2 h3 h4 hd hL)
        all_goals clear p1 p2 p3 h0
        all_goals (simp only [hp, chain, hw0]; grind)

theorem c258_ok {l : List Int} (hL : l.length < 2 ^ 62) : ACalls prog 258 [.sl 1 (l.map eI)] [] (.bool (rising l)) [] := by
  refine calls_of hmx func258 (by kernel_rfl) (c := f258.body.getD .skip) rfl e258 (rs := [(.t 2)]) (by kernel_rfl) (by simp [ntmps258]) ?_
  simp only [c258, argS]
  simp only [go_sem, seval, List.length_map]
  refine Lp.bkE0 (l258 l hL _ (fun s => ?_) l [] rfl) (by rfl) ?_
  · simp only [go_sem, seval]
    (refine Rt_pure ?_ rfl; simp only [retO, retO1, retOs, S, get_cons, Nat.reduceEqDiff, reduceIte, obj, getO_cons_zero, getO_cons_succ, List.getElem?_cons_zero, List.getElem?_cons_succ, List.drop_zero, List.drop_succ_cons, loadFrom_cell, loadFrom_agg, List.length_cons, List.length_nil, Nat.reduceAdd, Nat.reduceLeDiff, List.take_succ_cons, List.take_zero, List.take_nil])
  · rfl
theorem c148_pf (h : Held) (hL : h.acked.length < 2 ^ 62) : ACalls prog 148 [.agg [.int .i64 h.flow, .int .i64 h.frame, .int .i64 h.upto, .str h.data, .sl 1 (h.acked.map eI)]] [] (.bool (hRange h)) [] := by
  refine calls_of hmx func148 (by kernel_rfl) (c := f148.body.getD .skip) rfl e148 (rs := [(.t 2)]) (by kernel_rfl) (by simp [ntmps148]) ?_
  simp only [c148, argS]
  cases h1 : wi h.flow 255 <;> cases h2 : wi h.frame 65535 <;> cases h3 : wi h.upto 109951162
  all_goals
    simp only [go_sem, seval]
    repeat' first | refine CX_pure c81_ok rfl rfl rfl rfl ?_ | refine CX_pure (c258_ok hL) rfl rfl rfl rfl ?_ | (refine Rt_pure ?_ rfl; simp only [retO, retO1, retOs, S, get_cons, Nat.reduceEqDiff, reduceIte, obj, getO_cons_zero, getO_cons_succ, List.getElem?_cons_zero, List.getElem?_cons_succ, List.drop_zero, List.drop_succ_cons, loadFrom_cell, loadFrom_agg, List.length_cons, List.length_nil, Nat.reduceAdd, Nat.reduceLeDiff, List.take_succ_cons, List.take_zero, List.take_nil]) | simp only [go_sem, seval, h1, h2, h3]
    simp [hRange, h1, h2, h3]
theorem c148_ok {h_flow : Int} {h_frame : Int} {h_upto : Int} {h_data : ByteArray} {h_acked : List Int} (hL : h_acked.length < 2 ^ 62) : ACalls prog 148 [.agg [.int .i64 h_flow, .int .i64 h_frame, .int .i64 h_upto, .str h_data, .sl 1 (h_acked.map eI)]] [] (.bool (hRange (⟨h_flow, h_frame, h_upto, h_data, h_acked⟩ : Held))) [] := c148_pf (⟨h_flow, h_frame, h_upto, h_data, h_acked⟩ : Held) hL

theorem l87 (l : List Seen) (hL : (l).length < 2 ^ 62) (k' : List It) (hk : ∀ zs, V prog f87.ntmps 0 (Ret [(.t 2)] 0 (.bool true) []) k' zs []) : ∀ (rest done : List Seen), l = done ++ rest →
    Lp prog f87.ntmps 0 (Ret [(.t 2)] 0 (.bool (chain (fun x => wi x.node 31 && wi x.seq 255) (fun a b => decide (a.node < b.node)) done.getLast? rest)) []) c87L1 (.blk 0 :: k') [(0, .sl 2 (l.map Seen.enc)), (5, .sl 2 (l.map Seen.enc)), (6, .int .i64 l.length), (7, .int .i64 done.length)] [] := by
  intro rest
  induction rest with
  | nil =>
    intro done hd
    refine Lp.of_eq hmx c87L1.eq_1 ?_
    have h1 := rg_end hd
    simp only [go_sem, seval, h1, List.length_map]
    exact hk _
  | cons c rest ih =>
    intro done hd
    refine Lp.of_eq hmx c87L1.eq_1 ?_
    obtain ⟨h1, h2, h3, h4⟩ := rg_hd Seen.enc hd hL
    have ih' := ih _ h4
    rw [List.getLast?_append, List.getLast?_singleton, Option.some_or] at ih'
    rcases List.eq_nil_or_concat done with h0 | ⟨ds, p, h0⟩
    · obtain ⟨p1, hp⟩ := rg_first' h0
      cases hw0 : (wi c.node 31) <;> cases hw1 : (wi c.seq 255)
      all_goals
        repeat' first | (refine Lp.bkE [_] ih' (by rfl) (by rfl) (by rfl) (Nat.zero_le _) ?_) | (refine Rt_pure ?_ rfl; simp only [retO, retO1, retOs, S, get_cons, Nat.reduceEqDiff, reduceIte, obj, getO_cons_zero, getO_cons_succ, List.getElem?_cons_zero, List.getElem?_cons_succ, List.drop_zero, List.drop_succ_cons, loadFrom_cell, loadFrom_agg, List.length_cons, List.length_nil, Nat.reduceAdd, Nat.reduceLeDiff, List.take_succ_cons, List.take_zero, List.take_nil]) | refine CX_pure c81_ok rfl rfl rfl rfl ?_ | refine GX_call (fun _ => c81_ok) (by rfl) (by intro h; simp only [h]; rfl) (by rfl) (by rfl) ?_ | (with_reducible intro h; try simp only [h]) | (with_reducible refine And.intro ?_ ?_) | (change chk _ _ = true; rfl) | simp only [go_sem, seval, Vc_bool, h1, h2, h3, Int.toNat_natCast, Int.natCast_nonneg, List.length_map, hw0, hw1, p1] | refine (GX_split rfl).2 ?_
        all_goals (clear hk ih ih' h1 h2 h3 h4 hd hL)
        all_goals clear p1 h0
        all_goals (simp only [hp, chain, hw0, hw1]; grind)
    · rw [List.concat_eq_append] at h0
      obtain ⟨p1, p2, p3, hp⟩ := rg_prev' Seen.enc hd h0 hL
      cases hw0 : (wi c.node 31) <;> cases hw1 : (wi c.seq 255)
      all_goals
        repeat' first | (refine Lp.bkE [_] ih' (by rfl) (by rfl) (by rfl) (Nat.zero_le _) ?_) | (refine Rt_pure ?_ rfl; simp only [retO, retO1, retOs, S, get_cons, Nat.reduceEqDiff, reduceIte, obj, getO_cons_zero, getO_cons_succ, List.getElem?_cons_zero, List.getElem?_cons_succ, List.drop_zero, List.drop_succ_cons, loadFrom_cell, loadFrom_agg, List.length_cons, List.length_nil, Nat.reduceAdd, Nat.reduceLeDiff, List.take_succ_cons, List.take_zero, List.take_nil]) | refine CX_pure c81_ok rfl rfl rfl rfl ?_ | refine GX_call (fun _ => c81_ok) (by rfl) (by intro h; simp only [h]; rfl) (by rfl) (by rfl) ?_ | (with_reducible intro h; try simp only [h]) | (with_reducible refine And.intro ?_ ?_) | (change chk _ _ = true; rfl) | simp only [go_sem, seval, Vc_bool, h1, h2, h3, Int.toNat_natCast, Int.natCast_nonneg, List.length_map, hw0, hw1, p1, p2, p3] | refine (GX_split rfl).2 ?_
        all_goals (clear hk ih ih' h1 h2 h3 h4 hd hL)
        all_goals clear p1 p2 p3 h0
        all_goals (simp only [hp, chain, hw0, hw1]; grind)

theorem c87_ok {l : List Seen} (hL : l.length < 2 ^ 62) : ACalls prog 87 [.sl 2 (l.map Seen.enc)] [] (.bool (seenOk l)) [] := by
  refine calls_of hmx func87 (by kernel_rfl) (c := f87.body.getD .skip) rfl e87 (rs := [(.t 2)]) (by kernel_rfl) (by simp [ntmps87]) ?_
  simp only [c87, argS]
  simp only [go_sem, seval, List.length_map]
  refine Lp.bkE0 (l87 l hL _ (fun s => ?_) l [] rfl) (by rfl) ?_
  · simp only [go_sem, seval]
    (refine Rt_pure ?_ rfl; simp only [retO, retO1, retOs, S, get_cons, Nat.reduceEqDiff, reduceIte, obj, getO_cons_zero, getO_cons_succ, List.getElem?_cons_zero, List.getElem?_cons_succ, List.drop_zero, List.drop_succ_cons, loadFrom_cell, loadFrom_agg, List.length_cons, List.length_nil, Nat.reduceAdd, Nat.reduceLeDiff, List.take_succ_cons, List.take_zero, List.take_nil])
  · rfl

def c86L1 : SC := (.seq (.reg [(.bin 8 .lss (.t 7) (.t 6))]) (.seq (.cond (.t 8) .skip (.exit 0)) (.seq (.block 1 (.seq (.reg [(.mv 9 (.t 7)), (.ia 10 (.t 5) (.t 7) 5), (.ld 11 (.t 10) true 5), (.alc 4 100 [(.int .i64 0), (.int .i64 0), (.int .i64 0), (.str (ByteArray.mk #[])), .nil]), (.mv 3 (.t 9)), (.st (.t 4) (.t 11) 5)]) (.seq (.regD [(.ld 12 (.t 4) true 5), (.call (some 13) (.c (.func 148 [] [])) [(.t 12)]), (.not 14 (.t 13)), (.mv 15 (.t 14)), (.g 15 false (some 16) (.fa 16 (.t 4) 3)), (.g 15 false (some 17) (.ld 17 (.t 16) false 1)), (.g 15 false (some 18) (.len 18 true (.t 17))), (.g 15 false (some 19) (.bin 19 .gtr (.t 18) (.c (.int .i64 100)))), (.pick 20 (.t 15) (.c (.bool true)) (.t 19)), (.mv 21 (.t 20)), (.g 21 false (some 22) (.mv 22 (.t 3))), (.g 21 false (some 23) (.bin 23 .gtr (.t 22) (.c (.int .i64 0)))), (.g 21 false (some 24) (.mv 24 (.t 23))), (.g 24 true (some 25) (.mv 25 (.t 0))), (.g 24 true (some 26) (.mv 26 (.t 3))), (.g 24 true (some 27) (.bin 27 .sub (.t 26) (.c (.int .i64 1)))), (.g 24 true (some 28) (.ia 28 (.t 25) (.t 27) 5)), (.g 24 true (some 29) (.fa 29 (.t 28) 0)), (.g 24 true (some 30) (.ld 30 (.t 29) false 1)), (.g 24 true (some 31) (.fa 31 (.t 4) 0)), (.g 24 true (some 32) (.ld 32 (.t 31) false 1)), (.g 24 true (some 33) (.bin 33 .geq (.t 30) (.t 32))), (.g 21 false (some 34) (.pick 34 (.t 24) (.t 33) (.c (.bool false)))), (.pick 35 (.t 21) (.c (.bool true)) (.t 34))] []) (.cond (.t 35) (.seq (.reg [(.mv 2 (.c (.bool false)))]) .ret) .skip)))) (.reg [(.bin 36 .add (.t 7) (.c (.int .i64 1))), (.mv 7 (.t 36))]))))
def c86 : SC := (.seq (.reg [(.mv 2 (.c (.bool false)))]) (.seq (.seq (.reg [(.mv 5 (.t 0)), (.len 6 false (.t 5)), (.mv 7 (.c (.int .i64 0)))]) (.block 0 (.loop c86L1))) (.seq (.reg [(.mv 37 (.t 0)), (.len 38 false (.t 37)), (.bin 39 .leq (.t 38) (.c (.int .i64 16))), (.mv 2 (.t 39))]) .ret)))
theorem e86 : compC prog f86.ntmps (f86.body.getD .skip) = c86 := by kernel_rfl
def c89L1 : SC := (.seq (.seq (.reg [(.mv 28 (.t 3)), (.fa 29 (.t 1) 4), (.ld 30 (.t 29) false 1), (.len 31 false (.t 30)), (.bin 32 .lss (.t 28) (.t 31))]) (.cond (.t 32) .skip (.exit 0))) (.seq (.block 1 (.seq (.regD [(.fa 35 (.t 1) 4), (.ld 36 (.t 35) false 1), (.mv 37 (.t 3)), (.ia 38 (.t 36) (.t 37) 1), (.ld 39 (.t 38) false 1), (.call (some 40) (.c (.func 90 [] [])) [(.t 39)]), (.not 41 (.t 40)), (.mv 42 (.t 41)), (.g 42 false (some 43) (.mv 43 (.t 3))), (.g 42 false (some 44) (.bin 44 .gtr (.t 43) (.c (.int .i64 0)))), (.g 42 false (some 45) (.mv 45 (.t 44))), (.g 45 true (some 46) (.fa 46 (.t 1) 4)), (.g 45 true (some 47) (.ld 47 (.t 46) false 1)), (.g 45 true (some 48) (.mv 48 (.t 3))), (.g 45 true (some 49) (.bin 49 .sub (.t 48) (.c (.int .i64 1)))), (.g 45 true (some 50) (.ia 50 (.t 47) (.t 49) 1)), (.g 45 true (some 51) (.ld 51 (.t 50) false 1)), (.g 45 true (some 52) (.fa 52 (.t 1) 4)), (.g 45 true (some 53) (.ld 53 (.t 52) false 1)), (.g 45 true (some 54) (.mv 54 (.t 3))), (.g 45 true (some 55) (.ia 55 (.t 53) (.t 54) 1)), (.g 45 true (some 56) (.ld 56 (.t 55) false 1)), (.g 45 true (some 57) (.bin 57 .geq (.t 51) (.t 56))), (.g 42 false (some 58) (.pick 58 (.t 45) (.t 57) (.c (.bool false)))), (.pick 59 (.t 42) (.c (.bool true)) (.t 58))] []) (.cond (.t 59) (.seq (.reg [(.mv 2 (.c (.int .i64 2)))]) .ret) .skip))) (.reg [(.mv 33 (.t 3)), (.bin 34 .add (.t 33) (.c (.int .i64 1))), (.mv 3 (.t 34))])))
def c89 : SC := (.seq (.reg [(.box 1 100 (.t 0)), (.mv 2 (.c (.int .i64 0)))]) (.seq (.seq (.reg [(.fa 4 (.t 1) 0), (.ld 5 (.t 4) false 1), (.call (some 6) (.c (.func 91 [] [])) [(.t 5)]), (.not 7 (.t 6)), (.mv 8 (.t 7)), (.g 8 false (some 9) (.fa 9 (.t 1) 1)), (.g 8 false (some 10) (.ld 10 (.t 9) false 1)), (.g 8 false (some 11) (.bin 11 .lss (.t 10) (.c (.int .i64 0)))), (.pick 12 (.t 8) (.c (.bool true)) (.t 11)), (.mv 13 (.t 12)), (.g 13 false (some 14) (.fa 14 (.t 1) 1)), (.g 13 false (some 15) (.ld 15 (.t 14) false 1)), (.g 13 false (some 16) (.bin 16 .gtr (.t 15) (.c (.int .i64 65535)))), (.pick 17 (.t 13) (.c (.bool true)) (.t 16)), (.mv 18 (.t 17)), (.g 18 false (some 19) (.fa 19 (.t 1) 2)), (.g 18 false (some 20) (.ld 20 (.t 19) false 1)), (.g 18 false (some 21) (.bin 21 .lss (.t 20) (.c (.int .i64 0)))), (.pick 22 (.t 18) (.c (.bool true)) (.t 21)), (.mv 23 (.t 22)), (.g 23 false (some 24) (.fa 24 (.t 1) 2)), (.g 23 false (some 25) (.ld 25 (.t 24) false 1)), (.g 23 false (some 26) (.bin 26 .gtr (.t 25) (.c (.int .i64 109951162)))), (.pick 27 (.t 23) (.c (.bool true)) (.t 26))]) (.cond (.t 27) (.seq (.reg [(.mv 2 (.c (.int .i64 2)))]) .ret) .skip)) (.seq (.seq (.reg [(.mv 3 (.c (.int .i64 0)))]) (.block 0 (.loop c89L1))) (.seq (.seq (.reg [(.fa 60 (.t 1) 3), (.ld 61 (.t 60) false 1), (.len 62 true (.t 61)), (.bin 63 .gtr (.t 62) (.c (.int .i64 100)))]) (.cond (.t 63) (.seq (.reg [(.mv 2 (.c (.int .i64 8)))]) .ret) .skip)) (.seq (.reg [(.mv 2 (.c (.int .i64 0)))]) .ret)))))
theorem e89 : compC prog f89.ntmps (f89.body.getD .skip) = c89 := by kernel_rfl
def c92L1 : SC := (.seq (.seq (.reg [(.mv 5 (.t 4)), (.mv 6 (.t 0)), (.bin 7 .lss (.t 5) (.t 6))]) (.cond (.t 7) .skip (.exit 0))) (.seq (.block 1 (.reg [(.mv 10 (.t 3)), (.bin 11 .mul (.c (.int .i64 2)) (.t 10)), (.mv 3 (.t 11))])) (.reg [(.mv 8 (.t 4)), (.bin 9 .add (.t 8) (.c (.int .i64 1))), (.mv 4 (.t 9))])))
def c92 : SC := (.seq (.reg [(.mv 2 (.c (.int .i64 0)))]) (.seq (.reg [(.mv 3 (.c (.int .i64 1)))]) (.seq (.seq (.reg [(.mv 4 (.c (.int .i64 0)))]) (.block 0 (.loop c92L1))) (.seq (.reg [(.mv 12 (.t 3)), (.mv 2 (.t 12))]) .ret))))
theorem e92 : compC prog f92.ntmps (f92.body.getD .skip) = c92 := by kernel_rfl
theorem l86 (l : List Held) (hA : ∀ x ∈ l, x.acked.length < 2 ^ 62) (hL : (l).length < 2 ^ 62) (k' : List It) (hk : ∀ zs, get zs 0 = .sl 5 (l.map Held.enc) → V prog f86.ntmps 0 (Ret [(.t 2)] 0 (.bool (decide ((l.length : Int) ≤ 16))) []) k' zs []) : ∀ (rest done : List Held), l = done ++ rest →
    Lp prog f86.ntmps 0 (Ret [(.t 2)] 0 (.bool (chain hOk (fun a b => decide (a.flow < b.flow)) done.getLast? rest && decide ((l.length : Int) ≤ 16))) []) c86L1 (.blk 0 :: k') [(0, .sl 5 (l.map Held.enc)), (5, .sl 5 (l.map Held.enc)), (6, .int .i64 l.length), (7, .int .i64 done.length)] [] := by
  intro rest
  induction rest with
  | nil =>
    intro done hd
    refine Lp.of_eq hmx c86L1.eq_1 ?_
    have h1 := rg_end hd
    simp only [go_sem, seval, h1, List.length_map]
    exact hk _ (by rfl)
  | cons c rest ih =>
    intro done hd
    refine Lp.of_eq hmx c86L1.eq_1 ?_
    obtain ⟨h1, h2, h3, h4⟩ := rg_hd Held.enc hd hL
    have ih' := ih _ h4
    rw [List.getLast?_append, List.getLast?_singleton, Option.some_or] at ih'
    have hAc := hA c (by rw [hd]; simp)
    rcases List.eq_nil_or_concat done with h0 | ⟨ds, p, h0⟩
    · obtain ⟨p1, hp⟩ := rg_first' h0
      cases hw0 : (hRange c) <;> cases hw1 : (decide (100 < (c.data.size : Int)))
      all_goals
        repeat' first | (refine Lp.bkE [_] ih' (by rfl) (by rfl) (by rfl) (Nat.zero_le _) ?_) | (refine Rt_pure ?_ rfl; simp only [retO, retO1, retOs, S, get_cons, Nat.reduceEqDiff, reduceIte, obj, getO_cons_zero, getO_cons_succ, List.getElem?_cons_zero, List.getElem?_cons_succ, List.drop_zero, List.drop_succ_cons, loadFrom_cell, loadFrom_agg, List.length_cons, List.length_nil, Nat.reduceAdd, Nat.reduceLeDiff, List.take_succ_cons, List.take_zero, List.take_nil]) | refine CX_pure (c148_ok hAc) rfl rfl rfl rfl ?_ | refine GX_call (fun _ => (c148_ok hAc)) (by rfl) (by intro h; simp only [h]; rfl) (by rfl) (by rfl) ?_ | (with_reducible intro h; try simp only [h]) | (with_reducible refine And.intro ?_ ?_) | (change chk _ _ = true; rfl) | simp only [go_sem, seval, Vc_bool, h1, h2, h3, Int.toNat_natCast, Int.natCast_nonneg, List.length_map, hw0, hw1, p1] | refine (GX_split rfl).2 ?_
        all_goals (clear hk ih ih' h1 h2 h3 h4 hd hL hA hAc)
        all_goals clear p1 h0
        all_goals (simp only [hp, chain, hOk, hw0]; simp only [decide_eq_true_eq, decide_eq_false_iff_not] at hw1; grind)
    · rw [List.concat_eq_append] at h0
      obtain ⟨p1, p2, p3, hp⟩ := rg_prev' Held.enc hd h0 hL
      cases hw0 : (hRange c) <;> cases hw1 : (decide (100 < (c.data.size : Int)))
      all_goals
        repeat' first | (refine Lp.bkE [_] ih' (by rfl) (by rfl) (by rfl) (Nat.zero_le _) ?_) | (refine Rt_pure ?_ rfl; simp only [retO, retO1, retOs, S, get_cons, Nat.reduceEqDiff, reduceIte, obj, getO_cons_zero, getO_cons_succ, List.getElem?_cons_zero, List.getElem?_cons_succ, List.drop_zero, List.drop_succ_cons, loadFrom_cell, loadFrom_agg, List.length_cons, List.length_nil, Nat.reduceAdd, Nat.reduceLeDiff, List.take_succ_cons, List.take_zero, List.take_nil]) | refine CX_pure (c148_ok hAc) rfl rfl rfl rfl ?_ | refine GX_call (fun _ => (c148_ok hAc)) (by rfl) (by intro h; simp only [h]; rfl) (by rfl) (by rfl) ?_ | (with_reducible intro h; try simp only [h]) | (with_reducible refine And.intro ?_ ?_) | (change chk _ _ = true; rfl) | simp only [go_sem, seval, Vc_bool, h1, h2, h3, Int.toNat_natCast, Int.natCast_nonneg, List.length_map, hw0, hw1, p1, p2, p3] | refine (GX_split rfl).2 ?_
        all_goals (clear hk ih ih' h1 h2 h3 h4 hd hL hA hAc)
        all_goals clear p1 p2 p3 h0
        all_goals (simp only [hp, chain, hOk, hw0]; simp only [decide_eq_true_eq, decide_eq_false_iff_not] at hw1; grind)

theorem c86_ok {l : List Held} (hL : l.length < 2 ^ 62) (hA : ∀ x ∈ l, x.acked.length < 2 ^ 62) : ACalls prog 86 [.sl 5 (l.map Held.enc)] [] (.bool (heldOk l)) [] := by
  refine calls_of hmx func86 (by kernel_rfl) (c := f86.body.getD .skip) rfl e86 (rs := [(.t 2)]) (by kernel_rfl) (by simp [ntmps86]) ?_
  simp only [c86, argS]
  simp only [go_sem, seval, List.length_map]
  refine Lp.bkE0 (l86 l hA hL _ (fun s h => ?_) l [] rfl) (by rfl) ?_
  · simp only [go_sem, seval, h, List.length_map]
    (refine Rt_pure ?_ rfl; simp only [retO, retO1, retOs, S, get_cons, Nat.reduceEqDiff, reduceIte, obj, getO_cons_zero, getO_cons_succ, List.getElem?_cons_zero, List.getElem?_cons_succ, List.drop_zero, List.drop_succ_cons, loadFrom_cell, loadFrom_agg, List.length_cons, List.length_nil, Nat.reduceAdd, Nat.reduceLeDiff, List.take_succ_cons, List.take_zero, List.take_nil])
  · rfl
def c188L1 : SC := (.seq (.reg [(.bin 22 .lss (.t 21) (.t 20))]) (.seq (.cond (.t 22) .skip (.exit 0)) (.seq (.block 1 (.seq (.reg [(.mv 23 (.t 21)), (.ia 24 (.t 19) (.t 21) 6), (.ld 25 (.t 24) true 6), (.alc 5 104 [(.int .i64 0), (.int .i64 0), (.int .i64 0), (.int .i64 0), (.int .i64 0), (.str (ByteArray.mk #[]))]), (.mv 4 (.t 23)), (.st (.t 5) (.t 25) 6)]) (.seq (.seq (.reg [(.ld 26 (.t 5) true 6), (.call (some 27) (.c (.func 265 [] [])) [(.t 26)]), (.mv 6 (.t 27))]) (.seq (.reg [(.mv 28 (.t 6)), (.bin 29 .neq (.t 28) (.c (.int .i64 0)))]) (.cond (.t 29) (.seq (.reg [(.mv 30 (.t 6)), (.mv 2 (.t 30))]) .ret) .skip))) (.seq (.seq (.reg [(.mv 31 (.t 3)), (.fa 32 (.t 5) 0), (.ld 33 (.t 32) false 1), (.mgt 34 (.t 31) (.t 33) (.bool false) false)]) (.cond (.t 34) (.seq (.reg [(.mv 2 (.c (.int .i64 6)))]) .ret) .skip)) (.seq (.seq (.regD [(.mv 35 (.t 4)), (.bin 36 .gtr (.t 35) (.c (.int .i64 0))), (.mv 37 (.t 36)), (.g 37 true (some 38) (.fa 38 (.t 1) 1)), (.g 37 true (some 39) (.ld 39 (.t 38) false 1)), (.g 37 true (some 40) (.mv 40 (.t 4))), (.g 37 true (some 41) (.bin 41 .sub (.t 40) (.c (.int .i64 1)))), (.g 37 true (some 42) (.ia 42 (.t 39) (.t 41) 6)), (.g 37 true (some 43) (.fa 43 (.t 42) 2)), (.g 37 true (some 44) (.ld 44 (.t 43) false 1)), (.g 37 true (some 45) (.fa 45 (.t 5) 2)), (.g 37 true (some 46) (.ld 46 (.t 45) false 1)), (.g 37 true (some 47) (.bin 47 .gtr (.t 44) (.t 46))), (.pick 48 (.t 37) (.t 47) (.c (.bool false)))] []) (.cond (.t 48) (.seq (.reg [(.mv 2 (.c (.int .i64 5)))]) .ret) .skip)) (.reg [(.mv 49 (.t 3)), (.fa 50 (.t 5) 0), (.ld 51 (.t 50) false 1), (.mst (.t 49) (.t 51) (.c (.bool true)))])))))) (.reg [(.bin 52 .add (.t 21) (.c (.int .i64 1))), (.mv 21 (.t 52))]))))
def c188 : SC := (.seq (.reg [(.box 1 27 (.t 0)), (.mv 2 (.c (.int .i64 0)))]) (.seq (.seq (.reg [(.fa 7 (.t 1) 0), (.ld 8 (.t 7) false 1), (.call (some 9) (.c (.func 298 [] [])) [(.t 8), (.c (.int .i64 1)), (.c (.int .i64 64))]), (.not 10 (.t 9))]) (.cond (.t 10) (.seq (.reg [(.mv 2 (.c (.int .i64 2)))]) .ret) .skip)) (.seq (.seq (.reg [(.fa 11 (.t 1) 1), (.ld 12 (.t 11) false 1), (.len 13 false (.t 12)), (.fa 14 (.t 1) 0), (.ld 15 (.t 14) false 1), (.bin 16 .gtr (.t 13) (.t 15))]) (.cond (.t 16) (.seq (.reg [(.mv 2 (.c (.int .i64 8)))]) .ret) .skip)) (.seq (.reg [(.mkm 17), (.mv 3 (.t 17))]) (.seq (.seq (.reg [(.fa 18 (.t 1) 1), (.ld 19 (.t 18) false 1), (.len 20 false (.t 19)), (.mv 21 (.c (.int .i64 0)))]) (.block 0 (.loop c188L1))) (.seq (.reg [(.mv 2 (.c (.int .i64 0)))]) .ret))))))
theorem e188 : compC prog f188.ntmps (f188.body.getD .skip) = c188 := by kernel_rfl
def c85 : SC := (.seq (.reg [(.box 1 31 (.t 0)), (.mv 2 (.c (.bool false)))]) (.seq (.reg [(.fa 3 (.t 1) 3), (.ld 4 (.t 3) true 2), (.call (some 5) (.c (.func 188 [] [])) [(.t 4)]), (.bin 6 .eql (.t 5) (.c (.int .i64 0))), (.mv 7 (.t 6)), (.g 7 true (some 8) (.fa 8 (.t 1) 3)), (.g 7 true (some 9) (.fa 9 (.t 8) 1)), (.g 7 true (some 10) (.ld 10 (.t 9) false 1)), (.g 7 true (some 11) (.mkf 11 189 [] [(.t 1)])), (.g 7 true (some 12) (.call (some 12) (.c (.func 186 [] [])) [(.t 10), (.t 11)])), (.g 7 true (some 13) (.not 13 (.t 12))), (.pick 14 (.t 7) (.t 13) (.c (.bool false))), (.mv 2 (.t 14))]) .ret))
theorem e85 : compC prog f85.ntmps (f85.body.getD .skip) = c85 := by kernel_rfl
def c189 : SC := (.seq (.reg [(.box 2 104 (.t 0)), (.mv 3 (.c (.bool false)))]) (.seq (.reg [(.fa 4 (.t 2) 1), (.ld 5 (.t 4) false 1), (.fa 6 (.t 1) 0), (.fa 7 (.t 6) 0), (.ld 8 (.t 7) false 1), (.bin 9 .eql (.t 5) (.t 8)), (.mv 10 (.t 9)), (.g 10 false (some 11) (.fa 11 (.t 2) 5)), (.g 10 false (some 12) (.ld 12 (.t 11) false 1)), (.g 10 false (some 13) (.len 13 true (.t 12))), (.g 10 false (some 14) (.bin 14 .gtr (.t 13) (.c (.int .i64 100)))), (.pick 15 (.t 10) (.c (.bool true)) (.t 14)), (.mv 3 (.t 15))]) .ret))
theorem e189 : compC prog f189.ntmps (f189.body.getD .skip) = c189 := by kernel_rfl
theorem c92_ok {n : Int} (h0 : 0 ≤ n) (h5 : n ≤ 5) : ACalls prog 92 [.int .i64 n] [] (.int .i64 (2 ^ n.toNat)) [] := by
  refine calls_of hmx func92 (by kernel_rfl) (c := f92.body.getD .skip) rfl e92 (rs := [(.t 2)]) (by kernel_rfl) (by simp [ntmps92]) ?_
  simp only [c92, argS]
  obtain rfl | rfl | rfl | rfl | rfl | rfl : n = 0 ∨ n = 1 ∨ n = 2 ∨ n = 3 ∨ n = 4 ∨ n = 5 := by omega
  all_goals
    repeat' first | (refine Rt_pure ?_ rfl; simp only [retO, retO1, retOs, S, get_cons, Nat.reduceEqDiff, reduceIte, obj, getO_cons_zero, getO_cons_succ, List.getElem?_cons_zero, List.getElem?_cons_succ, List.drop_zero, List.drop_succ_cons, loadFrom_cell, loadFrom_agg, List.length_cons, List.length_nil, Nat.reduceAdd, Nat.reduceLeDiff, List.take_succ_cons, List.take_zero, List.take_nil]) | refine Lp.of_eq hmx c92L1.eq_1 ?_ | simp only [go_sem, seval]
def heldErr (h : Held) : Int := if hRange h = false then 2 else if 100 < (h.data.size : Int) then 8 else 0
theorem l89 (h : Held) (hL : (h.acked).length < 2 ^ 62) (k' : List It) (hk : ∀ zs, get zs 1 = .ptr 0 0 0 0 → V prog f89.ntmps 0 (Ret [(.t 2)] 0 (.int .i64 (if 100 < (h.data.size : Int) then 8 else 0)) []) k' zs [.cells 0 5 100 true [h.enc]]) : ∀ (rest done : List Int), h.acked = done ++ rest →
    Lp prog f89.ntmps 0 (Ret [(.t 2)] 0 (.int .i64 (if chain (fun n => wi n 31) (fun a b => decide (a < b)) done.getLast? rest = true then (if 100 < (h.data.size : Int) then 8 else 0) else 2)) []) c89L1 (.blk 0 :: k') [(1, .ptr 0 0 0 0), (3, .int .i64 done.length)] [.cells 0 5 100 true [h.enc]] := by
  intro rest
  induction rest with
  | nil =>
    intro done hd
    refine Lp.of_eq hmx c89L1.eq_1 ?_
    have h1 := rg_end hd
    simp only [go_sem, seval, h1, List.length_map]
    exact hk _ (by rfl)
  | cons c rest ih =>
    intro done hd
    refine Lp.of_eq hmx c89L1.eq_1 ?_
    obtain ⟨h1, h2, h3, h4⟩ := rg_hd eI hd hL
    have ih' := ih _ h4
    rw [List.getLast?_append, List.getLast?_singleton, Option.some_or] at ih'
    rcases List.eq_nil_or_concat done with h0 | ⟨ds, p, h0⟩
    · obtain ⟨p1, hp⟩ := rg_first' h0
      cases hw0 : (wi c 31)
      all_goals
        repeat' first | (refine Lp.bkE0 ih' (by rfl) ?_) | (refine Rt_pure ?_ rfl; simp only [retO, retO1, retOs, S, get_cons, Nat.reduceEqDiff, reduceIte, obj, getO_cons_zero, getO_cons_succ, List.getElem?_cons_zero, List.getElem?_cons_succ, List.drop_zero, List.drop_succ_cons, loadFrom_cell, loadFrom_agg, List.length_cons, List.length_nil, Nat.reduceAdd, Nat.reduceLeDiff, List.take_succ_cons, List.take_zero, List.take_nil]) | refine CX_pure c90_ok rfl rfl rfl rfl ?_ | refine GX_call (fun _ => c90_ok) (by rfl) (by intro h; simp only [h]; rfl) (by rfl) (by rfl) ?_ | (with_reducible intro h; try simp only [h]) | (with_reducible refine And.intro ?_ ?_) | (change chk _ _ = true; rfl) | simp only [go_sem, seval, Vc_bool, h1, h2, h3, Int.toNat_natCast, Int.natCast_nonneg, List.length_map, hw0, p1] | refine (GX_split rfl).2 ?_
        all_goals (clear hk ih ih' h1 h2 h3 h4 hd hL)
        all_goals clear p1 h0
        all_goals (simp only [hp, chain, hw0]; grind)
    · rw [List.concat_eq_append] at h0
      obtain ⟨p1, p2, p3, hp⟩ := rg_prev' eI hd h0 hL
      cases hw0 : (wi c 31)
      all_goals
        repeat' first | (refine Lp.bkE0 ih' (by rfl) ?_) | (refine Rt_pure ?_ rfl; simp only [retO, retO1, retOs, S, get_cons, Nat.reduceEqDiff, reduceIte, obj, getO_cons_zero, getO_cons_succ, List.getElem?_cons_zero, List.getElem?_cons_succ, List.drop_zero, List.drop_succ_cons, loadFrom_cell, loadFrom_agg, List.length_cons, List.length_nil, Nat.reduceAdd, Nat.reduceLeDiff, List.take_succ_cons, List.take_zero, List.take_nil]) | refine CX_pure c90_ok rfl rfl rfl rfl ?_ | refine GX_call (fun _ => c90_ok) (by rfl) (by intro h; simp only [h]; rfl) (by rfl) (by rfl) ?_ | (with_reducible intro h; try simp only [h]) | (with_reducible refine And.intro ?_ ?_) | (change chk _ _ = true; rfl) | simp only [go_sem, seval, Vc_bool, h1, h2, h3, Int.toNat_natCast, Int.natCast_nonneg, List.length_map, hw0, p1, p2, p3] | refine (GX_split rfl).2 ?_
        all_goals (clear hk ih ih' h1 h2 h3 h4 hd hL)
        all_goals clear p1 p2 p3 h0
        all_goals (simp only [hp, chain, hw0]; grind)

theorem c89_pf (h : Held) (hL : h.acked.length < 2 ^ 62) : ACalls prog 89 [.agg [.int .i64 h.flow, .int .i64 h.frame, .int .i64 h.upto, .str h.data, .sl 1 (h.acked.map eI)]] [] (.int .i64 (heldErr h)) [] := by
  refine calls_of hmx func89 (by kernel_rfl) (c := f89.body.getD .skip) rfl e89 (rs := [(.t 2)]) (by kernel_rfl) (by simp [ntmps89]) ?_
  simp only [c89, argS]
  cases h1 : wi h.flow 255
  · simp only [go_sem, seval]
    refine CX_pure c91_ok rfl rfl rfl rfl ?_
    simp only [go_sem, seval, h1]
    (refine Rt_pure ?_ rfl; simp only [retO, retO1, retOs, S, get_cons, Nat.reduceEqDiff, reduceIte, obj, getO_cons_zero, getO_cons_succ, List.getElem?_cons_zero, List.getElem?_cons_succ, List.drop_zero, List.drop_succ_cons, loadFrom_cell, loadFrom_agg, List.length_cons, List.length_nil, Nat.reduceAdd, Nat.reduceLeDiff, List.take_succ_cons, List.take_zero, List.take_nil])
    simp [heldErr, hRange, h1]
  · simp only [go_sem, seval]
    refine CX_pure c91_ok rfl rfl rfl rfl ?_
    simp only [go_sem, seval, h1, Vc_bool]
    refine ⟨fun h2 => ?_, fun h2 => ?_⟩
    · (refine Rt_pure ?_ rfl; simp only [retO, retO1, retOs, S, get_cons, Nat.reduceEqDiff, reduceIte, obj, getO_cons_zero, getO_cons_succ, List.getElem?_cons_zero, List.getElem?_cons_succ, List.drop_zero, List.drop_succ_cons, loadFrom_cell, loadFrom_agg, List.length_cons, List.length_nil, Nat.reduceAdd, Nat.reduceLeDiff, List.take_succ_cons, List.take_zero, List.take_nil])
      grind [heldErr, hRange, wi]
    · refine Lp.bkE0 (l89 h hL _ (fun s h3 => ?_) h.acked [] rfl) (by rfl) ?_
      · simp only [go_sem, seval, h3, Vc_bool]
        refine ⟨fun h4 => ?_, fun h4 => ?_⟩ <;> (refine Rt_pure ?_ rfl; simp only [retO, retO1, retOs, S, get_cons, Nat.reduceEqDiff, reduceIte, obj, getO_cons_zero, getO_cons_succ, List.getElem?_cons_zero, List.getElem?_cons_succ, List.drop_zero, List.drop_succ_cons, loadFrom_cell, loadFrom_agg, List.length_cons, List.length_nil, Nat.reduceAdd, Nat.reduceLeDiff, List.take_succ_cons, List.take_zero, List.take_nil]) <;> grind
      · have e : wi h.frame 65535 = true ∧ wi h.upto 109951162 = true := by simp only [wi]; grind
        show AVal.int .i64 (if rising h.acked = true then _ else _) = _
        simp only [heldErr, hRange, h1, e.1, e.2]
        grind
theorem c89_ok {h_flow : Int} {h_frame : Int} {h_upto : Int} {h_data : ByteArray} {h_acked : List Int} (hL : h_acked.length < 2 ^ 62) : ACalls prog 89 [.agg [.int .i64 h_flow, .int .i64 h_frame, .int .i64 h_upto, .str h_data, .sl 1 (h_acked.map eI)]] [] (.int .i64 (heldErr (⟨h_flow, h_frame, h_upto, h_data, h_acked⟩ : Held))) [] := c89_pf (⟨h_flow, h_frame, h_upto, h_data, h_acked⟩ : Held) hL

theorem idx_dup {L done rest : List Packet} {c : Packet} (hd : L = done ++ c :: rest) : decide (pkIdx L c.id < (done.length : Int)) = done.any fun x => decide (x.id = c.id) := by
  subst hd
  rcases idxFrom_range (fun p : Packet => decide (p.id = c.id)) (done ++ c :: rest) 0 with ⟨h1, h2⟩ | ⟨i, x, h1, h2, h3, h4⟩
  · have := h2 c (by simp)
    simp at this
  · have e : pkIdx (done ++ c :: rest) c.id = (i : Int) := by rw [Nat.zero_add] at h3; exact h3
    rw [e]
    by_cases hi : i < done.length
    · rw [List.getElem?_append_left hi] at h1
      have : (done.any fun x => decide (x.id = c.id)) = true := List.any_eq_true.2 ⟨x, List.mem_of_getElem? h1, h2⟩
      rw [this]
      simp [hi]
    · have : (done.any fun x => decide (x.id = c.id)) = false := by
        rw [List.any_eq_false]
        intro y hy
        obtain ⟨j, hj⟩ := List.mem_iff_getElem?.1 hy
        have hlt := (List.getElem?_eq_some_iff.1 hj).1
        have := h4 j y (by omega) (by rw [List.getElem?_append_left hlt]; exact hj)
        simpa using this
      rw [this]
      simp
      omega
theorem l88 (q : Queue) (hL : (q.pk).length < 2 ^ 62) (k' : List It) (hk : ∀ zs, V prog f88.ntmps 0 (Ret [(.t 2)] 0 (.int .i64 0) []) k' zs [.cells 0 2 27 true [q.enc]]) : ∀ (rest done : List Packet), q.pk = done ++ rest →
    Lp prog f88.ntmps 0 (Ret [(.t 2)] 0 (.int .i64 (qck done rest)) []) c88L1 (.blk 0 :: k') [(1, .ptr 0 0 0 0), (3, .int .i64 done.length)] [.cells 0 2 27 true [q.enc]] := by
  intro rest
  induction rest with
  | nil =>
    intro done hd
    refine Lp.of_eq hmx c88L1.eq_1 ?_
    have h1 := rg_end hd
    simp only [go_sem, seval, h1, List.length_map]
    exact hk _
  | cons c rest ih =>
    intro done hd
    refine Lp.of_eq hmx c88L1.eq_1 ?_
    obtain ⟨h1, h2, h3, h4⟩ := rg_hd Packet.enc hd hL
    have ih' := ih _ h4
    have hx := idx_dup hd
    rcases List.eq_nil_or_concat done with h0 | ⟨ds, p, h0⟩
    · obtain ⟨p1, hp⟩ := rg_first' h0
      repeat' first | (refine Lp.bkE [_] ih' (by rfl) (by rfl) (by rfl) (Nat.zero_le _) ?_) | (refine Rt_pure ?_ rfl; simp only [retO, retO1, retOs, S, get_cons, Nat.reduceEqDiff, reduceIte, obj, getO_cons_zero, getO_cons_succ, List.getElem?_cons_zero, List.getElem?_cons_succ, List.drop_zero, List.drop_succ_cons, loadFrom_cell, loadFrom_agg, List.length_cons, List.length_nil, Nat.reduceAdd, Nat.reduceLeDiff, List.take_succ_cons, List.take_zero, List.take_nil]) | refine CX_pure c190_ok rfl rfl rfl rfl ?_ | refine CX_pure (c93_ok hL) rfl rfl rfl rfl ?_ | refine GX_call (fun _ => c190_ok) (by rfl) (by intro h; simp only [h]; rfl) (by rfl) (by rfl) ?_ | refine GX_call (fun _ => (c93_ok hL)) (by rfl) (by intro h; simp only [h]; rfl) (by rfl) (by rfl) ?_ | (with_reducible intro h; try simp only [h]) | (with_reducible refine And.intro ?_ ?_) | (change chk _ _ = true; rfl) | simp only [go_sem, seval, Vc_bool, h1, h2, h3, Int.toNat_natCast, Int.natCast_nonneg, List.length_map, hx, p1] | refine (GX_split rfl).2 ?_
      all_goals (clear hk ih ih' h1 h2 h3 h4 hd hL hx)
      all_goals clear p1 h0
      all_goals (simp only [hp, qck]; grind)
    · rw [List.concat_eq_append] at h0
      obtain ⟨p1, p2, p3, hp⟩ := rg_prev' Packet.enc hd h0 hL
      repeat' first | (refine Lp.bkE [_] ih' (by rfl) (by rfl) (by rfl) (Nat.zero_le _) ?_) | (refine Rt_pure ?_ rfl; simp only [retO, retO1, retOs, S, get_cons, Nat.reduceEqDiff, reduceIte, obj, getO_cons_zero, getO_cons_succ, List.getElem?_cons_zero, List.getElem?_cons_succ, List.drop_zero, List.drop_succ_cons, loadFrom_cell, loadFrom_agg, List.length_cons, List.length_nil, Nat.reduceAdd, Nat.reduceLeDiff, List.take_succ_cons, List.take_zero, List.take_nil]) | refine CX_pure c190_ok rfl rfl rfl rfl ?_ | refine CX_pure (c93_ok hL) rfl rfl rfl rfl ?_ | refine GX_call (fun _ => c190_ok) (by rfl) (by intro h; simp only [h]; rfl) (by rfl) (by rfl) ?_ | refine GX_call (fun _ => (c93_ok hL)) (by rfl) (by intro h; simp only [h]; rfl) (by rfl) (by rfl) ?_ | (with_reducible intro h; try simp only [h]) | (with_reducible refine And.intro ?_ ?_) | (change chk _ _ = true; rfl) | simp only [go_sem, seval, Vc_bool, h1, h2, h3, Int.toNat_natCast, Int.natCast_nonneg, List.length_map, hx, p1, p2, p3] | refine (GX_split rfl).2 ?_
      all_goals (clear hk ih ih' h1 h2 h3 h4 hd hL hx)
      all_goals clear p1 p2 p3 h0
      all_goals (simp only [hp, qck]; grind)

theorem c88_pf (q : Queue) (hL : q.pk.length < 2 ^ 62) : ACalls prog 88 [.agg [.int .i64 q.limit, .sl 6 (q.pk.map Packet.enc)]] [] (.int .i64 (qErr q)) [] := by
  refine calls_of hmx func88 (by kernel_rfl) (c := f88.body.getD .skip) rfl e88 (rs := [(.t 2)]) (by kernel_rfl) (by simp [ntmps88]) ?_
  simp only [c88, argS]
  simp only [go_sem, seval, Vc_bool, List.length_map]
  refine ⟨fun h1 => ?_, fun h1 => ⟨fun h2 => ?_, fun h2 => ?_⟩⟩
  · (refine Rt_pure ?_ rfl; simp only [retO, retO1, retOs, S, get_cons, Nat.reduceEqDiff, reduceIte, obj, getO_cons_zero, getO_cons_succ, List.getElem?_cons_zero, List.getElem?_cons_succ, List.drop_zero, List.drop_succ_cons, loadFrom_cell, loadFrom_agg, List.length_cons, List.length_nil, Nat.reduceAdd, Nat.reduceLeDiff, List.take_succ_cons, List.take_zero, List.take_nil])
    grind [qErr, wi3]
  · (refine Rt_pure ?_ rfl; simp only [retO, retO1, retOs, S, get_cons, Nat.reduceEqDiff, reduceIte, obj, getO_cons_zero, getO_cons_succ, List.getElem?_cons_zero, List.getElem?_cons_succ, List.drop_zero, List.drop_succ_cons, loadFrom_cell, loadFrom_agg, List.length_cons, List.length_nil, Nat.reduceAdd, Nat.reduceLeDiff, List.take_succ_cons, List.take_zero, List.take_nil])
    grind [qErr, wi3]
  · refine Lp.bkE0 (l88 q hL _ (fun s => ?_) q.pk [] rfl) (by rfl) ?_
    · simp only [go_sem, seval]
      (refine Rt_pure ?_ rfl; simp only [retO, retO1, retOs, S, get_cons, Nat.reduceEqDiff, reduceIte, obj, getO_cons_zero, getO_cons_succ, List.getElem?_cons_zero, List.getElem?_cons_succ, List.drop_zero, List.drop_succ_cons, loadFrom_cell, loadFrom_agg, List.length_cons, List.length_nil, Nat.reduceAdd, Nat.reduceLeDiff, List.take_succ_cons, List.take_zero, List.take_nil])
    · grind [qErr, wi3]
theorem c88_ok {q_limit : Int} {q_pk : List Packet} (hL : q_pk.length < 2 ^ 62) : ACalls prog 88 [.agg [.int .i64 q_limit, .sl 6 (q_pk.map Packet.enc)]] [] (.int .i64 (qErr (⟨q_limit, q_pk⟩ : Queue))) [] := c88_pf (⟨q_limit, q_pk⟩ : Queue) hL

theorem l188 (q : Queue) (hL : (q.pk).length < 2 ^ 62) (k' : List It) (hk : ∀ zs, V prog f188.ntmps 0 (Ret [(.t 2)] 0 (.int .i64 0) []) k' zs [.cells 0 2 27 true [q.enc], .map (q.pk.map fun p => (p.id, .bool true))]) : ∀ (rest done : List Packet), q.pk = done ++ rest →
    Lp prog f188.ntmps 0 (Ret [(.t 2)] 0 (.int .i64 (qck done rest)) []) c188L1 (.blk 0 :: k') [(1, .ptr 0 0 0 0), (3, .map 1), (19, .sl 6 (q.pk.map Packet.enc)), (20, .int .i64 q.pk.length), (21, .int .i64 done.length)] [.cells 0 2 27 true [q.enc], .map (done.map fun p => (p.id, .bool true))] := by
  intro rest
  induction rest with
  | nil =>
    intro done hd
    obtain rfl : done = q.pk := by simpa using hd.symm
    refine Lp.of_eq hmx c188L1.eq_1 ?_
    have h1 := rg_end hd
    simp only [go_sem, seval, h1, List.length_map]
    exact hk _
  | cons c rest ih =>
    intro done hd
    refine Lp.of_eq hmx c188L1.eq_1 ?_
    obtain ⟨h1, h2, h3, h4⟩ := rg_hd Packet.enc hd hL
    have ih' := ih _ h4
    simp only [List.map_append, List.map_cons, List.map_nil] at ih'
    rcases List.eq_nil_or_concat done with h0 | ⟨ds, p, h0⟩
    · obtain ⟨p1, hp⟩ := rg_first' h0
      cases hw0 : (done.any fun x => decide (x.id = c.id))
      all_goals
        repeat' first | (refine Lp.bkE [_] ih' (by rfl) (by rfl) (by simp [ltO, ltv, ltL, Queue.enc]) (Nat.zero_le _) ?_) | (refine Rt_pure ?_ rfl; simp only [retO, retO1, retOs, S, get_cons, Nat.reduceEqDiff, reduceIte, obj, getO_cons_zero, getO_cons_succ, List.getElem?_cons_zero, List.getElem?_cons_succ, List.drop_zero, List.drop_succ_cons, loadFrom_cell, loadFrom_agg, List.length_cons, List.length_nil, Nat.reduceAdd, Nat.reduceLeDiff, List.take_succ_cons, List.take_zero, List.take_nil]) | refine CX_pure c265_ok rfl rfl rfl rfl ?_ | refine GX_call (fun _ => c265_ok) (by rfl) (by intro h; simp only [h]; rfl) (by rfl) (by rfl) ?_ | (with_reducible intro h; try simp only [h]) | (with_reducible refine And.intro ?_ ?_) | (change chk _ _ = true; rfl) | simp only [go_sem, seval, Vc_bool, h1, h2, h3, Int.toNat_natCast, Int.natCast_nonneg, List.length_map, set_at, set_set, hw0, p1] | refine (GX_split rfl).2 ?_
        all_goals (clear hk ih ih' h1 h2 h3 h4 hd hL)
        all_goals clear p1 h0
        all_goals (simp only [hp, qck, hw0]; grind)
    · rw [List.concat_eq_append] at h0
      obtain ⟨p1, p2, p3, hp⟩ := rg_prev' Packet.enc hd h0 hL
      cases hw0 : (done.any fun x => decide (x.id = c.id))
      all_goals
        repeat' first | (refine Lp.bkE [_] ih' (by rfl) (by rfl) (by simp [ltO, ltv, ltL, Queue.enc]) (Nat.zero_le _) ?_) | (refine Rt_pure ?_ rfl; simp only [retO, retO1, retOs, S, get_cons, Nat.reduceEqDiff, reduceIte, obj, getO_cons_zero, getO_cons_succ, List.getElem?_cons_zero, List.getElem?_cons_succ, List.drop_zero, List.drop_succ_cons, loadFrom_cell, loadFrom_agg, List.length_cons, List.length_nil, Nat.reduceAdd, Nat.reduceLeDiff, List.take_succ_cons, List.take_zero, List.take_nil]) | refine CX_pure c265_ok rfl rfl rfl rfl ?_ | refine GX_call (fun _ => c265_ok) (by rfl) (by intro h; simp only [h]; rfl) (by rfl) (by rfl) ?_ | (with_reducible intro h; try simp only [h]) | (with_reducible refine And.intro ?_ ?_) | (change chk _ _ = true; rfl) | simp only [go_sem, seval, Vc_bool, h1, h2, h3, Int.toNat_natCast, Int.natCast_nonneg, List.length_map, set_at, set_set, hw0, p1, p2, p3] | refine (GX_split rfl).2 ?_
        all_goals (clear hk ih ih' h1 h2 h3 h4 hd hL)
        all_goals clear p1 p2 p3 h0
        all_goals (simp only [hp, qck, hw0]; grind)


def c22 : SC := (.seq (.reg [(.box 1 31 (.t 0)), (.mv 2 (.c (.int .i64 0)))]) (.seq (.reg [(.fa 4 (.t 1) 9), (.ld 5 (.t 4) false 1), (.bin 6 .eql (.t 5) (.c (.int .i64 (-1)))), (.mv 7 (.t 6)), (.g 7 true (some 8) (.fa 8 (.t 1) 10)), (.g 7 true (some 9) (.ld 9 (.t 8) false 1)), (.g 7 true (some 10) (.bin 10 .eql (.t 9) (.c (.int .i64 0)))), (.pick 11 (.t 7) (.t 10) (.c (.bool false))), (.mv 12 (.t 11)), (.g 12 false (some 13) (.fa 13 (.t 1) 9)), (.g 12 false (some 14) (.ld 14 (.t 13) false 1)), (.g 12 false (some 15) (.bin 15 .geq (.t 14) (.c (.int .i64 0)))), (.g 12 false (some 16) (.mv 16 (.t 15))), (.g 16 true (some 17) (.fa 17 (.t 1) 3)), (.g 16 true (some 18) (.ld 18 (.t 17) true 2)), (.g 16 true (some 19) (.fa 19 (.t 1) 9)), (.g 16 true (some 20) (.ld 20 (.t 19) false 1)), (.g 16 true (some 21) (.call (some 21) (.c (.func 84 [] [])) [(.t 18), (.t 20)])), (.g 12 false (some 22) (.pick 22 (.t 16) (.t 21) (.c (.bool false)))), (.g 12 false (some 23) (.mv 23 (.t 22))), (.g 23 true (some 24) (.fa 24 (.t 1) 10)), (.g 23 true (some 25) (.ld 25 (.t 24) false 1)), (.g 23 true (some 26) (.bin 26 .geq (.t 25) (.c (.int .i64 1)))), (.g 12 false (some 27) (.pick 27 (.t 23) (.t 26) (.c (.bool false)))), (.g 12 false (some 28) (.mv 28 (.t 27))), (.g 28 true (some 29) (.fa 29 (.t 1) 10)), (.g 28 true (some 30) (.ld 30 (.t 29) false 1)), (.g 28 true (some 31) (.bin 31 .lss (.t 30) (.c (.int .i64 4)))), (.g 12 false (some 32) (.pick 32 (.t 28) (.t 31) (.c (.bool false)))), (.pick 33 (.t 12) (.c (.bool true)) (.t 32)), (.mv 3 (.t 33))]) (.seq (.seq (.reg [(.fa 34 (.t 1) 0), (.ld 35 (.t 34) true 3), (.call (some 36) (.c (.func 80 [] [])) [(.t 35)]), (.bin 37 .neq (.t 36) (.c (.int .i64 0))), (.mv 38 (.t 37)), (.g 38 false (some 39) (.ld 39 (.t 1) true 14)), (.g 38 false (some 40) (.call (some 40) (.c (.func 85 [] [])) [(.t 39)])), (.g 38 false (some 41) (.not 41 (.t 40))), (.pick 42 (.t 38) (.c (.bool true)) (.t 41)), (.mv 43 (.t 42)), (.g 43 false (some 44) (.fa 44 (.t 1) 5)), (.g 43 false (some 45) (.ld 45 (.t 44) false 1)), (.g 43 false (some 46) (.call (some 46) (.c (.func 86 [] [])) [(.t 45)])), (.g 43 false (some 47) (.not 47 (.t 46))), (.pick 48 (.t 43) (.c (.bool true)) (.t 47)), (.mv 49 (.t 48)), (.g 49 false (some 50) (.fa 50 (.t 1) 6)), (.g 49 false (some 51) (.ld 51 (.t 50) false 1)), (.g 49 false (some 52) (.call (some 52) (.c (.func 87 [] [])) [(.t 51)])), (.g 49 false (some 53) (.not 53 (.t 52))), (.pick 54 (.t 49) (.c (.bool true)) (.t 53)), (.mv 55 (.t 54)), (.g 55 false (some 56) (.mv 56 (.t 3))), (.g 55 false (some 57) (.not 57 (.t 56))), (.pick 58 (.t 55) (.c (.bool true)) (.t 57)), (.mv 59 (.t 58)), (.g 59 false (some 60) (.fa 60 (.t 1) 7)), (.g 59 false (some 61) (.ld 61 (.t 60) false 1)), (.g 59 false (some 62) (.call (some 62) (.c (.func 81 [] [])) [(.t 61), (.c (.int .i64 255))])), (.g 59 false (some 63) (.not 63 (.t 62))), (.pick 64 (.t 59) (.c (.bool true)) (.t 63)), (.mv 65 (.t 64)), (.g 65 false (some 66) (.fa 66 (.t 1) 8)), (.g 65 false (some 67) (.ld 67 (.t 66) false 1)), (.g 65 false (some 68) (.call (some 68) (.c (.func 81 [] [])) [(.t 67), (.c (.int .i64 255))])), (.g 65 false (some 69) (.not 69 (.t 68))), (.pick 70 (.t 65) (.c (.bool true)) (.t 69))]) (.cond (.t 70) (.seq (.reg [(.mv 2 (.c (.int .i64 1)))]) .ret) .skip)) (.seq (.seq (.regD [(.fa 71 (.t 1) 11), (.ld 72 (.t 71) false 1), (.call (some 73) (.c (.func 81 [] [])) [(.t 72), (.c (.int .i64 5))]), (.not 74 (.t 73)), (.mv 75 (.t 74)), (.g 75 false (some 76) (.fa 76 (.t 1) 12)), (.g 75 false (some 77) (.ld 77 (.t 76) false 1)), (.g 75 false (some 78) (.fa 78 (.t 1) 11)), (.g 75 false (some 79) (.ld 79 (.t 78) false 1)), (.g 75 false (some 80) (.bin 80 .shl (.c (.int .i64 1)) (.t 79))), (.g 75 false (some 81) (.bin 81 .sub (.t 80) (.c (.int .i64 1)))), (.g 75 false (some 82) (.call (some 82) (.c (.func 81 [] [])) [(.t 77), (.t 81)])), (.g 75 false (some 83) (.not 83 (.t 82))), (.pick 84 (.t 75) (.c (.bool true)) (.t 83)), (.mv 85 (.t 84)), (.g 85 false (some 86) (.fa 86 (.t 1) 13)), (.g 85 false (some 87) (.ld 87 (.t 86) false 1)), (.g 85 false (some 88) (.call (some 88) (.c (.func 81 [] [])) [(.t 87), (.c (.int .i64 2147483647))])), (.g 85 false (some 89) (.not 89 (.t 88))), (.pick 90 (.t 85) (.c (.bool true)) (.t 89))] []) (.cond (.t 90) (.seq (.reg [(.mv 2 (.c (.int .i64 1)))]) .ret) .skip)) (.seq (.reg [(.mv 2 (.c (.int .i64 0)))]) .ret)))))
theorem e22 : compC prog f22.ntmps (f22.body.getD .skip) = c22 := by kernel_rfl
theorem c188_pf (q : Queue) (hL : q.pk.length < 2 ^ 62) : ACalls prog 188 [.agg [.int .i64 q.limit, .sl 6 (q.pk.map Packet.enc)]] [] (.int .i64 (qErr q)) [] := by
  refine calls_of hmx func188 (by kernel_rfl) (c := f188.body.getD .skip) rfl e188 (rs := [(.t 2)]) (by kernel_rfl) (by simp [ntmps188]) ?_
  simp only [c188, argS]
  simp only [go_sem, seval]
  refine CX_pure c298_ok rfl rfl rfl rfl ?_
  simp only [go_sem, seval, Vc_bool, List.length_map]
  refine ⟨fun h1 => ?_, fun h1 => ⟨fun h2 => ?_, fun h2 => ?_⟩⟩
  · (refine Rt_pure ?_ rfl; simp only [retO, retO1, retOs, S, get_cons, Nat.reduceEqDiff, reduceIte, obj, getO_cons_zero, getO_cons_succ, List.getElem?_cons_zero, List.getElem?_cons_succ, List.drop_zero, List.drop_succ_cons, loadFrom_cell, loadFrom_agg, List.length_cons, List.length_nil, Nat.reduceAdd, Nat.reduceLeDiff, List.take_succ_cons, List.take_zero, List.take_nil])
    grind [qErr, wi3]
  · (refine Rt_pure ?_ rfl; simp only [retO, retO1, retOs, S, get_cons, Nat.reduceEqDiff, reduceIte, obj, getO_cons_zero, getO_cons_succ, List.getElem?_cons_zero, List.getElem?_cons_succ, List.drop_zero, List.drop_succ_cons, loadFrom_cell, loadFrom_agg, List.length_cons, List.length_nil, Nat.reduceAdd, Nat.reduceLeDiff, List.take_succ_cons, List.take_zero, List.take_nil])
    grind [qErr, wi3]
  · refine Lp.bkE0 (l188 q hL _ (fun s => ?_) q.pk [] rfl) (by rfl) ?_
    · simp only [go_sem, seval]
      (refine Rt_pure ?_ rfl; simp only [retO, retO1, retOs, S, get_cons, Nat.reduceEqDiff, reduceIte, obj, getO_cons_zero, getO_cons_succ, List.getElem?_cons_zero, List.getElem?_cons_succ, List.drop_zero, List.drop_succ_cons, loadFrom_cell, loadFrom_agg, List.length_cons, List.length_nil, Nat.reduceAdd, Nat.reduceLeDiff, List.take_succ_cons, List.take_zero, List.take_nil])
    · grind [qErr, wi3]
theorem c188_ok {q_limit : Int} {q_pk : List Packet} (hL : q_pk.length < 2 ^ 62) : ACalls prog 188 [.agg [.int .i64 q_limit, .sl 6 (q_pk.map Packet.enc)]] [] (.int .i64 (qErr (⟨q_limit, q_pk⟩ : Queue))) [] := c188_pf (⟨q_limit, q_pk⟩ : Queue) hL

def StBd (s : Station) : Prop := s.tab.cells.length < 2 ^ 62 ∧ s.q.pk.length < 2 ^ 62 ∧ s.held.length < 2 ^ 62 ∧ (∀ h ∈ s.held, h.acked.length < 2 ^ 62) ∧ s.seen.length < 2 ^ 62
theorem c189_ok {p : Packet} {s : Station} : ACalls prog 189 ([] ++ [.agg p.enc] ++ [.ptr 0 0 0 0]) [.cells 0 14 31 true [s.enc]] (.bool (decide (p.to = s.tab.node) || decide (100 < (p.data.size : Int)))) [.cells 0 14 31 true [s.enc]] := by
  refine calls_of hmx func189 (by kernel_rfl) (c := f189.body.getD .skip) rfl e189 (rs := [(.t 3)]) (by kernel_rfl) (by simp [ntmps189]) ?_
  simp only [c189, argS, List.nil_append, List.singleton_append]
  simp only [go_sem, seval]
  refine Rt_T [_] ?_ rfl rfl (Nat.le_refl _)
  simp only [retO, retO1, retOs, S, get_cons, Nat.reduceEqDiff, reduceIte, obj, getO_cons_zero, getO_cons_succ, List.getElem?_cons_zero, List.getElem?_cons_succ, List.drop_zero, List.drop_succ_cons, loadFrom_cell, loadFrom_agg, List.length_cons, List.length_nil, Nat.reduceAdd, Nat.reduceLeDiff, List.take_succ_cons, List.take_zero, List.take_nil]
theorem pks_any (s : Station) : (s.q.pk.all fun p => !decide (p.to = s.tab.node) && decide ((p.data.size : Int) ≤ 100)) = !(s.q.pk.any fun p => decide (p.to = s.tab.node) || decide (100 < (p.data.size : Int))) := by
  induction s.q.pk with
  | nil => rfl
  | cons p l ih =>
    rw [List.all_cons, List.any_cons, ih]
    grind
theorem c85_pf (s : Station) (hL : s.q.pk.length < 2 ^ 62) : ACalls prog 85 [.agg [.int .i64 s.tab.node, .int .i64 s.tab.len, .sl 6 (s.tab.cells.map TCell.enc), .int .i64 s.q.limit, .sl 6 (s.q.pk.map Packet.enc), .sl 5 (s.held.map Held.enc), .sl 2 (s.seen.map Seen.enc), .int .i64 s.list, .int .i64 s.seq, .int .i64 s.trying, .int .i64 s.tries, .int .i64 s.back, .int .i64 s.wait, .int .i64 s.seed]] [] (.bool (pksOk s)) [] := by
  refine calls_of hmx func85 (by kernel_rfl) (c := f85.body.getD .skip) rfl e85 (rs := [(.t 2)]) (by kernel_rfl) (by simp [ntmps85]) ?_
  simp only [c85, argS]
  cases h1 : decide (qErr s.q = 0)
  · simp only [go_sem, seval]
    refine CX_pure (c188_ok hL) rfl rfl rfl rfl ?_
    simp only [go_sem, seval, h1]
    (refine Rt_pure ?_ rfl; simp only [retO, retO1, retOs, S, get_cons, Nat.reduceEqDiff, reduceIte, obj, getO_cons_zero, getO_cons_succ, List.getElem?_cons_zero, List.getElem?_cons_succ, List.drop_zero, List.drop_succ_cons, loadFrom_cell, loadFrom_agg, List.length_cons, List.length_nil, Nat.reduceAdd, Nat.reduceLeDiff, List.take_succ_cons, List.take_zero, List.take_nil])
    simp [pksOk, h1]
  · simp only [go_sem, seval]
    refine CX_pure (c188_ok hL) rfl rfl rfl rfl ?_
    simp only [go_sem, seval, h1]
    refine CX_rd [0] (c186_has (caps := [.ptr 0 0 0 0]) (first := []) (g := 189) hL (pk_all _).1 ((pk_all _).2 _) (by rfl) (by rfl) (fun x _ => c189_ok (s := s))) (by rfl) (by rfl) (by rfl) (by rfl) (by rfl) (by decide) (by rfl) (by rfl) (by rfl) ?_
    simp only [go_sem, seval]
    (refine Rt_pure ?_ rfl; simp only [retO, retO1, retOs, S, get_cons, Nat.reduceEqDiff, reduceIte, obj, getO_cons_zero, getO_cons_succ, List.getElem?_cons_zero, List.getElem?_cons_succ, List.drop_zero, List.drop_succ_cons, loadFrom_cell, loadFrom_agg, List.length_cons, List.length_nil, Nat.reduceAdd, Nat.reduceLeDiff, List.take_succ_cons, List.take_zero, List.take_nil])
    simp [pksOk, h1, pks_any]
theorem c85_ok {s_tab_node : Int} {s_tab_len : Int} {s_tab_cells : List TCell} {s_q_limit : Int} {s_q_pk : List Packet} {s_held : List Held} {s_seen : List Seen} {s_list : Int} {s_seq : Int} {s_trying : Int} {s_tries : Int} {s_back : Int} {s_wait : Int} {s_seed : Int} (hL : s_q_pk.length < 2 ^ 62) : ACalls prog 85 [.agg [.int .i64 s_tab_node, .int .i64 s_tab_len, .sl 6 (s_tab_cells.map TCell.enc), .int .i64 s_q_limit, .sl 6 (s_q_pk.map Packet.enc), .sl 5 (s_held.map Held.enc), .sl 2 (s_seen.map Seen.enc), .int .i64 s_list, .int .i64 s_seq, .int .i64 s_trying, .int .i64 s_tries, .int .i64 s_back, .int .i64 s_wait, .int .i64 s_seed]] [] (.bool (pksOk (⟨(⟨s_tab_node, s_tab_len, s_tab_cells⟩ : Table), (⟨s_q_limit, s_q_pk⟩ : Queue), s_held, s_seen, s_list, s_seq, s_trying, s_tries, s_back, s_wait, s_seed⟩ : Station))) [] := c85_pf (⟨(⟨s_tab_node, s_tab_len, s_tab_cells⟩ : Table), (⟨s_q_limit, s_q_pk⟩ : Queue), s_held, s_seen, s_list, s_seq, s_trying, s_tries, s_back, s_wait, s_seed⟩ : Station) hL

theorem shl5 (b : Int) (h : wi b 5 = true) : IntKind.i64.wrap (IntKind.i64.wrap (1 * 2 ^ min b.toNat 64) - 1) = 2 ^ b.toNat - 1 := by
  have : b = 0 ∨ b = 1 ∨ b = 2 ∨ b = 3 ∨ b = 4 ∨ b = 5 := by simp only [wi] at h; grind
  rcases this with rfl | rfl | rfl | rfl | rfl | rfl <;> decide
theorem c22_pf (s : Station) (hB : StBd s) : ACalls prog 22 [.agg [.int .i64 s.tab.node, .int .i64 s.tab.len, .sl 6 (s.tab.cells.map TCell.enc), .int .i64 s.q.limit, .sl 6 (s.q.pk.map Packet.enc), .sl 5 (s.held.map Held.enc), .sl 2 (s.seen.map Seen.enc), .int .i64 s.list, .int .i64 s.seq, .int .i64 s.trying, .int .i64 s.tries, .int .i64 s.back, .int .i64 s.wait, .int .i64 s.seed]] [] (.int .i64 (stErr s)) [] := by
  refine calls_of hmx func22 (by kernel_rfl) (c := f22.body.getD .skip) rfl e22 (rs := [(.t 2)]) (by kernel_rfl) (by simp [ntmps22]) ?_
  simp only [c22, argS]
  obtain ⟨hB1, hB2, hB3, hB4, hB5⟩ := hB
  simp only [go_sem, seval]
  repeat' first | (refine Rt_pure ?_ rfl; simp only [retO, retO1, retOs, S, get_cons, Nat.reduceEqDiff, reduceIte, obj, getO_cons_zero, getO_cons_succ, List.getElem?_cons_zero, List.getElem?_cons_succ, List.drop_zero, List.drop_succ_cons, loadFrom_cell, loadFrom_agg, List.length_cons, List.length_nil, Nat.reduceAdd, Nat.reduceLeDiff, List.take_succ_cons, List.take_zero, List.take_nil]) | refine CX_pure (c84_ok hB2) rfl rfl rfl rfl ?_ | refine CX_pure (c80_ok hB1) rfl rfl rfl rfl ?_ | refine CX_pure (c85_ok hB2) rfl rfl rfl rfl ?_ | refine CX_pure (c86_ok hB3 hB4) rfl rfl rfl rfl ?_ | refine CX_pure (c87_ok hB5) rfl rfl rfl rfl ?_ | refine CX_pure c81_ok rfl rfl rfl rfl ?_ | refine GX_call (fun _ => (c84_ok hB2)) (by rfl) (by intro h; simp only [h]; rfl) (by rfl) (by rfl) ?_ | refine GX_call (fun _ => (c80_ok hB1)) (by rfl) (by intro h; simp only [h]; rfl) (by rfl) (by rfl) ?_ | refine GX_call (fun _ => (c85_ok hB2)) (by rfl) (by intro h; simp only [h]; rfl) (by rfl) (by rfl) ?_ | refine GX_call (fun _ => (c86_ok hB3 hB4)) (by rfl) (by intro h; simp only [h]; rfl) (by rfl) (by rfl) ?_ | refine GX_call (fun _ => (c87_ok hB5)) (by rfl) (by intro h; simp only [h]; rfl) (by rfl) (by rfl) ?_ | refine GX_call (fun _ => c81_ok) (by rfl) (by intro h; simp only [h]; rfl) (by rfl) (by rfl) ?_ | (with_reducible intro h; try simp only [h]) | (with_reducible refine And.intro ?_ ?_) | (change chk _ _ = true; rfl) | simp only [go_sem, seval, Vc_bool] | refine (GX_split rfl).2 ?_
  all_goals clear hB1 hB2 hB3 hB4 hB5
  · simp only [stErr, stOk, tryOk]
    grind
  · simp only [wi] at *
    grind
  · rename_i h0
    cases hb : wi s.back 5
    · simp [stErr, stOk, hb]
    · have e := shl5 s.back hb
      rw [e, hb] at h
      simp only [stErr, stOk, tryOk, hb]
      grind
  · rename_i h0
    cases hb : wi s.back 5
    · rw [hb] at h
      simp at h
    · have e := shl5 s.back hb
      rw [e, hb] at h
      simp only [stErr, stOk, tryOk, hb]
      grind
end Go.Av.T
