/- The seat: part T7. -/
import Derived.Test.YtmhchaedhmnofaaGreatT6
import Derived.KernelRfl
set_option maxRecDepth 100000
set_option maxHeartbeats 1000000
set_option linter.unusedSimpArgs false
set_option linter.unusedVariables false
namespace Go.Av.T
open Go Go.Av Go.Av.Sp Go.Proofs.Tryz
def c381 : SC := (.seq (.reg [(.box 1 41 (.t 0)), (.mv 2 (.c (.bool false)))]) (.seq (.reg [(.fa 3 (.t 1) 2), (.ld 4 (.t 3) false 1), (.call (some 5) (.c (.func 310 [] [])) [(.t 4), (.c (.int .i64 31))]), (.mv 6 (.t 5)), (.g 6 true (some 7) (.fa 7 (.t 1) 2)), (.g 6 true (some 8) (.ld 8 (.t 7) false 1)), (.g 6 true (some 9) (.fa 9 (.t 1) 1)), (.g 6 true (some 10) (.ld 10 (.t 9) false 1)), (.g 6 true (some 11) (.bin 11 .neq (.t 8) (.t 10))), (.pick 12 (.t 6) (.t 11) (.c (.bool false))), (.mv 2 (.t 12))]) .ret))
theorem e381 : compC prog f381.ntmps (f381.body.getD .skip) = c381 := by kernel_rfl
def c382 : SC := (.seq (.reg [(.mv 2 (.c (.bool false)))]) (.seq (.reg [(.mv 3 (.t 0)), (.bin 4 .geq (.t 3) (.c (.int .i64 (-32768)))), (.mv 5 (.t 4)), (.g 5 true (some 6) (.mv 6 (.t 0))), (.g 5 true (some 7) (.bin 7 .leq (.t 6) (.c (.int .i64 32767)))), (.pick 8 (.t 5) (.t 7) (.c (.bool false))), (.mv 2 (.t 8))]) .ret))
theorem e382 : compC prog f382.ntmps (f382.body.getD .skip) = c382 := by kernel_rfl
def c330 : SC := (.seq (.reg [(.box 1 41 (.t 0)), (.alc 2 41 [(.int .i64 0), (.int .i64 0), (.int .i64 0), (.int .i64 0), (.int .i64 0), (.int .i64 0), (.int .i64 0), (.int .i64 0), (.int .i64 0), (.int .i64 0), (.int .i64 0), (.str (ByteArray.mk #[]))]), (.mv 3 (.c (.bool false)))]) (.seq (.reg [(.ld 6 (.t 1) true 12), (.alc 4 41 [(.int .i64 0), (.int .i64 0), (.int .i64 0), (.int .i64 0), (.int .i64 0), (.int .i64 0), (.int .i64 0), (.int .i64 0), (.int .i64 0), (.int .i64 0), (.int .i64 0), (.str (ByteArray.mk #[]))]), (.st (.t 4) (.t 6) 12), (.mv 5 (.c (.bool false)))]) (.seq (.seq (.reg [(.fa 7 (.t 1) 0), (.ld 8 (.t 7) false 1)]) (.block 0 (.seq (.reg [(.bin 10 .eql (.t 8) (.c (.int .i64 1))), (.mv 9 (.t 10))]) (.cond (.t 9) (.seq (.reg [(.ld 11 (.t 1) true 12), (.call (some 12) (.c (.func 381 [] [])) [(.t 11)]), (.mv 13 (.t 12)), (.g 13 true (some 14) (.fa 14 (.t 1) 5)), (.g 13 true (some 15) (.ld 15 (.t 14) false 1)), (.g 13 true (some 16) (.call (some 16) (.c (.func 310 [] [])) [(.t 15), (.c (.int .i64 255))])), (.pick 17 (.t 13) (.t 16) (.c (.bool false))), (.mv 18 (.t 17)), (.g 18 true (some 19) (.fa 19 (.t 1) 6)), (.g 18 true (some 20) (.ld 20 (.t 19) false 1)), (.g 18 true (some 21) (.call (some 21) (.c (.func 310 [] [])) [(.t 20), (.c (.int .i64 65535))])), (.pick 22 (.t 18) (.t 21) (.c (.bool false))), (.mv 5 (.t 22))]) (.reg [(.fa 23 (.t 4) 5), (.st (.t 23) (.c (.int .i64 0)) 1), (.fa 24 (.t 4) 6), (.st (.t 24) (.c (.int .i64 0)) 1), (.fa 25 (.t 4) 11), (.st (.t 25) (.c (.str (ByteArray.mk #[]))) 1)])) (.seq (.reg [(.bin 27 .eql (.t 8) (.c (.int .i64 2))), (.mv 26 (.t 27))]) (.cond (.t 26) (.seq (.reg [(.ld 28 (.t 1) true 12), (.call (some 29) (.c (.func 381 [] [])) [(.t 28)]), (.mv 30 (.t 29)), (.g 30 true (some 31) (.fa 31 (.t 1) 7)), (.g 30 true (some 32) (.ld 32 (.t 31) false 1)), (.g 30 true (some 33) (.call (some 33) (.c (.func 382 [] [])) [(.t 32)])), (.pick 34 (.t 30) (.t 33) (.c (.bool false))), (.mv 5 (.t 34))]) (.reg [(.fa 35 (.t 4) 7), (.st (.t 35) (.c (.int .i64 0)) 1)])) (.seq (.reg [(.bin 37 .eql (.t 8) (.c (.int .i64 3))), (.mv 36 (.t 37))]) (.cond (.t 36) (.seq (.reg [(.fa 38 (.t 1) 2), (.ld 39 (.t 38) false 1), (.bin 40 .eql (.t 39) (.c (.int .i64 (-1)))), (.mv 41 (.t 40)), (.g 41 true (some 42) (.fa 42 (.t 1) 8)), (.g 41 true (some 43) (.ld 43 (.t 42) false 1)), (.g 41 true (some 44) (.call (some 44) (.c (.func 310 [] [])) [(.t 43), (.c (.int .i64 109951162))])), (.pick 45 (.t 41) (.t 44) (.c (.bool false))), (.mv 46 (.t 45)), (.g 46 true (some 47) (.fa 47 (.t 1) 9)), (.g 46 true (some 48) (.ld 48 (.t 47) false 1)), (.g 46 true (some 49) (.call (some 49) (.c (.func 310 [] [])) [(.t 48), (.c (.int .i64 65535))])), (.pick 50 (.t 46) (.t 49) (.c (.bool false))), (.mv 51 (.t 50)), (.g 51 true (some 52) (.fa 52 (.t 1) 10)), (.g 51 true (some 53) (.ld 53 (.t 52) false 1)), (.g 51 true (some 54) (.call (some 54) (.c (.func 310 [] [])) [(.t 53), (.c (.int .i64 65535))])), (.pick 55 (.t 51) (.t 54) (.c (.bool false))), (.mv 5 (.t 55))]) (.reg [(.fa 56 (.t 4) 8), (.st (.t 56) (.c (.int .i64 0)) 1), (.fa 57 (.t 4) 9), (.st (.t 57) (.c (.int .i64 0)) 1), (.fa 58 (.t 4) 10), (.st (.t 58) (.c (.int .i64 0)) 1), (.fa 59 (.t 4) 11), (.st (.t 59) (.c (.str (ByteArray.mk #[]))) 1)])) (.seq (.reg [(.bin 61 .eql (.t 8) (.c (.int .i64 4))), (.mv 60 (.t 61))]) (.cond (.t 60) (.seq (.reg [(.fa 62 (.t 1) 2), (.ld 63 (.t 62) false 1), (.bin 64 .eql (.t 63) (.c (.int .i64 (-1)))), (.mv 65 (.t 64)), (.g 65 false (some 66) (.ld 66 (.t 1) true 12)), (.g 65 false (some 67) (.call (some 67) (.c (.func 381 [] [])) [(.t 66)])), (.pick 68 (.t 65) (.c (.bool true)) (.t 67)), (.mv 5 (.t 68))]) (.reg [(.fa 69 (.t 4) 11), (.st (.t 69) (.c (.str (ByteArray.mk #[]))) 1)])) .skip)))))))))) (.seq (.reg [(.ld 70 (.t 4) true 12), (.mv 71 (.t 5)), (.st (.t 2) (.t 70) 12), (.mv 3 (.t 71))]) .ret))))
theorem e330 : compC prog f330.ntmps (f330.body.getD .skip) = c330 := by kernel_rfl
def c227 : SC := (.seq (.reg [(.box 1 41 (.t 0)), (.mv 2 (.c (.int .i64 0)))]) (.seq (.reg [(.ld 7 (.t 1) true 12), (.call (some 8) (.c (.func 330 [] [])) [(.t 7)]), (.mv 6 (.t 8)), (.ext 9 (.t 6) 0), (.ext 10 (.t 6) 1), (.alc 3 41 [(.int .i64 0), (.int .i64 0), (.int .i64 0), (.int .i64 0), (.int .i64 0), (.int .i64 0), (.int .i64 0), (.int .i64 0), (.int .i64 0), (.int .i64 0), (.int .i64 0), (.str (ByteArray.mk #[]))]), (.st (.t 3) (.t 9) 12), (.mv 4 (.t 10))]) (.seq (.reg [(.fa 11 (.t 1) 0), (.ld 12 (.t 11) false 1), (.fa 13 (.t 1) 1), (.ld 14 (.t 13) false 1), (.fa 15 (.t 1) 2), (.ld 16 (.t 15) false 1), (.fa 17 (.t 1) 3), (.ld 18 (.t 17) false 1), (.fa 19 (.t 1) 4), (.ld 20 (.t 19) false 1), (.bld 21 [(.int .i64 0), (.int .i64 0), (.int .i64 0), (.int .i64 0), (.int .i64 0), (.int .i64 0), (.int .i64 0), (.int .i64 0), (.int .i64 0), (.int .i64 0), (.int .i64 0), (.str (ByteArray.mk #[]))] [(0, 1, (.t 12)), (1, 1, (.t 14)), (2, 1, (.t 16)), (3, 1, (.t 18)), (4, 1, (.t 20))]), (.alc 5 41 [(.int .i64 0), (.int .i64 0), (.int .i64 0), (.int .i64 0), (.int .i64 0), (.int .i64 0), (.int .i64 0), (.int .i64 0), (.int .i64 0), (.int .i64 0), (.int .i64 0), (.str (ByteArray.mk #[]))]), (.st (.t 5) (.t 21) 12)]) (.seq (.seq (.reg [(.mv 22 (.t 4)), (.not 23 (.t 22)), (.mv 24 (.t 23)), (.g 24 false (some 25) (.ld 25 (.t 3) true 12)), (.g 24 false (some 26) (.ld 26 (.t 5) true 12)), (.g 24 false (some 27) (.binA 27 true [1, 1, 1, 1, 1, 1, 1, 1, 1, 1, 1, 3] (.t 25) (.t 26))), (.pick 28 (.t 24) (.c (.bool true)) (.t 27)), (.mv 29 (.t 28)), (.g 29 false (some 30) (.fa 30 (.t 1) 1)), (.g 29 false (some 31) (.ld 31 (.t 30) false 1)), (.g 29 false (some 32) (.call (some 32) (.c (.func 310 [] [])) [(.t 31), (.c (.int .i64 31))])), (.g 29 false (some 33) (.not 33 (.t 32))), (.pick 34 (.t 29) (.c (.bool true)) (.t 33)), (.mv 35 (.t 34)), (.g 35 false (some 36) (.fa 36 (.t 1) 3)), (.g 35 false (some 37) (.ld 37 (.t 36) false 1)), (.g 35 false (some 38) (.call (some 38) (.c (.func 310 [] [])) [(.t 37), (.c (.int .i64 255))])), (.g 35 false (some 39) (.not 39 (.t 38))), (.pick 40 (.t 35) (.c (.bool true)) (.t 39)), (.mv 41 (.t 40)), (.g 41 false (some 42) (.fa 42 (.t 1) 4)), (.g 41 false (some 43) (.ld 43 (.t 42) false 1)), (.g 41 false (some 44) (.call (some 44) (.c (.func 310 [] [])) [(.t 43), (.c (.int .i64 255))])), (.g 41 false (some 45) (.not 45 (.t 44))), (.pick 46 (.t 41) (.c (.bool true)) (.t 45))]) (.cond (.t 46) (.seq (.reg [(.mv 2 (.c (.int .i64 1)))]) .ret) .skip)) (.seq (.reg [(.mv 2 (.c (.int .i64 0)))]) .ret)))))
theorem e227 : compC prog f227.ntmps (f227.body.getD .skip) = c227 := by kernel_rfl
def c210 : SC := (.seq (.reg [(.box 2 41 (.t 0)), (.mv 4 (.c (.bool false)))]) (.seq (.reg [(.ld 5 (.t 2) true 12), (.call (some 6) (.c (.func 227 [] [])) [(.t 5)]), (.bin 7 .eql (.t 6) (.c (.int .i64 0))), (.mv 8 (.t 7)), (.g 8 true (some 9) (.mv 9 (.t 1))), (.g 8 true (some 10) (.call (some 10) (.c (.func 310 [] [])) [(.t 9), (.c (.int .i64 31))])), (.pick 11 (.t 8) (.t 10) (.c (.bool false))), (.mv 12 (.t 11)), (.g 12 true (some 13) (.fa 13 (.t 2) 2)), (.g 12 true (some 14) (.ld 14 (.t 13) false 1)), (.g 12 true (some 15) (.mv 15 (.t 1))), (.g 12 true (some 16) (.bin 16 .eql (.t 14) (.t 15))), (.g 12 true (some 17) (.mv 17 (.t 16))), (.g 17 false (some 18) (.fa 18 (.t 2) 2)), (.g 17 false (some 19) (.ld 19 (.t 18) false 1)), (.g 17 false (some 20) (.bin 20 .eql (.t 19) (.c (.int .i64 (-1))))), (.g 17 false (some 21) (.mv 21 (.t 20))), (.g 21 true (some 22) (.fa 22 (.t 2) 1)), (.g 21 true (some 23) (.ld 23 (.t 22) false 1)), (.g 21 true (some 24) (.mv 24 (.t 1))), (.g 21 true (some 25) (.bin 25 .neq (.t 23) (.t 24))), (.g 17 false (some 26) (.pick 26 (.t 21) (.t 25) (.c (.bool false)))), (.g 12 true (some 27) (.pick 27 (.t 17) (.c (.bool true)) (.t 26))), (.pick 28 (.t 12) (.t 27) (.c (.bool false))), (.mv 4 (.t 28))]) .ret))
theorem e210 : compC prog f210.ntmps (f210.body.getD .skip) = c210 := by kernel_rfl
theorem c382_pf (a : Int)  : ACalls prog 382 [.int .i64 a] [] (.bool (wi3 a (-32768) 32767)) [] := by
  refine calls_of hmx func382 (by kernel_rfl) (c := f382.body.getD .skip) rfl e382 (rs := [(.t 2)]) (by kernel_rfl) (by simp [ntmps382]) ?_
  simp only [c382, argS]
  simp only [go_sem, seval]
  repeat' first | (refine Rt_pure ?_ rfl; simp only [retO, retO1, retOs, S, get_cons, Nat.reduceEqDiff, reduceIte, obj, getO_cons_zero, getO_cons_succ, List.getElem?_cons_zero, List.getElem?_cons_succ, List.drop_zero, List.drop_succ_cons, loadFrom_cell, loadFrom_agg, List.length_cons, List.length_nil, Nat.reduceAdd, Nat.reduceLeDiff, List.take_succ_cons, List.take_zero, List.take_nil]) | (with_reducible intro h; try simp only [h]) | (with_reducible refine And.intro ?_ ?_) | (change chk _ _ = true; rfl) | simp only [go_sem, seval, Vc_bool] | refine (GX_split rfl).2 ?_
  all_goals simp [wi3]
theorem c382_ok {a : Int}  : ACalls prog 382 [.int .i64 a] [] (.bool (wi3 a (-32768) 32767)) [] := c382_pf a 

theorem c381_pf (f : Sp.Frame)  : ACalls prog 381 [.agg [.int .i64 f.kind, .int .i64 f.src, .int .i64 f.tgt, .int .i64 f.list, .int .i64 f.seq, .int .i64 f.flow, .int .i64 f.num, .int .i64 f.err, .int .i64 f.slot, .int .i64 f.rank, .int .i64 f.epoch, .str f.data]] [] (.bool (isTgt f)) [] := by
  refine calls_of hmx func381 (by kernel_rfl) (c := f381.body.getD .skip) rfl e381 (rs := [(.t 2)]) (by kernel_rfl) (by simp [ntmps381]) ?_
  simp only [c381, argS]
  simp only [go_sem, seval]
  repeat' first | (refine Rt_pure ?_ rfl; simp only [retO, retO1, retOs, S, get_cons, Nat.reduceEqDiff, reduceIte, obj, getO_cons_zero, getO_cons_succ, List.getElem?_cons_zero, List.getElem?_cons_succ, List.drop_zero, List.drop_succ_cons, loadFrom_cell, loadFrom_agg, List.length_cons, List.length_nil, Nat.reduceAdd, Nat.reduceLeDiff, List.take_succ_cons, List.take_zero, List.take_nil]) | refine CX_pure c310_ok rfl rfl rfl rfl ?_ | refine GX_call (fun _ => c310_ok) (by rfl) (by intro h; simp only [h]; rfl) (by rfl) (by rfl) ?_ | (with_reducible intro h; try simp only [h]) | (with_reducible refine And.intro ?_ ?_) | (change chk _ _ = true; rfl) | simp only [go_sem, seval, Vc_bool] | refine (GX_split rfl).2 ?_
  all_goals simp [isTgt]
theorem c381_ok {f_kind : Int} {f_src : Int} {f_tgt : Int} {f_list : Int} {f_seq : Int} {f_flow : Int} {f_num : Int} {f_err : Int} {f_slot : Int} {f_rank : Int} {f_epoch : Int} {f_data : ByteArray}  : ACalls prog 381 [.agg [.int .i64 f_kind, .int .i64 f_src, .int .i64 f_tgt, .int .i64 f_list, .int .i64 f_seq, .int .i64 f_flow, .int .i64 f_num, .int .i64 f_err, .int .i64 f_slot, .int .i64 f_rank, .int .i64 f_epoch, .str f_data]] [] (.bool (isTgt (⟨f_kind, f_src, f_tgt, f_list, f_seq, f_flow, f_num, f_err, f_slot, f_rank, f_epoch, f_data⟩ : Sp.Frame))) [] := c381_pf (⟨f_kind, f_src, f_tgt, f_list, f_seq, f_flow, f_num, f_err, f_slot, f_rank, f_epoch, f_data⟩ : Sp.Frame) 

def frFields (f : Sp.Frame) : Sp.Frame × Bool :=
  if f.kind = 1 then ({ f with flow := 0, num := 0, data := ByteArray.mk #[] }, isTgt f && wi f.flow 255 && wi f.num 65535)
  else if f.kind = 2 then ({ f with err := 0 }, isTgt f && wi3 f.err (-32768) 32767)
  else if f.kind = 3 then ({ f with slot := 0, rank := 0, epoch := 0, data := ByteArray.mk #[] }, decide (f.tgt = -1) && wi f.slot 109951162 && wi f.rank 65535 && wi f.epoch 65535)
  else if f.kind = 4 then ({ f with data := ByteArray.mk #[] }, decide (f.tgt = -1) || isTgt f)
  else (f, false)
theorem c330_pf (f : Sp.Frame)  : ACalls prog 330 [.agg [.int .i64 f.kind, .int .i64 f.src, .int .i64 f.tgt, .int .i64 f.list, .int .i64 f.seq, .int .i64 f.flow, .int .i64 f.num, .int .i64 f.err, .int .i64 f.slot, .int .i64 f.rank, .int .i64 f.epoch, .str f.data]] [] (.tup [.agg (frFields f).1.enc, .bool (frFields f).2]) [] := by
  refine calls_of hmx func330 (by kernel_rfl) (c := f330.body.getD .skip) rfl e330 (rs := [(.cell 2 true 12), (.t 3)]) (by kernel_rfl) (by simp [ntmps330]) ?_
  simp only [c330, argS]
  simp only [go_sem, seval]
  repeat' first | refine CX_pure c310_ok rfl rfl rfl rfl ?_ | refine CX_pure c381_ok rfl rfl rfl rfl ?_ | refine CX_pure c382_ok rfl rfl rfl rfl ?_ | refine GX_call (fun _ => c310_ok) (by rfl) (by intro h; simp only [h]; rfl) (by rfl) (by rfl) ?_ | refine GX_call (fun _ => c381_ok) (by rfl) (by intro h; simp only [h]; rfl) (by rfl) (by rfl) ?_ | refine GX_call (fun _ => c382_ok) (by rfl) (by intro h; simp only [h]; rfl) (by rfl) (by rfl) ?_ | (with_reducible intro h; try simp only [h]) | (with_reducible refine And.intro ?_ ?_) | (change chk _ _ = true; rfl) | simp only [go_sem, seval, Vc_bool] | refine (GX_split rfl).2 ?_
  · have e : frFields f = ({ f with flow := 0, num := 0, data := ByteArray.mk #[] }, isTgt f && wi f.flow 255 && wi f.num 65535) := by
      simp only [decide_eq_true_eq, decide_eq_false_iff_not] at *
      rw [frFields]
      simp only [*, if_true, if_false, not_false_eq_true, reduceIte, Int.reduceEq]
    rw [e]
    (refine Rt_pure ?_ rfl; simp only [retO, retO1, retOs, S, get_cons, Nat.reduceEqDiff, reduceIte, obj, getO_cons_zero, getO_cons_succ, List.getElem?_cons_zero, List.getElem?_cons_succ, List.drop_zero, List.drop_succ_cons, loadFrom_cell, loadFrom_agg, List.length_cons, List.length_nil, Nat.reduceAdd, Nat.reduceLeDiff, List.take_succ_cons, List.take_zero, List.take_nil])
  · have e : frFields f = ({ f with err := 0 }, isTgt f && wi3 f.err (-32768) 32767) := by
      simp only [decide_eq_true_eq, decide_eq_false_iff_not] at *
      rw [frFields]
      simp only [*, if_true, if_false, not_false_eq_true, reduceIte, Int.reduceEq]
    rw [e]
    (refine Rt_pure ?_ rfl; simp only [retO, retO1, retOs, S, get_cons, Nat.reduceEqDiff, reduceIte, obj, getO_cons_zero, getO_cons_succ, List.getElem?_cons_zero, List.getElem?_cons_succ, List.drop_zero, List.drop_succ_cons, loadFrom_cell, loadFrom_agg, List.length_cons, List.length_nil, Nat.reduceAdd, Nat.reduceLeDiff, List.take_succ_cons, List.take_zero, List.take_nil])
  · have e : frFields f = ({ f with slot := 0, rank := 0, epoch := 0, data := ByteArray.mk #[] }, decide (f.tgt = -1) && wi f.slot 109951162 && wi f.rank 65535 && wi f.epoch 65535) := by
      simp only [decide_eq_true_eq, decide_eq_false_iff_not] at *
      rw [frFields]
      simp only [*, if_true, if_false, not_false_eq_true, reduceIte, Int.reduceEq]
    rw [e]
    (refine Rt_pure ?_ rfl; simp only [retO, retO1, retOs, S, get_cons, Nat.reduceEqDiff, reduceIte, obj, getO_cons_zero, getO_cons_succ, List.getElem?_cons_zero, List.getElem?_cons_succ, List.drop_zero, List.drop_succ_cons, loadFrom_cell, loadFrom_agg, List.length_cons, List.length_nil, Nat.reduceAdd, Nat.reduceLeDiff, List.take_succ_cons, List.take_zero, List.take_nil])
  · have e : frFields f = ({ f with data := ByteArray.mk #[] }, decide (f.tgt = -1) || isTgt f) := by
      simp only [decide_eq_true_eq, decide_eq_false_iff_not] at *
      rw [frFields]
      simp only [*, if_true, if_false, not_false_eq_true, reduceIte, Int.reduceEq]
    rw [e]
    (refine Rt_pure ?_ rfl; simp only [retO, retO1, retOs, S, get_cons, Nat.reduceEqDiff, reduceIte, obj, getO_cons_zero, getO_cons_succ, List.getElem?_cons_zero, List.getElem?_cons_succ, List.drop_zero, List.drop_succ_cons, loadFrom_cell, loadFrom_agg, List.length_cons, List.length_nil, Nat.reduceAdd, Nat.reduceLeDiff, List.take_succ_cons, List.take_zero, List.take_nil])
  · have e : frFields f = (f, false) := by
      simp only [decide_eq_true_eq, decide_eq_false_iff_not] at *
      rw [frFields]
      simp only [*, if_true, if_false, not_false_eq_true, reduceIte, Int.reduceEq]
    rw [e]
    (refine Rt_pure ?_ rfl; simp only [retO, retO1, retOs, S, get_cons, Nat.reduceEqDiff, reduceIte, obj, getO_cons_zero, getO_cons_succ, List.getElem?_cons_zero, List.getElem?_cons_succ, List.drop_zero, List.drop_succ_cons, loadFrom_cell, loadFrom_agg, List.length_cons, List.length_nil, Nat.reduceAdd, Nat.reduceLeDiff, List.take_succ_cons, List.take_zero, List.take_nil])
theorem c330_ok {f_kind : Int} {f_src : Int} {f_tgt : Int} {f_list : Int} {f_seq : Int} {f_flow : Int} {f_num : Int} {f_err : Int} {f_slot : Int} {f_rank : Int} {f_epoch : Int} {f_data : ByteArray}  : ACalls prog 330 [.agg [.int .i64 f_kind, .int .i64 f_src, .int .i64 f_tgt, .int .i64 f_list, .int .i64 f_seq, .int .i64 f_flow, .int .i64 f_num, .int .i64 f_err, .int .i64 f_slot, .int .i64 f_rank, .int .i64 f_epoch, .str f_data]] [] (.tup [.agg (frFields (⟨f_kind, f_src, f_tgt, f_list, f_seq, f_flow, f_num, f_err, f_slot, f_rank, f_epoch, f_data⟩ : Sp.Frame)).1.enc, .bool (frFields (⟨f_kind, f_src, f_tgt, f_list, f_seq, f_flow, f_num, f_err, f_slot, f_rank, f_epoch, f_data⟩ : Sp.Frame)).2]) [] := c330_pf (⟨f_kind, f_src, f_tgt, f_list, f_seq, f_flow, f_num, f_err, f_slot, f_rank, f_epoch, f_data⟩ : Sp.Frame) 

theorem bytes_mk : ByteArray.mk #[] = ByteArray.empty := rfl
theorem frErr_fields (f : Sp.Frame) : frErr f = if ((frFields f).2 && decide ((frFields f).1 = (⟨f.kind, f.src, f.tgt, f.list, f.seq, 0, 0, 0, 0, 0, 0, ByteArray.mk #[]⟩ : Sp.Frame)) && wi f.src 31 && wi f.list 255 && wi f.seq 255) = true then 0 else 1 := by
  rcases f with ⟨kind, src, tgt, list, seq, flow, num, err, slot, rank, epoch, data⟩
  simp only [frErr, frFields, bytes_mk]
  by_cases h1 : kind = 1
  · simp only [h1, if_true, Sp.Frame.mk.injEq]; congr 1; simp; grind
  · by_cases h2 : kind = 2
    · simp only [h2, if_true, Sp.Frame.mk.injEq, Int.reduceEq, if_false]; congr 1; simp; grind
    · by_cases h3 : kind = 3
      · simp only [h3, if_true, Sp.Frame.mk.injEq, Int.reduceEq, if_false]; congr 1; simp; grind
      · by_cases h4 : kind = 4
        · simp only [h4, if_true, Sp.Frame.mk.injEq, Int.reduceEq, if_false]; congr 1; simp; grind
        · simp [h1, h2, h3, h4]
theorem c227_pf (f : Sp.Frame)  : ACalls prog 227 [.agg [.int .i64 f.kind, .int .i64 f.src, .int .i64 f.tgt, .int .i64 f.list, .int .i64 f.seq, .int .i64 f.flow, .int .i64 f.num, .int .i64 f.err, .int .i64 f.slot, .int .i64 f.rank, .int .i64 f.epoch, .str f.data]] [] (.int .i64 (frErr f)) [] := by
  refine calls_of hmx func227 (by kernel_rfl) (c := f227.body.getD .skip) rfl e227 (rs := [(.t 2)]) (by kernel_rfl) (by simp [ntmps227]) ?_
  simp only [c227, argS]
  simp only [go_sem, seval]
  repeat' first | refine CX_pure c330_ok rfl rfl rfl rfl ?_ | refine CX_pure c310_ok rfl rfl rfl rfl ?_ | refine GX_call (fun _ => c330_ok) (by rfl) (by intro h; simp only [h]; rfl) (by rfl) (by rfl) ?_ | refine GX_call (fun _ => c310_ok) (by rfl) (by intro h; simp only [h]; rfl) (by rfl) (by rfl) ?_ | (with_reducible intro h; try simp only [h]) | (with_reducible refine And.intro ?_ ?_) | (change chk _ _ = true; rfl) | simp only [go_sem, seval, Vc_bool] | refine (GX_split rfl).2 ?_
  · have e : frErr f = 1 := by
      rw [frErr_fields, if_neg]
      intro hc
      revert h hc
      generalize frFields f = g
      rcases g with ⟨⟨a1, a2, a3, a4, a5, a6, a7, a8, a9, a10, a11, a12⟩, b⟩
      simp only [Sp.Frame.mk.injEq, Bool.and_eq_true, decide_eq_true_eq, Bool.or_eq_true, Bool.not_eq_true', Bool.and_eq_false_iff, decide_eq_false_iff_not]
      grind
    rw [e]
    (refine Rt_pure ?_ rfl; simp only [retO, retO1, retOs, S, get_cons, Nat.reduceEqDiff, reduceIte, obj, getO_cons_zero, getO_cons_succ, List.getElem?_cons_zero, List.getElem?_cons_succ, List.drop_zero, List.drop_succ_cons, loadFrom_cell, loadFrom_agg, List.length_cons, List.length_nil, Nat.reduceAdd, Nat.reduceLeDiff, List.take_succ_cons, List.take_zero, List.take_nil])
  · have e : frErr f = 0 := by
      rw [frErr_fields, if_pos]
      revert h
      generalize frFields f = g
      rcases g with ⟨⟨a1, a2, a3, a4, a5, a6, a7, a8, a9, a10, a11, a12⟩, b⟩
      simp only [Sp.Frame.mk.injEq, Bool.and_eq_true, decide_eq_true_eq, Bool.or_eq_false_iff, Bool.not_eq_false']
      grind
    rw [e]
    (refine Rt_pure ?_ rfl; simp only [retO, retO1, retOs, S, get_cons, Nat.reduceEqDiff, reduceIte, obj, getO_cons_zero, getO_cons_succ, List.getElem?_cons_zero, List.getElem?_cons_succ, List.drop_zero, List.drop_succ_cons, loadFrom_cell, loadFrom_agg, List.length_cons, List.length_nil, Nat.reduceAdd, Nat.reduceLeDiff, List.take_succ_cons, List.take_zero, List.take_nil])
theorem c227_ok {f_kind : Int} {f_src : Int} {f_tgt : Int} {f_list : Int} {f_seq : Int} {f_flow : Int} {f_num : Int} {f_err : Int} {f_slot : Int} {f_rank : Int} {f_epoch : Int} {f_data : ByteArray}  : ACalls prog 227 [.agg [.int .i64 f_kind, .int .i64 f_src, .int .i64 f_tgt, .int .i64 f_list, .int .i64 f_seq, .int .i64 f_flow, .int .i64 f_num, .int .i64 f_err, .int .i64 f_slot, .int .i64 f_rank, .int .i64 f_epoch, .str f_data]] [] (.int .i64 (frErr (⟨f_kind, f_src, f_tgt, f_list, f_seq, f_flow, f_num, f_err, f_slot, f_rank, f_epoch, f_data⟩ : Sp.Frame))) [] := c227_pf (⟨f_kind, f_src, f_tgt, f_list, f_seq, f_flow, f_num, f_err, f_slot, f_rank, f_epoch, f_data⟩ : Sp.Frame) 

theorem c210_pf (f : Sp.Frame) (node : Int)  : ACalls prog 210 [.agg [.int .i64 f.kind, .int .i64 f.src, .int .i64 f.tgt, .int .i64 f.list, .int .i64 f.seq, .int .i64 f.flow, .int .i64 f.num, .int .i64 f.err, .int .i64 f.slot, .int .i64 f.rank, .int .i64 f.epoch, .str f.data], .int .i64 node] [] (.bool (frFor f node)) [] := by
  refine calls_of hmx func210 (by kernel_rfl) (c := f210.body.getD .skip) rfl e210 (rs := [(.t 4)]) (by kernel_rfl) (by simp [ntmps210]) ?_
  simp only [c210, argS]
  simp only [go_sem, seval]
  repeat' first | (refine Rt_pure ?_ rfl; simp only [retO, retO1, retOs, S, get_cons, Nat.reduceEqDiff, reduceIte, obj, getO_cons_zero, getO_cons_succ, List.getElem?_cons_zero, List.getElem?_cons_succ, List.drop_zero, List.drop_succ_cons, loadFrom_cell, loadFrom_agg, List.length_cons, List.length_nil, Nat.reduceAdd, Nat.reduceLeDiff, List.take_succ_cons, List.take_zero, List.take_nil]) | refine CX_pure c227_ok rfl rfl rfl rfl ?_ | refine CX_pure c310_ok rfl rfl rfl rfl ?_ | refine GX_call (fun _ => c227_ok) (by rfl) (by intro h; simp only [h]; rfl) (by rfl) (by rfl) ?_ | refine GX_call (fun _ => c310_ok) (by rfl) (by intro h; simp only [h]; rfl) (by rfl) (by rfl) ?_ | (with_reducible intro h; try simp only [h]) | (with_reducible refine And.intro ?_ ?_) | (change chk _ _ = true; rfl) | simp only [go_sem, seval, Vc_bool] | refine (GX_split rfl).2 ?_
  all_goals simp [frFor, Bool.and_assoc]
theorem c210_ok {f_kind : Int} {f_src : Int} {f_tgt : Int} {f_list : Int} {f_seq : Int} {f_flow : Int} {f_num : Int} {f_err : Int} {f_slot : Int} {f_rank : Int} {f_epoch : Int} {f_data : ByteArray} {node : Int}  : ACalls prog 210 [.agg [.int .i64 f_kind, .int .i64 f_src, .int .i64 f_tgt, .int .i64 f_list, .int .i64 f_seq, .int .i64 f_flow, .int .i64 f_num, .int .i64 f_err, .int .i64 f_slot, .int .i64 f_rank, .int .i64 f_epoch, .str f_data], .int .i64 node] [] (.bool (frFor (⟨f_kind, f_src, f_tgt, f_list, f_seq, f_flow, f_num, f_err, f_slot, f_rank, f_epoch, f_data⟩ : Sp.Frame) node)) [] := c210_pf (⟨f_kind, f_src, f_tgt, f_list, f_seq, f_flow, f_num, f_err, f_slot, f_rank, f_epoch, f_data⟩ : Sp.Frame) node 


end Go.Av.T
set_option maxRecDepth 100000
set_option maxHeartbeats 1000000
set_option linter.unusedSimpArgs false
set_option linter.unusedVariables false
namespace Go.Av.T
open Go Go.Av Go.Av.Sp Go.Proofs.Tryz
def c311L1 : SC := (.seq (.reg [(.bin 9 .lss (.t 8) (.t 7))]) (.seq (.cond (.t 9) .skip (.exit 0)) (.seq (.block 1 (.seq (.reg [(.mv 10 (.t 8)), (.mv 5 (.t 10))]) (.seq (.regD [(.ld 11 (.t 3) true 2), (.mv 12 (.t 0)), (.mv 13 (.t 5)), (.ia 14 (.t 12) (.t 13) 2), (.ld 15 (.t 14) true 2), (.binA 16 false [1, 1] (.t 11) (.t 15))] []) (.cond (.t 16) (.seq (.reg [(.mv 17 (.t 5)), (.mv 4 (.t 17))]) .ret) .skip)))) (.reg [(.bin 18 .add (.t 8) (.c (.int .i64 1))), (.mv 8 (.t 18))]))))
def c311 : SC := (.seq (.reg [(.box 3 160 (.t 1)), (.mv 4 (.c (.int .i64 0)))]) (.seq (.seq (.reg [(.mv 6 (.t 0)), (.len 7 false (.t 6)), (.mv 8 (.c (.int .i64 0)))]) (.block 0 (.loop c311L1))) (.seq (.reg [(.mv 4 (.c (.int .i64 (-1))))]) .ret)))
theorem e311 : compC prog f311.ntmps (f311.body.getD .skip) = c311 := by kernel_rfl
def c211 : SC := (.seq (.reg [(.box 3 160 (.t 1)), (.mv 4 (.c (.bool false)))]) (.seq (.reg [(.mv 5 (.t 0)), (.ld 6 (.t 3) true 2), (.call (some 7) (.c (.func 311 [] [])) [(.t 5), (.t 6)]), (.bin 8 .geq (.t 7) (.c (.int .i64 0))), (.mv 4 (.t 8))]) .ret))
theorem e211 : compC prog f211.ntmps (f211.body.getD .skip) = c211 := by kernel_rfl
def c213 : SC := (.seq (.reg [(.box 2 160 (.t 0)), (.box 3 160 (.t 1)), (.mv 4 (.c (.int .i64 0)))]) (.seq (.reg [(.fa 5 (.t 2) 0), (.ld 6 (.t 5) false 1), (.fa 7 (.t 3) 0), (.ld 8 (.t 7) false 1), (.call (some 9) (.c (.func 151 [] [])) [(.t 6), (.t 8)]), (.mv 4 (.t 9))]) .ret))
theorem e213 : compC prog f213.ntmps (f213.body.getD .skip) = c213 := by kernel_rfl
def c212L1 : SC := (.seq (.seq (.reg [(.mv 15 (.t 9)), (.mv 16 (.t 10)), (.bin 17 .lss (.t 15) (.t 16))]) (.cond (.t 17) .skip (.exit 0))) (.block 1 (.seq (.reg [(.mv 18 (.t 9)), (.mv 19 (.t 10)), (.bin 20 .add (.t 18) (.t 19)), (.conv 21 .u64 (.t 20)), (.bin 22 .shr (.t 21) (.c (.int .u64 1))), (.conv 23 .i64 (.t 22)), (.mv 11 (.t 23))]) (.seq (.regD [(.mv 24 (.t 2)), (.mv 25 (.t 0)), (.mv 26 (.t 11)), (.ia 27 (.t 25) (.t 26) 2), (.ld 28 (.t 27) true 2), (.ld 29 (.t 4) true 2), (.call (some 30) (.t 24) [(.t 28), (.t 29)]), (.bin 31 .lss (.t 30) (.c (.int .i64 0)))] []) (.cond (.t 31) (.reg [(.mv 32 (.t 11)), (.bin 33 .add (.t 32) (.c (.int .i64 1))), (.mv 9 (.t 33))]) (.reg [(.mv 34 (.t 11)), (.mv 10 (.t 34))]))))))
def c212 : SC := (.seq (.reg [(.box 4 160 (.t 1)), (.mv 6 (.c (.int .i64 0))), (.mv 7 (.c (.bool false)))]) (.seq (.reg [(.mv 12 (.t 0)), (.len 13 false (.t 12)), (.mv 8 (.t 13))]) (.seq (.reg [(.mv 14 (.t 8)), (.mv 9 (.c (.int .i64 0))), (.mv 10 (.t 14))]) (.seq (.block 0 (.loop c212L1)) (.seq (.regD [(.mv 35 (.t 9)), (.mv 36 (.t 9)), (.mv 37 (.t 8)), (.bin 38 .lss (.t 36) (.t 37)), (.mv 39 (.t 38)), (.g 39 true (some 40) (.mv 40 (.t 2))), (.g 39 true (some 41) (.mv 41 (.t 0))), (.g 39 true (some 42) (.mv 42 (.t 9))), (.g 39 true (some 43) (.ia 43 (.t 41) (.t 42) 2)), (.g 39 true (some 44) (.ld 44 (.t 43) true 2)), (.g 39 true (some 45) (.ld 45 (.t 4) true 2)), (.g 39 true (some 46) (.call (some 46) (.t 40) [(.t 44), (.t 45)])), (.g 39 true (some 47) (.bin 47 .eql (.t 46) (.c (.int .i64 0)))), (.pick 48 (.t 39) (.t 47) (.c (.bool false))), (.mv 6 (.t 35)), (.mv 7 (.t 48))] []) .ret)))))
theorem e212 : compC prog f212.ntmps (f212.body.getD .skip) = c212 := by kernel_rfl
theorem seen_eq (a b : Seen) : (decide (a.node = b.node) && decide (a.seq = b.seq)) = decide (a = b) := by
  rcases a with ⟨a1, a2⟩; rcases b with ⟨b1, b2⟩
  simp [Seen.mk.injEq]
theorem l311 (l : List Seen) (x : Seen) (hL : (l).length < 2 ^ 62) (k' : List It) (hk : ∀ zs, V prog f311.ntmps 0 (Ret [(.t 4)] 0 (.int .i64 (-1)) []) k' zs [.cells 0 2 160 true [x.enc]]) : ∀ (rest done : List Seen), l = done ++ rest →
    Lp prog f311.ntmps 0 (Ret [(.t 4)] 0 (.int .i64 (idxFrom (fun y => decide (x = y)) done.length rest)) []) c311L1 (.blk 0 :: k') [(0, .sl 2 (l.map Seen.enc)), (3, .ptr 0 0 0 0), (7, .int .i64 l.length), (8, .int .i64 done.length)] [.cells 0 2 160 true [x.enc]] := by
  intro rest
  induction rest with
  | nil =>
    intro done hd
    refine Lp.of_eq hmx c311L1.eq_1 ?_
    have h1 := rg_end hd
    simp only [go_sem, seval, h1, List.length_map]
    exact hk _
  | cons c rest ih =>
    intro done hd
    refine Lp.of_eq hmx c311L1.eq_1 ?_
    obtain ⟨h1, h2, h3, h4⟩ := rg_hd Seen.enc hd hL
    have ih' := ih _ h4
    rcases List.eq_nil_or_concat done with h0 | ⟨ds, p, h0⟩
    · obtain ⟨p1, hp⟩ := rg_first' h0
      repeat' first | (refine Lp.bkE0 ih' (by rfl) ?_) | (refine Rt_pure ?_ rfl; simp only [retO, retO1, retOs, S, get_cons, Nat.reduceEqDiff, reduceIte, obj, getO_cons_zero, getO_cons_succ, List.getElem?_cons_zero, List.getElem?_cons_succ, List.drop_zero, List.drop_succ_cons, loadFrom_cell, loadFrom_agg, List.length_cons, List.length_nil, Nat.reduceAdd, Nat.reduceLeDiff, List.take_succ_cons, List.take_zero, List.take_nil]) | (with_reducible intro h; try simp only [h]) | (with_reducible refine And.intro ?_ ?_) | (change chk _ _ = true; rfl) | simp only [go_sem, seval, Vc_bool, h1, h2, h3, Int.toNat_natCast, Int.natCast_nonneg, List.length_map, seen_eq, p1] | refine (GX_split rfl).2 ?_
      all_goals (clear hk ih ih' h1 h2 h3 h4 hd hL)
      all_goals clear p1 h0
      all_goals (simp only [idxFrom]; grind)
    · rw [List.concat_eq_append] at h0
      obtain ⟨p1, p2, p3, hp⟩ := rg_prev' Seen.enc hd h0 hL
      repeat' first | (refine Lp.bkE0 ih' (by rfl) ?_) | (refine Rt_pure ?_ rfl; simp only [retO, retO1, retOs, S, get_cons, Nat.reduceEqDiff, reduceIte, obj, getO_cons_zero, getO_cons_succ, List.getElem?_cons_zero, List.getElem?_cons_succ, List.drop_zero, List.drop_succ_cons, loadFrom_cell, loadFrom_agg, List.length_cons, List.length_nil, Nat.reduceAdd, Nat.reduceLeDiff, List.take_succ_cons, List.take_zero, List.take_nil]) | (with_reducible intro h; try simp only [h]) | (with_reducible refine And.intro ?_ ?_) | (change chk _ _ = true; rfl) | simp only [go_sem, seval, Vc_bool, h1, h2, h3, Int.toNat_natCast, Int.natCast_nonneg, List.length_map, seen_eq, p1, p2, p3] | refine (GX_split rfl).2 ?_
      all_goals (clear hk ih ih' h1 h2 h3 h4 hd hL)
      all_goals clear p1 p2 p3 h0
      all_goals (simp only [idxFrom]; grind)

theorem c311_ok {l : List Seen} {x : Seen} (hL : l.length < 2 ^ 62) : ACalls prog 311 [.sl 2 (l.map Seen.enc), .agg x.enc] [] (.int .i64 (idxFrom (fun y => decide (x = y)) 0 l)) [] := by
  refine calls_of hmx func311 (by kernel_rfl) (c := f311.body.getD .skip) rfl e311 (rs := [(.t 4)]) (by kernel_rfl) (by simp [ntmps311]) ?_
  simp only [c311, argS]
  simp only [go_sem, seval, List.length_map]
  refine Lp.bkE0 (l311 l x hL _ (fun s => ?_) l [] rfl) (by rfl) rfl
  simp only [go_sem, seval]
  (refine Rt_pure ?_ rfl; simp only [retO, retO1, retOs, S, get_cons, Nat.reduceEqDiff, reduceIte, obj, getO_cons_zero, getO_cons_succ, List.getElem?_cons_zero, List.getElem?_cons_succ, List.drop_zero, List.drop_succ_cons, loadFrom_cell, loadFrom_agg, List.length_cons, List.length_nil, Nat.reduceAdd, Nat.reduceLeDiff, List.take_succ_cons, List.take_zero, List.take_nil])
theorem c211_ok {l : List Seen} {x : Seen} (hL : l.length < 2 ^ 62) : ACalls prog 211 [.sl 2 (l.map Seen.enc), .agg x.enc] [] (.bool (l.any fun y => decide (x = y))) [] := by
  refine calls_of hmx func211 (by kernel_rfl) (c := f211.body.getD .skip) rfl e211 (rs := [(.t 4)]) (by kernel_rfl) (by simp [ntmps211]) ?_
  simp only [c211, argS]
  simp only [go_sem, seval]
  repeat' first | (refine Rt_pure ?_ rfl; simp only [retO, retO1, retOs, S, get_cons, Nat.reduceEqDiff, reduceIte, obj, getO_cons_zero, getO_cons_succ, List.getElem?_cons_zero, List.getElem?_cons_succ, List.drop_zero, List.drop_succ_cons, loadFrom_cell, loadFrom_agg, List.length_cons, List.length_nil, Nat.reduceAdd, Nat.reduceLeDiff, List.take_succ_cons, List.take_zero, List.take_nil]) | refine CX_pure (c311_ok hL) rfl rfl rfl rfl ?_ | refine GX_call (fun _ => (c311_ok hL)) (by rfl) (by intro h; simp only [h]; rfl) (by rfl) (by rfl) ?_ | (with_reducible intro h; try simp only [h]) | (with_reducible refine And.intro ?_ ?_) | (change chk _ _ = true; rfl) | simp only [go_sem, seval, Vc_bool, idxFrom_any] | refine (GX_split rfl).2 ?_
theorem c213_pf (a : Seen) (b : Seen)  : ACalls prog 213 [.agg [.int .i64 a.node, .int .i64 a.seq], .agg [.int .i64 b.node, .int .i64 b.seq]] [] (.int .i64 (cmp a.node b.node)) [] := by
  refine calls_of hmx func213 (by kernel_rfl) (c := f213.body.getD .skip) rfl e213 (rs := [(.t 4)]) (by kernel_rfl) (by simp [ntmps213]) ?_
  simp only [c213, argS]
  simp only [go_sem, seval]
  repeat' first | (refine Rt_pure ?_ rfl; simp only [retO, retO1, retOs, S, get_cons, Nat.reduceEqDiff, reduceIte, obj, getO_cons_zero, getO_cons_succ, List.getElem?_cons_zero, List.getElem?_cons_succ, List.drop_zero, List.drop_succ_cons, loadFrom_cell, loadFrom_agg, List.length_cons, List.length_nil, Nat.reduceAdd, Nat.reduceLeDiff, List.take_succ_cons, List.take_zero, List.take_nil]) | refine CX_pure c151_ok rfl rfl rfl rfl ?_ | refine GX_call (fun _ => c151_ok) (by rfl) (by intro h; simp only [h]; rfl) (by rfl) (by rfl) ?_ | (with_reducible intro h; try simp only [h]) | (with_reducible refine And.intro ?_ ?_) | (change chk _ _ = true; rfl) | simp only [go_sem, seval, Vc_bool] | refine (GX_split rfl).2 ?_
theorem c213_ok {a_node : Int} {a_seq : Int} {b_node : Int} {b_seq : Int}  : ACalls prog 213 [.agg [.int .i64 a_node, .int .i64 a_seq], .agg [.int .i64 b_node, .int .i64 b_seq]] [] (.int .i64 (cmp a_node b_node)) [] := c213_pf (⟨a_node, a_seq⟩ : Seen) (⟨b_node, b_seq⟩ : Seen) 

section
variable {xs : List Seen} {t : Seen}
theorem bs2_loop (hlen : xs.length < 2 ^ 62) (hs : ∀ i x, xs[i]? = some x → (cmp x.node t.node < 0 ↔ i < bsLo (fun y : Seen => cmp y.node t.node) xs)) (rs : List RS) (r : AVal) (k' : List It)
    (hk : ∀ s, get s 0 = .sl 2 (xs.map Seen.enc) → get s 4 = .ptr 0 0 0 0 → get s 2 = .func 213 [] [] → get s 8 = .int .i64 xs.length → get s 9 = .int .i64 (bsLo (fun y : Seen => cmp y.node t.node) xs) → V prog f212.ntmps 0 (Ret rs 0 r []) k' s [.cells 0 2 160 true [t.enc]]) : ∀ (m i j : Nat), j - i ≤ m → i ≤ bsLo (fun y : Seen => cmp y.node t.node) xs → bsLo (fun y : Seen => cmp y.node t.node) xs ≤ j → j ≤ xs.length →
    Lp prog f212.ntmps 0 (Ret rs 0 r []) c212L1 (.blk 0 :: k') [(0, .sl 2 (xs.map Seen.enc)), (4, .ptr 0 0 0 0), (2, .func 213 [] []), (8, .int .i64 xs.length), (9, .int .i64 i), (10, .int .i64 j)] [.cells 0 2 160 true [t.enc]] := by
  intro m
  induction m with
  | zero =>
    intro i j h1 h2 h3 h4
    refine Lp.of_eq hmx c212L1.eq_1 ?_
    have e1 : decide ((i : Int) < (j : Int)) = false := by simp; omega
    simp only [go_sem, seval, e1]
    exact hk _ (by rfl) (by rfl) (by rfl) (by rfl) (by show AVal.int .i64 _ = _; congr 1; omega)
  | succ m ih =>
    intro i j h1 h2 h3 h4
    refine Lp.of_eq hmx c212L1.eq_1 ?_
    rcases Nat.lt_or_ge i j with hij | hij
    · have e1 : decide ((i : Int) < (j : Int)) = true := by simp; omega
      have e2 := mid_ok (i := i) (j := j) (by omega)
      have hm : (i + j) / 2 < xs.length := by omega
      have e3 : (xs.map Seen.enc)[(i + j) / 2]? = some (Seen.enc xs[(i + j) / 2]) := by rw [List.getElem?_map, List.getElem?_eq_getElem hm]; rfl
      have e4 : IntKind.i64.wrap (((i + j) / 2 : Nat) + (1 : Int)) = (((i + j) / 2 + 1 : Nat) : Int) := by rw [wrap_ok (by omega) (by omega)]; omega
      have hsx := hs ((i + j) / 2) _ (List.getElem?_eq_getElem hm)
      generalize xs[(i + j) / 2] = c at *
      repeat' first | refine CX_pure (c213_ok) rfl rfl rfl rfl ?_ | refine GX_call (fun _ => (c213_ok)) (by rfl) (by intro h; simp only [h]; rfl) (by rfl) (by rfl) ?_ | (with_reducible intro h; try simp only [h]) | (with_reducible refine And.intro ?_ ?_) | (change chk _ _ = true; rfl) | simp only [go_sem, seval, Vc_bool, e1, e2, e3, e4, Int.toNat_natCast, Int.natCast_nonneg] | refine (GX_split rfl).2 ?_
      · exact Lp.bk0 (ih ((i + j) / 2 + 1) j (by omega) (by have := of_decide_eq_true h; rw [hsx] at this; omega) h3 h4) (by rfl)
      · exact Lp.bk0 (ih i ((i + j) / 2) (by omega) h2 (by have := of_decide_eq_false h; rw [hsx] at this; omega) (by omega)) (by rfl)
    · have e1 : decide ((i : Int) < (j : Int)) = false := by simp; omega
      simp only [go_sem, seval, e1]
      exact hk _ (by rfl) (by rfl) (by rfl) (by rfl) (by show AVal.int .i64 _ = _; congr 1; omega)
end
theorem c212_ok {xs : List Seen} {t : Seen} (hlen : xs.length < 2 ^ 62) (hs : ∀ i x, xs[i]? = some x → (cmp x.node t.node < 0 ↔ i < bsLo (fun y : Seen => cmp y.node t.node) xs)) :
    ACalls prog 212 [.sl 2 (xs.map Seen.enc), .agg t.enc, .func 213 [] []] [] (.tup [.int .i64 (bsLo (fun y : Seen => cmp y.node t.node) xs), .bool (bsHit (fun y : Seen => cmp y.node t.node) xs)]) [] := by
  refine calls_of hmx func212 (by kernel_rfl) (c := f212.body.getD .skip) rfl e212 (rs := [(.t 6), (.t 7)]) (by kernel_rfl) (by simp [ntmps212]) ?_
  simp only [c212, argS]
  simp only [go_sem, seval, List.length_map]
  refine Lp.bk0 (bs2_loop hlen hs _ _ _ (fun s z0 z1 z2 z8 z9 => ?_) xs.length 0 xs.length (by omega) (Nat.zero_le _) (bsLo_le _) (Nat.le_refl _)) (by rfl)
  have hle := bsLo_le (c := fun y : Seen => cmp y.node t.node) xs
  rcases Nat.lt_or_ge (bsLo (fun y : Seen => cmp y.node t.node) xs) xs.length with h | h
  · have e1 : decide (((bsLo (fun y : Seen => cmp y.node t.node) xs : Nat) : Int) < (xs.length : Int)) = true := by simp; omega
    have e2 : (xs.map Seen.enc)[bsLo (fun y : Seen => cmp y.node t.node) xs]? = some (Seen.enc xs[bsLo (fun y : Seen => cmp y.node t.node) xs]) := by rw [List.getElem?_map, List.getElem?_eq_getElem h]; rfl
    have e3 : bsHit (fun y : Seen => cmp y.node t.node) xs = decide (cmp xs[bsLo (fun y : Seen => cmp y.node t.node) xs].node t.node = 0) := by rw [bsHit, List.getElem?_eq_getElem h]
    rw [e3]
    generalize xs[bsLo (fun y : Seen => cmp y.node t.node) xs] = c at *
    repeat' first | (refine Rt_pure ?_ rfl; simp only [retO, retO1, retOs, S, get_cons, Nat.reduceEqDiff, reduceIte, obj, getO_cons_zero, getO_cons_succ, List.getElem?_cons_zero, List.getElem?_cons_succ, List.drop_zero, List.drop_succ_cons, loadFrom_cell, loadFrom_agg, List.length_cons, List.length_nil, Nat.reduceAdd, Nat.reduceLeDiff, List.take_succ_cons, List.take_zero, List.take_nil]) | refine CX_pure (c213_ok) rfl rfl rfl rfl ?_ | refine GX_call (fun _ => (c213_ok)) (by rfl) (by intro h; simp only [h]; rfl) (by rfl) (by rfl) ?_ | (with_reducible intro h; try simp only [h]) | (with_reducible refine And.intro ?_ ?_) | (change chk _ _ = true; rfl) | simp only [go_sem, seval, Vc_bool, z0, z1, z2, z8, z9, e1, e2, Int.toNat_natCast, Int.natCast_nonneg] | refine (GX_split rfl).2 ?_
  · have e1 : decide (((bsLo (fun y : Seen => cmp y.node t.node) xs : Nat) : Int) < (xs.length : Int)) = false := by simp; omega
    have e3 : bsHit (fun y : Seen => cmp y.node t.node) xs = false := by rw [bsHit, List.getElem?_eq_none h]
    rw [e3]
    simp only [go_sem, seval, z0, z1, z2, z8, z9, e1]
    (refine Rt_pure ?_ rfl; simp only [retO, retO1, retOs, S, get_cons, Nat.reduceEqDiff, reduceIte, obj, getO_cons_zero, getO_cons_succ, List.getElem?_cons_zero, List.getElem?_cons_succ, List.drop_zero, List.drop_succ_cons, loadFrom_cell, loadFrom_agg, List.length_cons, List.length_nil, Nat.reduceAdd, Nat.reduceLeDiff, List.take_succ_cons, List.take_zero, List.take_nil])

end Go.Av.T
