/- The seat: part Ch9. -/
import Derived.Test.YtmhchaedhmnofaaGreatCh8
import Derived.KernelRfl
import Derived.Test.YtmhchaedhmnofaaGreatCh5
set_option maxRecDepth 100000
set_option maxHeartbeats 1000000
set_option linter.unusedSimpArgs false
set_option linter.unusedVariables false
namespace Go.Av.T
open Go Go.Av Go.Av.Sp Go.Proofs.Tryz
def c381 : SC := (.seq (.reg [(.box 1 41 (.t 0)), (.mv 2 (.c (.bool false)))]) (.seq (.reg [(.fa 3 (.t 1) 2), (.ld 4 (.t 3) false 1), (.call (some 5) (.c (.func 310 [] [])) [(.t 4), (.c (.int .i64 31))]), (.mv 6 (.t 5)), (.g 6 true (some 7) (.fa 7 (.t 1) 2)), (.g 6 true (some 8) (.ld 8 (.t 7) false 1)), (.g 6 true (some 9) (.fa 9 (.t 1) 1)), (.g 6 true (some 10) (.ld 10 (.t 9) false 1)), (.g 6 true (some 11) (.bin 11 .neq (.t 8) (.t 10))), (.pick 12 (.t 6) (.t 11) (.c (.bool false))), (.mv 2 (.t 12))]) .ret))
theorem e381 : compC prog f381.ntmps (f381.body.getD .skip) = c381 := by kernel_rfl
def c382 : SC := (.seq (.reg [(.mv 2 (.c (.bool false)))]) (.seq (.reg [(.mv 3 (.t 0)), (.bin 4 .geq (.t 3) (.c (.int .i64 (-32768)))), (.mv 5 (.t 4)), (.g 5 true (some 6) (.mv 6 (.t 0))), (.g 5 true (some 7) (.bin 7 .leq (.t 6) (.c (.int .i64 32767)))), (.pick 8 (.t 5) (.t 7) (.c (.bool false))), (.mv 2 (.t 8))]) .ret))
theorem e382 : compC prog f382.ntmps (f382.body.getD .skip) = c382 := by kernel_rfl
def c330 : SC := (.seq (.reg [(.box 1 41 (.t 0)), (.alc 2 41 [(.int .i64 0), (.int .i64 0), (.int .i64 0), (.int .i64 0), (.int .i64 0), (.int .i64 0), (.int .i64 0), (.int .i64 0), (.int .i64 0), (.int .i64 0), (.int .i64 0), (.str (ByteArray.mk #[]))]), (.mv 3 (.c (.bool false)))]) (.seq (.reg [(.ld 6 (.t 1) true 12), (.alc 4 41 [(.int .i64 0), (.int .i64 0), (.int .i64 0), (.int .i64 0), (.int .i64 0), (.int .i64 0), (.int .i64 0), (.int .i64 0), (.int .i64 0), (.int .i64 0), (.int .i64 0), (.str (ByteArray.mk #[]))]), (.st (.t 4) (.t 6) 12), (.mv 5 (.c (.bool false)))]) (.seq (.seq (.reg [(.fa 7 (.t 1) 0), (.ld 8 (.t 7) false 1)]) (.block 0 (.seq (.reg [(.bin 10 .eql (.t 8) (.c (.int .i64 1))), (.mv 9 (.t 10))]) (.cond (.t 9) (.seq (.reg [(.ld 11 (.t 1) true 12), (.call (some 12) (.c (.func 381 [] [])) [(.t 11)]), (.mv 13 (.t 12)), (.g 13 true (some 14) (.fa 14 (.t 1) 5)), (.g 13 true (some 15) (.ld 15 (.t 14) false 1)), (.g 13 true (some 16) (.call (some 16) (.c (.func 310 [] [])) [(.t 15), (.c (.int .i64 255))])), (.pick 17 (.t 13) (.t 16) (.c (.bool false))), (.mv 18 (.t 17)), (.g 18 true (some 19) (.fa 19 (.t 1) 6)), (.g 18 true (some 20) (.ld 20 (.t 19) false 1)), (.g 18 true (some 21) (.call (some 21) (.c (.func 310 [] [])) [(.t 20), (.c (.int .i64 65535))])), (.pick 22 (.t 18) (.t 21) (.c (.bool false))), (.mv 5 (.t 22))]) (.reg [(.fa 23 (.t 4) 5), (.st (.t 23) (.c (.int .i64 0)) 1), (.fa 24 (.t 4) 6), (.st (.t 24) (.c (.int .i64 0)) 1), (.fa 25 (.t 4) 11), (.st (.t 25) (.c (.str (ByteArray.mk #[]))) 1)])) (.seq (.reg [(.bin 27 .eql (.t 8) (.c (.int .i64 2))), (.mv 26 (.t 27))]) (.cond (.t 26) (.seq (.reg [(.ld 28 (.t 1) true 12), (.call (some 29) (.c (.func 381 [] [])) [(.t 28)]), (.mv 30 (.t 29)), (.g 30 true (some 31) (.fa 31 (.t 1) 7)), (.g 30 true (some 32) (.ld 32 (.t 31) false 1)), (.g 30 true (some 33) (.call (some 33) (.c (.func 382 [] [])) [(.t 32)])), (.pick 34 (.t 30) (.t 33) (.c (.bool false))), (.mv 5 (.t 34))]) (.reg [(.fa 35 (.t 4) 7), (.st (.t 35) (.c (.int .i64 0)) 1)])) (.seq (.reg [(.bin 37 .eql (.t 8) (.c (.int .i64 3))), (.mv 36 (.t 37))]) (.cond (.t 36) (.seq (.reg [(.fa 38 (.t 1) 2), (.ld 39 (.t 38) false 1), (.bin 40 .eql (.t 39) (.c (.int .i64 (-1)))), (.mv 41 (.t 40)), (.g 41 true (some 42) (.fa 42 (.t 1) 8)), (.g 41 true (some 43) (.ld 43 (.t 42) false 1)), (.g 41 true (some 44) (.call (some 44) (.c (.func 310 [] [])) [(.t 43), (.c (.int .i64 109951162))])), (.pick 45 (.t 41) (.t 44) (.c (.bool false))), (.mv 46 (.t 45)), (.g 46 true (some 47) (.fa 47 (.t 1) 9)), (.g 46 true (some 48) (.ld 48 (.t 47) false 1)), (.g 46 true (some 49) (.call (some 49) (.c (.func 310 [] [])) [(.t 48), (.c (.int .i64 65535))])), (.pick 50 (.t 46) (.t 49) (.c (.bool false))), (.mv 51 (.t 50)), (.g 51 true (some 52) (.fa 52 (.t 1) 10)), (.g 51 true (some 53) (.ld 53 (.t 52) false 1)), (.g 51 true (some 54) (.call (some 54) (.c (.func 310 [] [])) [(.t 53), (.c (.int .i64 65535))])), (.pick 55 (.t 51) (.t 54) (.c (.bool false))), (.mv 5 (.t 55))]) (.reg [(.fa 56 (.t 4) 8), (.st (.t 56) (.c (.int .i64 0)) 1), (.fa 57 (.t 4) 9), (.st (.t 57) (.c (.int .i64 0)) 1), (.fa 58 (.t 4) 10), (.st (.t 58) (.c (.int .i64 0)) 1), (.fa 59 (.t 4) 11), (.st (.t 59) (.c (.str (ByteArray.mk #[]))) 1)])) (.seq (.reg [(.bin 61 .eql (.t 8) (.c (.int .i64 4))), (.mv 60 (.t 61))]) (.cond (.t 60) (.seq (.reg [(.fa 62 (.t 1) 2), (.ld 63 (.t 62) false 1), (.bin 64 .eql (.t 63) (.c (.int .i64 (-1)))), (.mv 65 (.t 64)), (.g 65 false (some 66) (.ld 66 (.t 1) true 12)), (.g 65 false (some 67) (.call (some 67) (.c (.func 381 [] [])) [(.t 66)])), (.pick 68 (.t 65) (.c (.bool true)) (.t 67)), (.mv 5 (.t 68))]) (.reg [(.fa 69 (.t 4) 11), (.st (.t 69) (.c (.str (ByteArray.mk #[]))) 1)])) .skip)))))))))) (.seq (.reg [(.ld 70 (.t 4) true 12), (.mv 71 (.t 5)), (.st (.t 2) (.t 70) 12), (.mv 3 (.t 71))]) .ret))))
theorem e330 : compC prog f330.ntmps (f330.body.getD .skip) = c330 := by kernel_rfl
def c227 : SC := (.seq (.reg [(.box 1 41 (.t 0)), (.mv 2 (.c (.int .i64 0)))]) (.seq (.reg [(.ld 7 (.t 1) true 12), (.call (some 8) (.c (.func 330 [] [])) [(.t 7)]), (.mv 6 (.t 8)), (.ext 9 (.t 6) 0), (.ext 10 (.t 6) 1), (.alc 3 41 [(.int .i64 0), (.int .i64 0), (.int .i64 0), (.int .i64 0), (.int .i64 0), (.int .i64 0), (.int .i64 0), (.int .i64 0), (.int .i64 0), (.int .i64 0), (.int .i64 0), (.str (ByteArray.mk #[]))]), (.st (.t 3) (.t 9) 12), (.mv 4 (.t 10))]) (.seq (.reg [(.fa 11 (.t 1) 0), (.ld 12 (.t 11) false 1), (.fa 13 (.t 1) 1), (.ld 14 (.t 13) false 1), (.fa 15 (.t 1) 2), (.ld 16 (.t 15) false 1), (.fa 17 (.t 1) 3), (.ld 18 (.t 17) false 1), (.fa 19 (.t 1) 4), (.ld 20 (.t 19) false 1), (.bld 21 [(.int .i64 0), (.int .i64 0), (.int .i64 0), (.int .i64 0), (.int .i64 0), (.int .i64 0), (.int .i64 0), (.int .i64 0), (.int .i64 0), (.int .i64 0), (.int .i64 0), (.str (ByteArray.mk #[]))] [(0, 1, (.t 12)), (1, 1, (.t 14)), (2, 1, (.t 16)), (3, 1, (.t 18)), (4, 1, (.t 20))]), (.alc 5 41 [(.int .i64 0), (.int .i64 0), (.int .i64 0), (.int .i64 0), (.int .i64 0), (.int .i64 0), (.int .i64 0), (.int .i64 0), (.int .i64 0), (.int .i64 0), (.int .i64 0), (.str (ByteArray.mk #[]))]), (.st (.t 5) (.t 21) 12)]) (.seq (.seq (.reg [(.mv 22 (.t 4)), (.not 23 (.t 22)), (.mv 24 (.t 23)), (.g 24 false (some 25) (.ld 25 (.t 3) true 12)), (.g 24 false (some 26) (.ld 26 (.t 5) true 12)), (.g 24 false (some 27) (.binA 27 true [1, 1, 1, 1, 1, 1, 1, 1, 1, 1, 1, 3] (.t 25) (.t 26))), (.pick 28 (.t 24) (.c (.bool true)) (.t 27)), (.mv 29 (.t 28)), (.g 29 false (some 30) (.fa 30 (.t 1) 1)), (.g 29 false (some 31) (.ld 31 (.t 30) false 1)), (.g 29 false (some 32) (.call (some 32) (.c (.func 310 [] [])) [(.t 31), (.c (.int .i64 31))])), (.g 29 false (some 33) (.not 33 (.t 32))), (.pick 34 (.t 29) (.c (.bool true)) (.t 33)), (.mv 35 (.t 34)), (.g 35 false (some 36) (.fa 36 (.t 1) 3)), (.g 35 false (some 37) (.ld 37 (.t 36) false 1)), (.g 35 false (some 38) (.call (some 38) (.c (.func 310 [] [])) [(.t 37), (.c (.int .i64 255))])), (.g 35 false (some 39) (.not 39 (.t 38))), (.pick 40 (.t 35) (.c (.bool true)) (.t 39)), (.mv 41 (.t 40)), (.g 41 false (some 42) (.fa 42 (.t 1) 4)), (.g 41 false (some 43) (.ld 43 (.t 42) false 1)), (.g 41 false (some 44) (.call (some 44) (.c (.func 310 [] [])) [(.t 43), (.c (.int .i64 255))])), (.g 41 false (some 45) (.not 45 (.t 44))), (.pick 46 (.t 41) (.c (.bool true)) (.t 45))]) (.cond (.t 46) (.seq (.reg [(.mv 2 (.c (.int .i64 1)))]) .ret) .skip)) (.seq (.reg [(.mv 2 (.c (.int .i64 0)))]) .ret)))))
theorem e227 : compC prog f227.ntmps (f227.body.getD .skip) = c227 := by kernel_rfl
def c210 : SC := (.seq (.reg [(.box 2 41 (.t 0)), (.mv 4 (.c (.bool false)))]) (.seq (.reg [(.ld 5 (.t 2) true 12), (.call (some 6) (.c (.func 227 [] [])) [(.t 5)]), (.bin 7 .eql (.t 6) (.c (.int .i64 0))), (.mv 8 (.t 7)), (.g 8 true (some 9) (.mv 9 (.t 1))), (.g 8 true (some 10) (.call (some 10) (.c (.func 310 [] [])) [(.t 9), (.c (.int .i64 31))])), (.pick 11 (.t 8) (.t 10) (.c (.bool false))), (.mv 12 (.t 11)), (.g 12 true (some 13) (.fa 13 (.t 2) 2)), (.g 12 true (some 14) (.ld 14 (.t 13) false 1)), (.g 12 true (some 15) (.mv 15 (.t 1))), (.g 12 true (some 16) (.bin 16 .eql (.t 14) (.t 15))), (.g 12 true (some 17) (.mv 17 (.t 16))), (.g 17 false (some 18) (.fa 18 (.t 2) 2)), (.g 17 false (some 19) (.ld 19 (.t 18) false 1)), (.g 17 false (some 20) (.bin 20 .eql (.t 19) (.c (.int .i64 (-1))))), (.g 17 false (some 21) (.mv 21 (.t 20))), (.g 21 true (some 22) (.fa 22 (.t 2) 1)), (.g 21 true (some 23) (.ld 23 (.t 22) false 1)), (.g 21 true (some 24) (.mv 24 (.t 1))), (.g 21 true (some 25) (.bin 25 .neq (.t 23) (.t 24))), (.g 17 false (some 26) (.pick 26 (.t 21) (.t 25) (.c (.bool false)))), (.g 12 true (some 27) (.pick 27 (.t 17) (.c (.bool true)) (.t 26))), (.pick 28 (.t 12) (.t 27) (.c (.bool false))), (.mv 4 (.t 28))]) .ret))
theorem e210 : compC prog f210.ntmps (f210.body.getD .skip) = c210 := by kernel_rfl
theorem c382_pf (a : Int)  : ACalls prog 382 [.int .i64 a] [] (.bool (wi3 a (-32768) 32767)) [] := by
  refine calls_of hmx func382 (by kernel_rfl) (c := f382.body.getD .skip) rfl e382 (rs := [(.t 2)]) (by kernel_rfl) (by simp [ntmps382]) ?_
  simp only [c382, argS]
  simp only [go_sem, seval]
  repeat' first | (refine Rt_pure ?_ rfl; simp only [retO, retO1, retOs, S, get_cons, Nat.reduceEqDiff, reduceIte, obj, getO_cons_zero, getO_cons_succ, List.getElem?_cons_zero, List.getElem?_cons_succ, List.drop_zero, List.drop_succ_cons, loadFrom_cell, loadFrom_agg, List.length_cons, List.length_nil, Nat.reduceAdd, Nat.reduceLeDiff, List.take_succ_cons, List.take_zero, List.take_nil]) | (with_reducible intro h; try simp only [h]) | (with_reducible refine And.intro ?_ ?_) | (change chk _ _ = true; rfl) | simp only [go_sem, seval, Vc_bool] | refine (GX_split rfl).2 ?_
  all_goals simp [wi3]
theorem c382_ok {a : Int}  : ACalls prog 382 [.int .i64 a] [] (.bool (wi3 a (-32768) 32767)) [] := c382_pf a 

theorem c381_pf (f : Sp.Frame)  : ACalls prog 381 [.agg [.int .i64 f.kind, .int .i64 f.src, .int .i64 f.tgt, .int .i64 f.list, .int .i64 f.seq, .int .i64 f.flow, .int .i64 f.num, .int .i64 f.err, .int .i64 f.slot, .int .i64 f.rank, .int .i64 f.epoch, .str f.data]] [] (.bool (isTgt f)) [] := by
  refine calls_of hmx func381 (by kernel_rfl) (c := f381.body.getD .skip) rfl e381 (rs := [(.t 2)]) (by kernel_rfl) (by simp [ntmps381]) ?_
  simp only [c381, argS]
  simp only [go_sem, seval]
  repeat' first | (refine Rt_pure ?_ rfl; simp only [retO, retO1, retOs, S, get_cons, Nat.reduceEqDiff, reduceIte, obj, getO_cons_zero, getO_cons_succ, List.getElem?_cons_zero, List.getElem?_cons_succ, List.drop_zero, List.drop_succ_cons, loadFrom_cell, loadFrom_agg, List.length_cons, List.length_nil, Nat.reduceAdd, Nat.reduceLeDiff, List.take_succ_cons, List.take_zero, List.take_nil]) | refine CX_pure c310_ok rfl rfl rfl rfl ?_ | refine GX_call (fun _ => c310_ok) (by rfl) (by intro h; simp only [h]; rfl) (by rfl) (by rfl) ?_ | (with_reducible intro h; try simp only [h]) | (with_reducible refine And.intro ?_ ?_) | (change chk _ _ = true; rfl) | simp only [go_sem, seval, Vc_bool] | refine (GX_split rfl).2 ?_
  all_goals simp [isTgt]
theorem c381_ok {f_kind : Int} {f_src : Int} {f_tgt : Int} {f_list : Int} {f_seq : Int} {f_flow : Int} {f_num : Int} {f_err : Int} {f_slot : Int} {f_rank : Int} {f_epoch : Int} {f_data : ByteArray}  : ACalls prog 381 [.agg [.int .i64 f_kind, .int .i64 f_src, .int .i64 f_tgt, .int .i64 f_list, .int .i64 f_seq, .int .i64 f_flow, .int .i64 f_num, .int .i64 f_err, .int .i64 f_slot, .int .i64 f_rank, .int .i64 f_epoch, .str f_data]] [] (.bool (isTgt (⟨f_kind, f_src, f_tgt, f_list, f_seq, f_flow, f_num, f_err, f_slot, f_rank, f_epoch, f_data⟩ : Sp.Frame))) [] := c381_pf (⟨f_kind, f_src, f_tgt, f_list, f_seq, f_flow, f_num, f_err, f_slot, f_rank, f_epoch, f_data⟩ : Sp.Frame) 

def frFields (f : Sp.Frame) : Sp.Frame × Bool :=
  if f.kind = 1 then ({ f with flow := 0, num := 0, data := ByteArray.mk #[] }, isTgt f && wi f.flow 255 && wi f.num 65535)
  else if f.kind = 2 then ({ f with err := 0 }, isTgt f && wi3 f.err (-32768) 32767)
  else if f.kind = 3 then ({ f with slot := 0, rank := 0, epoch := 0, data := ByteArray.mk #[] }, decide (f.tgt = -1) && wi f.slot 109951162 && wi f.rank 65535 && wi f.epoch 65535)
  else if f.kind = 4 then ({ f with data := ByteArray.mk #[] }, decide (f.tgt = -1) || isTgt f)
  else (f, false)
theorem c330_pf (f : Sp.Frame)  : ACalls prog 330 [.agg [.int .i64 f.kind, .int .i64 f.src, .int .i64 f.tgt, .int .i64 f.list, .int .i64 f.seq, .int .i64 f.flow, .int .i64 f.num, .int .i64 f.err, .int .i64 f.slot, .int .i64 f.rank, .int .i64 f.epoch, .str f.data]] [] (.tup [.agg (frFields f).1.enc, .bool (frFields f).2]) [] := by
  refine calls_of hmx func330 (by kernel_rfl) (c := f330.body.getD .skip) rfl e330 (rs := [(.cell 2 true 12), (.t 3)]) (by kernel_rfl) (by simp [ntmps330]) ?_
  simp only [c330, argS]
  simp only [go_sem, seval]
  repeat' first | refine CX_pure c310_ok rfl rfl rfl rfl ?_ | refine CX_pure c381_ok rfl rfl rfl rfl ?_ | refine CX_pure c382_ok rfl rfl rfl rfl ?_ | refine GX_call (fun _ => c310_ok) (by rfl) (by intro h; simp only [h]; rfl) (by rfl) (by rfl) ?_ | refine GX_call (fun _ => c381_ok) (by rfl) (by intro h; simp only [h]; rfl) (by rfl) (by rfl) ?_ | refine GX_call (fun _ => c382_ok) (by rfl) (by intro h; simp only [h]; rfl) (by rfl) (by rfl) ?_ | (with_reducible intro h; try simp only [h]) | (with_reducible refine And.intro ?_ ?_) | (change chk _ _ = true; rfl) | simp only [go_sem, seval, Vc_bool] | refine (GX_split rfl).2 ?_
  · have e : frFields f = ({ f with flow := 0, num := 0, data := ByteArray.mk #[] }, isTgt f && wi f.flow 255 && wi f.num 65535) := by
      simp only [decide_eq_true_eq, decide_eq_false_iff_not] at *
      rw [frFields]
      simp only [*, if_true, if_false, not_false_eq_true, reduceIte, Int.reduceEq]
    rw [e]
    (refine Rt_pure ?_ rfl; simp only [retO, retO1, retOs, S, get_cons, Nat.reduceEqDiff, reduceIte, obj, getO_cons_zero, getO_cons_succ, List.getElem?_cons_zero, List.getElem?_cons_succ, List.drop_zero, List.drop_succ_cons, loadFrom_cell, loadFrom_agg, List.length_cons, List.length_nil, Nat.reduceAdd, Nat.reduceLeDiff, List.take_succ_cons, List.take_zero, List.take_nil])
  · have e : frFields f = ({ f with err := 0 }, isTgt f && wi3 f.err (-32768) 32767) := by
      simp only [decide_eq_true_eq, decide_eq_false_iff_not] at *
      rw [frFields]
      simp only [*, if_true, if_false, not_false_eq_true, reduceIte, Int.reduceEq]
    rw [e]
    (refine Rt_pure ?_ rfl; simp only [retO, retO1, retOs, S, get_cons, Nat.reduceEqDiff, reduceIte, obj, getO_cons_zero, getO_cons_succ, List.getElem?_cons_zero, List.getElem?_cons_succ, List.drop_zero, List.drop_succ_cons, loadFrom_cell, loadFrom_agg, List.length_cons, List.length_nil, Nat.reduceAdd, Nat.reduceLeDiff, List.take_succ_cons, List.take_zero, List.take_nil])
  · have e : frFields f = ({ f with slot := 0, rank := 0, epoch := 0, data := ByteArray.mk #[] }, decide (f.tgt = -1) && wi f.slot 109951162 && wi f.rank 65535 && wi f.epoch 65535) := by
      simp only [decide_eq_true_eq, decide_eq_false_iff_not] at *
      rw [frFields]
      simp only [*, if_true, if_false, not_false_eq_true, reduceIte, Int.reduceEq]
    rw [e]
    (refine Rt_pure ?_ rfl; simp only [retO, retO1, retOs, S, get_cons, Nat.reduceEqDiff, reduceIte, obj, getO_cons_zero, getO_cons_succ, List.getElem?_cons_zero, List.getElem?_cons_succ, List.drop_zero, List.drop_succ_cons, loadFrom_cell, loadFrom_agg, List.length_cons, List.length_nil, Nat.reduceAdd, Nat.reduceLeDiff, List.take_succ_cons, List.take_zero, List.take_nil])
  · have e : frFields f = ({ f with data := ByteArray.mk #[] }, decide (f.tgt = -1) || isTgt f) := by
      simp only [decide_eq_true_eq, decide_eq_false_iff_not] at *
      rw [frFields]
      simp only [*, if_true, if_false, not_false_eq_true, reduceIte, Int.reduceEq]
    rw [e]
    (refine Rt_pure ?_ rfl; simp only [retO, retO1, retOs, S, get_cons, Nat.reduceEqDiff, reduceIte, obj, getO_cons_zero, getO_cons_succ, List.getElem?_cons_zero, List.getElem?_cons_succ, List.drop_zero, List.drop_succ_cons, loadFrom_cell, loadFrom_agg, List.length_cons, List.length_nil, Nat.reduceAdd, Nat.reduceLeDiff, List.take_succ_cons, List.take_zero, List.take_nil])
  · have e : frFields f = (f, false) := by
      simp only [decide_eq_true_eq, decide_eq_false_iff_not] at *
      rw [frFields]
      simp only [*, if_true, if_false, not_false_eq_true, reduceIte, Int.reduceEq]
    rw [e]
    (refine Rt_pure ?_ rfl; simp only [retO, retO1, retOs, S, get_cons, Nat.reduceEqDiff, reduceIte, obj, getO_cons_zero, getO_cons_succ, List.getElem?_cons_zero, List.getElem?_cons_succ, List.drop_zero, List.drop_succ_cons, loadFrom_cell, loadFrom_agg, List.length_cons, List.length_nil, Nat.reduceAdd, Nat.reduceLeDiff, List.take_succ_cons, List.take_zero, List.take_nil])
theorem c330_ok {f_kind : Int} {f_src : Int} {f_tgt : Int} {f_list : Int} {f_seq : Int} {f_flow : Int} {f_num : Int} {f_err : Int} {f_slot : Int} {f_rank : Int} {f_epoch : Int} {f_data : ByteArray}  : ACalls prog 330 [.agg [.int .i64 f_kind, .int .i64 f_src, .int .i64 f_tgt, .int .i64 f_list, .int .i64 f_seq, .int .i64 f_flow, .int .i64 f_num, .int .i64 f_err, .int .i64 f_slot, .int .i64 f_rank, .int .i64 f_epoch, .str f_data]] [] (.tup [.agg (frFields (⟨f_kind, f_src, f_tgt, f_list, f_seq, f_flow, f_num, f_err, f_slot, f_rank, f_epoch, f_data⟩ : Sp.Frame)).1.enc, .bool (frFields (⟨f_kind, f_src, f_tgt, f_list, f_seq, f_flow, f_num, f_err, f_slot, f_rank, f_epoch, f_data⟩ : Sp.Frame)).2]) [] := c330_pf (⟨f_kind, f_src, f_tgt, f_list, f_seq, f_flow, f_num, f_err, f_slot, f_rank, f_epoch, f_data⟩ : Sp.Frame) 

theorem bytes_mk : ByteArray.mk #[] = ByteArray.empty := rfl
theorem frErr_fields (f : Sp.Frame) : frErr f = if ((frFields f).2 && decide ((frFields f).1 = (⟨f.kind, f.src, f.tgt, f.list, f.seq, 0, 0, 0, 0, 0, 0, ByteArray.mk #[]⟩ : Sp.Frame)) && wi f.src 31 && wi f.list 255 && wi f.seq 255) = true then 0 else 1 := by
  rcases f with ⟨kind, src, tgt, list, seq, flow, num, err, slot, rank, epoch, data⟩
  simp only [frErr, frFields, bytes_mk]
  by_cases h1 : kind = 1
  · simp only [h1, if_true, Sp.Frame.mk.injEq]; congr 1; simp; grind
  · by_cases h2 : kind = 2
    · simp only [h2, if_true, Sp.Frame.mk.injEq, Int.reduceEq, if_false]; congr 1; simp; grind
    · by_cases h3 : kind = 3
      · simp only [h3, if_true, Sp.Frame.mk.injEq, Int.reduceEq, if_false]; congr 1; simp; grind
      · by_cases h4 : kind = 4
        · simp only [h4, if_true, Sp.Frame.mk.injEq, Int.reduceEq, if_false]; congr 1; simp; grind
        · simp [h1, h2, h3, h4]
theorem c227_pf (f : Sp.Frame)  : ACalls prog 227 [.agg [.int .i64 f.kind, .int .i64 f.src, .int .i64 f.tgt, .int .i64 f.list, .int .i64 f.seq, .int .i64 f.flow, .int .i64 f.num, .int .i64 f.err, .int .i64 f.slot, .int .i64 f.rank, .int .i64 f.epoch, .str f.data]] [] (.int .i64 (frErr f)) [] := by
  refine calls_of hmx func227 (by kernel_rfl) (c := f227.body.getD .skip) rfl e227 (rs := [(.t 2)]) (by kernel_rfl) (by simp [ntmps227]) ?_
  simp only [c227, argS]
  simp only [go_sem, seval]
  repeat' first | refine CX_pure c330_ok rfl rfl rfl rfl ?_ | refine CX_pure c310_ok rfl rfl rfl rfl ?_ | refine GX_call (fun _ => c330_ok) (by rfl) (by intro h; simp only [h]; rfl) (by rfl) (by rfl) ?_ | refine GX_call (fun _ => c310_ok) (by rfl) (by intro h; simp only [h]; rfl) (by rfl) (by rfl) ?_ | (with_reducible intro h; try simp only [h]) | (with_reducible refine And.intro ?_ ?_) | (change chk _ _ = true; rfl) | simp only [go_sem, seval, Vc_bool] | refine (GX_split rfl).2 ?_
  · have e : frErr f = 1 := by
      rw [frErr_fields, if_neg]
      intro hc
      revert h hc
      generalize frFields f = g
      rcases g with ⟨⟨a1, a2, a3, a4, a5, a6, a7, a8, a9, a10, a11, a12⟩, b⟩
      simp only [Sp.Frame.mk.injEq, Bool.and_eq_true, decide_eq_true_eq, Bool.or_eq_true, Bool.not_eq_true', Bool.and_eq_false_iff, decide_eq_false_iff_not]
      grind
    rw [e]
    (refine Rt_pure ?_ rfl; simp only [retO, retO1, retOs, S, get_cons, Nat.reduceEqDiff, reduceIte, obj, getO_cons_zero, getO_cons_succ, List.getElem?_cons_zero, List.getElem?_cons_succ, List.drop_zero, List.drop_succ_cons, loadFrom_cell, loadFrom_agg, List.length_cons, List.length_nil, Nat.reduceAdd, Nat.reduceLeDiff, List.take_succ_cons, List.take_zero, List.take_nil])
  · have e : frErr f = 0 := by
      rw [frErr_fields, if_pos]
      revert h
      generalize frFields f = g
      rcases g with ⟨⟨a1, a2, a3, a4, a5, a6, a7, a8, a9, a10, a11, a12⟩, b⟩
      simp only [Sp.Frame.mk.injEq, Bool.and_eq_true, decide_eq_true_eq, Bool.or_eq_false_iff, Bool.not_eq_false']
      grind
    rw [e]
    (refine Rt_pure ?_ rfl; simp only [retO, retO1, retOs, S, get_cons, Nat.reduceEqDiff, reduceIte, obj, getO_cons_zero, getO_cons_succ, List.getElem?_cons_zero, List.getElem?_cons_succ, List.drop_zero, List.drop_succ_cons, loadFrom_cell, loadFrom_agg, List.length_cons, List.length_nil, Nat.reduceAdd, Nat.reduceLeDiff, List.take_succ_cons, List.take_zero, List.take_nil])
theorem c227_ok {f_kind : Int} {f_src : Int} {f_tgt : Int} {f_list : Int} {f_seq : Int} {f_flow : Int} {f_num : Int} {f_err : Int} {f_slot : Int} {f_rank : Int} {f_epoch : Int} {f_data : ByteArray}  : ACalls prog 227 [.agg [.int .i64 f_kind, .int .i64 f_src, .int .i64 f_tgt, .int .i64 f_list, .int .i64 f_seq, .int .i64 f_flow, .int .i64 f_num, .int .i64 f_err, .int .i64 f_slot, .int .i64 f_rank, .int .i64 f_epoch, .str f_data]] [] (.int .i64 (frErr (⟨f_kind, f_src, f_tgt, f_list, f_seq, f_flow, f_num, f_err, f_slot, f_rank, f_epoch, f_data⟩ : Sp.Frame))) [] := c227_pf (⟨f_kind, f_src, f_tgt, f_list, f_seq, f_flow, f_num, f_err, f_slot, f_rank, f_epoch, f_data⟩ : Sp.Frame) 

theorem c210_pf (f : Sp.Frame) (node : Int)  : ACalls prog 210 [.agg [.int .i64 f.kind, .int .i64 f.src, .int .i64 f.tgt, .int .i64 f.list, .int .i64 f.seq, .int .i64 f.flow, .int .i64 f.num, .int .i64 f.err, .int .i64 f.slot, .int .i64 f.rank, .int .i64 f.epoch, .str f.data], .int .i64 node] [] (.bool (frFor f node)) [] := by
  refine calls_of hmx func210 (by kernel_rfl) (c := f210.body.getD .skip) rfl e210 (rs := [(.t 4)]) (by kernel_rfl) (by simp [ntmps210]) ?_
  simp only [c210, argS]
  simp only [go_sem, seval]
  repeat' first | (refine Rt_pure ?_ rfl; simp only [retO, retO1, retOs, S, get_cons, Nat.reduceEqDiff, reduceIte, obj, getO_cons_zero, getO_cons_succ, List.getElem?_cons_zero, List.getElem?_cons_succ, List.drop_zero, List.drop_succ_cons, loadFrom_cell, loadFrom_agg, List.length_cons, List.length_nil, Nat.reduceAdd, Nat.reduceLeDiff, List.take_succ_cons, List.take_zero, List.take_nil]) | refine CX_pure c227_ok rfl rfl rfl rfl ?_ | refine CX_pure c310_ok rfl rfl rfl rfl ?_ | refine GX_call (fun _ => c227_ok) (by rfl) (by intro h; simp only [h]; rfl) (by rfl) (by rfl) ?_ | refine GX_call (fun _ => c310_ok) (by rfl) (by intro h; simp only [h]; rfl) (by rfl) (by rfl) ?_ | (with_reducible intro h; try simp only [h]) | (with_reducible refine And.intro ?_ ?_) | (change chk _ _ = true; rfl) | simp only [go_sem, seval, Vc_bool] | refine (GX_split rfl).2 ?_
  all_goals simp [frFor, Bool.and_assoc]
theorem c210_ok {f_kind : Int} {f_src : Int} {f_tgt : Int} {f_list : Int} {f_seq : Int} {f_flow : Int} {f_num : Int} {f_err : Int} {f_slot : Int} {f_rank : Int} {f_epoch : Int} {f_data : ByteArray} {node : Int}  : ACalls prog 210 [.agg [.int .i64 f_kind, .int .i64 f_src, .int .i64 f_tgt, .int .i64 f_list, .int .i64 f_seq, .int .i64 f_flow, .int .i64 f_num, .int .i64 f_err, .int .i64 f_slot, .int .i64 f_rank, .int .i64 f_epoch, .str f_data], .int .i64 node] [] (.bool (frFor (⟨f_kind, f_src, f_tgt, f_list, f_seq, f_flow, f_num, f_err, f_slot, f_rank, f_epoch, f_data⟩ : Sp.Frame) node)) [] := c210_pf (⟨f_kind, f_src, f_tgt, f_list, f_seq, f_flow, f_num, f_err, f_slot, f_rank, f_epoch, f_data⟩ : Sp.Frame) node 


def c311L1 : SC := (.seq (.reg [(.bin 9 .lss (.t 8) (.t 7))]) (.seq (.cond (.t 9) .skip (.exit 0)) (.seq (.block 1 (.seq (.reg [(.mv 10 (.t 8)), (.mv 5 (.t 10))]) (.seq (.regD [(.ld 11 (.t 3) true 2), (.mv 12 (.t 0)), (.mv 13 (.t 5)), (.ia 14 (.t 12) (.t 13) 2), (.ld 15 (.t 14) true 2), (.binA 16 false [1, 1] (.t 11) (.t 15))] []) (.cond (.t 16) (.seq (.reg [(.mv 17 (.t 5)), (.mv 4 (.t 17))]) .ret) .skip)))) (.reg [(.bin 18 .add (.t 8) (.c (.int .i64 1))), (.mv 8 (.t 18))]))))
def c311 : SC := (.seq (.reg [(.box 3 160 (.t 1)), (.mv 4 (.c (.int .i64 0)))]) (.seq (.seq (.reg [(.mv 6 (.t 0)), (.len 7 false (.t 6)), (.mv 8 (.c (.int .i64 0)))]) (.block 0 (.loop c311L1))) (.seq (.reg [(.mv 4 (.c (.int .i64 (-1))))]) .ret)))
theorem e311 : compC prog f311.ntmps (f311.body.getD .skip) = c311 := by kernel_rfl
def c211 : SC := (.seq (.reg [(.box 3 160 (.t 1)), (.mv 4 (.c (.bool false)))]) (.seq (.reg [(.mv 5 (.t 0)), (.ld 6 (.t 3) true 2), (.call (some 7) (.c (.func 311 [] [])) [(.t 5), (.t 6)]), (.bin 8 .geq (.t 7) (.c (.int .i64 0))), (.mv 4 (.t 8))]) .ret))
theorem e211 : compC prog f211.ntmps (f211.body.getD .skip) = c211 := by kernel_rfl
def c213 : SC := (.seq (.reg [(.box 2 160 (.t 0)), (.box 3 160 (.t 1)), (.mv 4 (.c (.int .i64 0)))]) (.seq (.reg [(.fa 5 (.t 2) 0), (.ld 6 (.t 5) false 1), (.fa 7 (.t 3) 0), (.ld 8 (.t 7) false 1), (.call (some 9) (.c (.func 151 [] [])) [(.t 6), (.t 8)]), (.mv 4 (.t 9))]) .ret))
theorem e213 : compC prog f213.ntmps (f213.body.getD .skip) = c213 := by kernel_rfl
def c212L1 : SC := (.seq (.seq (.reg [(.mv 15 (.t 9)), (.mv 16 (.t 10)), (.bin 17 .lss (.t 15) (.t 16))]) (.cond (.t 17) .skip (.exit 0))) (.block 1 (.seq (.reg [(.mv 18 (.t 9)), (.mv 19 (.t 10)), (.bin 20 .add (.t 18) (.t 19)), (.conv 21 .u64 (.t 20)), (.bin 22 .shr (.t 21) (.c (.int .u64 1))), (.conv 23 .i64 (.t 22)), (.mv 11 (.t 23))]) (.seq (.regD [(.mv 24 (.t 2)), (.mv 25 (.t 0)), (.mv 26 (.t 11)), (.ia 27 (.t 25) (.t 26) 2), (.ld 28 (.t 27) true 2), (.ld 29 (.t 4) true 2), (.call (some 30) (.t 24) [(.t 28), (.t 29)]), (.bin 31 .lss (.t 30) (.c (.int .i64 0)))] []) (.cond (.t 31) (.reg [(.mv 32 (.t 11)), (.bin 33 .add (.t 32) (.c (.int .i64 1))), (.mv 9 (.t 33))]) (.reg [(.mv 34 (.t 11)), (.mv 10 (.t 34))]))))))
def c212 : SC := (.seq (.reg [(.box 4 160 (.t 1)), (.mv 6 (.c (.int .i64 0))), (.mv 7 (.c (.bool false)))]) (.seq (.reg [(.mv 12 (.t 0)), (.len 13 false (.t 12)), (.mv 8 (.t 13))]) (.seq (.reg [(.mv 14 (.t 8)), (.mv 9 (.c (.int .i64 0))), (.mv 10 (.t 14))]) (.seq (.block 0 (.loop c212L1)) (.seq (.regD [(.mv 35 (.t 9)), (.mv 36 (.t 9)), (.mv 37 (.t 8)), (.bin 38 .lss (.t 36) (.t 37)), (.mv 39 (.t 38)), (.g 39 true (some 40) (.mv 40 (.t 2))), (.g 39 true (some 41) (.mv 41 (.t 0))), (.g 39 true (some 42) (.mv 42 (.t 9))), (.g 39 true (some 43) (.ia 43 (.t 41) (.t 42) 2)), (.g 39 true (some 44) (.ld 44 (.t 43) true 2)), (.g 39 true (some 45) (.ld 45 (.t 4) true 2)), (.g 39 true (some 46) (.call (some 46) (.t 40) [(.t 44), (.t 45)])), (.g 39 true (some 47) (.bin 47 .eql (.t 46) (.c (.int .i64 0)))), (.pick 48 (.t 39) (.t 47) (.c (.bool false))), (.mv 6 (.t 35)), (.mv 7 (.t 48))] []) .ret)))))
theorem e212 : compC prog f212.ntmps (f212.body.getD .skip) = c212 := by kernel_rfl
theorem seen_eq (a b : Seen) : (decide (a.node = b.node) && decide (a.seq = b.seq)) = decide (a = b) := by
  rcases a with ⟨a1, a2⟩; rcases b with ⟨b1, b2⟩
  simp [Seen.mk.injEq]
theorem c213_pf (a : Seen) (b : Seen)  : ACalls prog 213 [.agg [.int .i64 a.node, .int .i64 a.seq], .agg [.int .i64 b.node, .int .i64 b.seq]] [] (.int .i64 (cmp a.node b.node)) [] := by
  refine calls_of hmx func213 (by kernel_rfl) (c := f213.body.getD .skip) rfl e213 (rs := [(.t 4)]) (by kernel_rfl) (by simp [ntmps213]) ?_
  simp only [c213, argS]
  simp only [go_sem, seval]
  repeat' first | (refine Rt_pure ?_ rfl; simp only [retO, retO1, retOs, S, get_cons, Nat.reduceEqDiff, reduceIte, obj, getO_cons_zero, getO_cons_succ, List.getElem?_cons_zero, List.getElem?_cons_succ, List.drop_zero, List.drop_succ_cons, loadFrom_cell, loadFrom_agg, List.length_cons, List.length_nil, Nat.reduceAdd, Nat.reduceLeDiff, List.take_succ_cons, List.take_zero, List.take_nil]) | refine CX_pure c151_ok rfl rfl rfl rfl ?_ | refine GX_call (fun _ => c151_ok) (by rfl) (by intro h; simp only [h]; rfl) (by rfl) (by rfl) ?_ | (with_reducible intro h; try simp only [h]) | (with_reducible refine And.intro ?_ ?_) | (change chk _ _ = true; rfl) | simp only [go_sem, seval, Vc_bool] | refine (GX_split rfl).2 ?_
theorem c213_ok {a_node : Int} {a_seq : Int} {b_node : Int} {b_seq : Int}  : ACalls prog 213 [.agg [.int .i64 a_node, .int .i64 a_seq], .agg [.int .i64 b_node, .int .i64 b_seq]] [] (.int .i64 (cmp a_node b_node)) [] := c213_pf (⟨a_node, a_seq⟩ : Seen) (⟨b_node, b_seq⟩ : Seen) 

section
variable {xs : List Seen} {t : Seen}
end
/-- The code of slices.Insert. -/
def cIns (t k bytes : Nat) (zs : List AVal) (fo fr : Nat) : SC := (.seq (.reg [(.mv 6 (.c .nil))]) (.seq (.reg [(.mv 10 (.t 0)), (.mv 11 (.t 1)), (.slc 12 k (.t 10) (some (.t 11)) none none)]) (.seq (.reg [(.mv 13 (.t 2)), (.len 14 false (.t 13)), (.mv 7 (.t 14))]) (.seq (.seq (.reg [(.mv 15 (.t 7)), (.bin 16 .eql (.t 15) (.c (.int .i64 0)))]) (.cond (.t 16) (.seq (.reg [(.mv 17 (.t 0)), (.mv 6 (.t 17))]) .ret) .skip)) (.seq (.reg [(.mv 18 (.t 0)), (.len 19 false (.t 18)), (.mv 8 (.t 19))]) (.seq (.seq (.reg [(.mv 20 (.t 1)), (.mv 21 (.t 8)), (.bin 22 .eql (.t 20) (.t 21))]) (.cond (.t 22) (.seq (.reg [(.mv 23 (.t 0)), (.mv 24 (.t 2)), (.app 25 t k bytes (.t 23) (.t 24)), (.mv 6 (.t 25))]) .ret) .skip)) (.seq (.seq (.reg [(.mv 26 (.t 8)), (.mv 27 (.t 7)), (.bin 28 .add (.t 26) (.t 27)), (.mv 29 (.t 0)), (.cap 30 (.t 29)), (.bin 31 .gtr (.t 28) (.t 30))]) (.cond (.t 31) (.seq (.reg [(.mv 32 (.t 0)), (.mv 33 (.t 1)), (.slc 34 k (.t 32) none (some (.t 33)) none), (.mv 35 (.t 8)), (.mv 36 (.t 7)), (.bin 37 .add (.t 35) (.t 36)), (.mv 38 (.t 1)), (.bin 39 .sub (.t 37) (.t 38)), (.apz 40 t k bytes zs (.t 34) (.t 39)), (.mv 9 (.t 40))]) (.seq (.reg [(.mv 41 (.t 9)), (.mv 42 (.t 1)), (.slc 43 k (.t 41) (some (.t 42)) none none), (.mv 44 (.t 2)), (.cpy (some 45) k (.t 43) (.t 44))]) (.seq (.regD [(.mv 46 (.t 9)), (.mv 47 (.t 1)), (.mv 48 (.t 7)), (.bin 49 .add (.t 47) (.t 48)), (.slc 50 k (.t 46) (some (.t 49)) none none), (.mv 51 (.t 0)), (.mv 52 (.t 1)), (.slc 53 k (.t 51) (some (.t 52)) none none), (.cpy (some 54) k (.t 50) (.t 53))] []) (.seq (.reg [(.mv 55 (.t 9)), (.mv 6 (.t 55))]) .ret)))) .skip)) (.seq (.reg [(.mv 56 (.t 0)), (.mv 57 (.t 8)), (.mv 58 (.t 7)), (.bin 59 .add (.t 57) (.t 58)), (.slc 60 k (.t 56) none (some (.t 59)) none), (.mv 0 (.t 60))]) (.seq (.seq (.reg [(.mv 61 (.t 2)), (.mv 62 (.t 0)), (.mv 63 (.t 1)), (.mv 64 (.t 7)), (.bin 65 .add (.t 63) (.t 64)), (.slc 66 k (.t 62) (some (.t 65)) none none), (.call (some 67) (.c (.func fo [] [])) [(.t 61), (.t 66)]), (.not 68 (.t 67))]) (.cond (.t 68) (.seq (.regD [(.mv 69 (.t 0)), (.mv 70 (.t 1)), (.mv 71 (.t 7)), (.bin 72 .add (.t 70) (.t 71)), (.slc 73 k (.t 69) (some (.t 72)) none none), (.mv 74 (.t 0)), (.mv 75 (.t 1)), (.slc 76 k (.t 74) (some (.t 75)) none none), (.cpy (some 77) k (.t 73) (.t 76))] []) (.seq (.reg [(.mv 78 (.t 0)), (.mv 79 (.t 1)), (.slc 80 k (.t 78) (some (.t 79)) none none), (.mv 81 (.t 2)), (.cpy (some 82) k (.t 80) (.t 81))]) (.seq (.reg [(.mv 83 (.t 0)), (.mv 6 (.t 83))]) .ret))) .skip)) (.seq (.reg [(.mv 84 (.t 0)), (.mv 85 (.t 8)), (.slc 86 k (.t 84) (some (.t 85)) none none), (.mv 87 (.t 2)), (.cpy (some 88) k (.t 86) (.t 87))]) (.seq (.reg [(.mv 89 (.t 0)), (.mv 90 (.t 1)), (.slc 91 k (.t 89) (some (.t 90)) none none), (.mv 92 (.t 7)), (.call (some 93) (.c (.func fr [] [])) [(.t 91), (.t 92)])]) (.seq (.reg [(.mv 94 (.t 0)), (.mv 6 (.t 94))]) .ret))))))))))))
theorem e268 : compC prog f268.ntmps (f268.body.getD .skip) = cIns 104 6 56 [(.int .i64 0), (.int .i64 0), (.int .i64 0), (.int .i64 0), (.int .i64 0), (.str (ByteArray.mk #[]))] 350 351 := by kernel_rfl
theorem e214 : compC prog f214.ntmps (f214.body.getD .skip) = cIns 160 2 16 [(.int .i64 0), (.int .i64 0)] 312 313 := by kernel_rfl
theorem clo_ltv {c : AVal} (h : clo c = true) : ltv 0 c = true := by cases c <;> first | rfl | cases h
theorem clo_ltL : ∀ {cs : List AVal}, (∀ c ∈ cs, clo c = true) → ltL 0 cs = true
  | [], _ => rfl
  | c :: cs, h => by
    simp only [ltL, Bool.and_eq_true]
    exact ⟨clo_ltv (h c (by simp)), clo_ltL fun c hc => h c (by simp [hc])⟩
theorem clo_lt {es : List (List AVal)} (h : cloE es) : es.all (ltL 0) = true := List.all_eq_true.2 fun e he => clo_ltL (h e he)
theorem cloE_ins {xs : List (List AVal)} {v : List AVal} {i : Nat} (hc : cloE xs) (hcv : cloE [v]) : cloE (xs.take i ++ v :: xs.drop i) := by
  intro e he
  rcases List.mem_append.1 he with h | h
  · exact hc e (List.mem_of_mem_take h)
  · rcases List.mem_cons.1 h with h | h
    · exact hcv e (by simp [h])
    · exact hc e (List.mem_of_mem_drop h)
theorem lt_ins {v : List AVal} {k : Nat} {t : TypeId} {fv : Bool} (hcv : cloE [v]) : ([AObj.dead, AObj.cells 0 k t fv [v]] : Heap).all (ltO 2) = true := by
  have := clo_lt hcv
  simp only [List.all_cons, List.all_nil, ltO, Bool.and_true, Bool.true_and] at this ⊢
  exact ltL_mono (Nat.zero_le _) v this
theorem ins_V {t k bytes fo fr q i : Nat} {zs v : List AVal} {fv : Bool} {xs : List (List AVal)} (hk : 0 < k) (hzs : zs.length = k) (hv : v.length = k) (hc : cloE xs) (hcv : cloE [v]) (hb : (xs.length + 1) * bytes ≤ 140737488355328) (hn : xs.length + 1 ≤ 140737488355328) (hi : i ≤ xs.length)
    (hov : ∀ {qA qB oB lB : Nat} {fa fb : Bool} {v : List AVal} {es : List (List AVal)}, 1 ≤ lB → ACalls prog fo [.row 0 qA 0 1, .row 1 qB oB lB] [.cells qA k t fa [v], .cells qB k t fb es] (.bool false) [.cells qA k t fa [v], .cells qB k t fb es]) :
    V prog 95 2 (Ret [.t 6] 2 (.sl k (xs.take i ++ v :: xs.drop i)) [.dead, .cells 0 k t fv [v]]) [.code (cIns t k bytes zs fo fr)] (argS [.row 0 q 0 xs.length, .int .i64 i, .row 1 0 0 1] 0) [.cells q k t false xs, .cells 0 k t fv [v]] := by
  simp only [cIns, argS]
  have n1 : (xs.length : Int).toNat = xs.length := by omega
  have i1 : (i : Int).toNat = i := by omega
  simp only [go_sem, Nat.reduceEqDiff, Nat.reduceAdd, Nat.reduceLeDiff, Nat.reduceLT, reduceIte, Int.reduceEq, Int.reduceLE, Int.reduceLT, Int.reduceNeg, Int.reduceToNat, Int.reduceAdd, Int.reduceSub, Int.reduceMul, Int.reduceNegSucc, List.reduceReplicate, reduceCtorEq, n1, i1, Nat.zero_add]
  refine ⟨⟨by omega, by omega, by omega⟩, ?_⟩
  rcases Nat.lt_or_ge i xs.length with hlt | hge
  · have d1 : decide ((i : Int) = (xs.length : Int)) = false := by simp; omega
    have w1 : IntKind.i64.wrap ((xs.length : Int) + 1) = ((xs.length + 1 : Nat) : Int) := by rw [wrap_ok (by omega) (by omega)]; omega
    simp only [go_sem, Nat.reduceEqDiff, Nat.reduceAdd, Nat.reduceLeDiff, Nat.reduceLT, reduceIte, Int.reduceEq, Int.reduceLE, Int.reduceLT, Int.reduceNeg, Int.reduceToNat, Int.reduceAdd, Int.reduceSub, Int.reduceMul, Int.reduceNegSucc, List.reduceReplicate, reduceCtorEq, d1]
    rw [CPX_row rfl]
    intro m _
    have hl : (xs ++ List.replicate m (List.replicate k AVal.undef)).length = xs.length + m := by simp
    have w2 : IntKind.i64.wrap (((xs.length + 1 : Nat) : Int) - (i : Int)) = ((xs.length + 1 - i : Nat) : Int) := by rw [wrap_ok (by omega) (by omega)]; omega
    have w3 : IntKind.i64.wrap ((i : Int) + 1) = ((i + 1 : Nat) : Int) := by rw [wrap_ok (by omega) (by omega)]; omega
    have c1 : ((xs.length + 1 - i : Nat) : Int).toNat = xs.length + 1 - i := by omega
    have c2 : ((xs.length + 1 : Nat) : Int).toNat = xs.length + 1 := by omega
    have c3 : ((i + 1 : Nat) : Int).toNat = i + 1 := by omega
    have r1 : i + (xs.length + 1 - i) = xs.length + 1 := by omega
    rcases Nat.eq_zero_or_pos m with hm | hm
    · subst hm
      have d2 : decide ((xs.length : Int) + 0 - 0 < ((xs.length + 1 : Nat) : Int)) = true := by simp; omega
      have r2 : ¬ i = xs.length := by omega
      have r3 : ¬ xs.length + 1 ≤ xs.length := by omega
      have m1 : min 1 (xs.length + 1 - i) = 1 := by omega
      have t1 : List.take 1 [v] = [v] := rfl
      have t2 : List.take (xs.length - i) (List.drop i xs) = List.drop i xs := List.take_of_length_le (by simp)
      have t3 : (List.drop i xs).length = xs.length - i := by simp
      have m2 : min (xs.length - i) (xs.length + 1 - (i + 1)) = xs.length - i := by omega
      have t4 : List.take (xs.length - i) (List.drop i xs) = List.drop i xs := List.take_of_length_le (by simp)
      have r4 : i + 1 + (xs.length - i) = xs.length + 1 := by omega
      have hlA : (List.take i xs).length = i := by simp; omega
      have hA1 : (List.take i xs ++ List.replicate (xs.length + 1 - i) zs).length = xs.length + 1 := by rw [List.length_append, hlA, List.length_replicate]; omega
      have hA2 : List.take i (List.take i xs ++ List.replicate (xs.length + 1 - i) zs) = List.take i xs := by
        have h := List.take_left (l₁ := List.take i xs) (l₂ := List.replicate (xs.length + 1 - i) zs)
        rwa [hlA] at h
      have hA3 : List.drop (i + 1) (List.take i xs ++ List.replicate (xs.length + 1 - i) zs) = List.replicate (xs.length - i) zs := by
        have h1 : List.drop (i + 1) (List.take i xs) = [] := List.drop_eq_nil_of_le (by omega)
        rw [List.drop_append, h1, hlA, List.drop_replicate, show xs.length + 1 - i - (i + 1 - i) = xs.length - i by omega]; rfl
      have hB : List.take i (List.take i xs ++ List.replicate (xs.length + 1 - i) zs) ++ [v] ++ List.drop (i + 1) (List.take i xs ++ List.replicate (xs.length + 1 - i) zs) = List.take i xs ++ v :: List.replicate (xs.length - i) zs := by
        rw [hA2, hA3, List.append_assoc]; rfl
      have hl2 : (List.take i xs ++ v :: List.replicate (xs.length - i) zs).length = xs.length + 1 := by
        rw [List.length_append, hlA, List.length_cons, List.length_replicate]; omega
      have hC : List.take (i + 1) (List.take i xs ++ v :: List.replicate (xs.length - i) zs) ++ List.drop i xs ++ List.drop (xs.length + 1) (List.take i xs ++ v :: List.replicate (xs.length - i) zs) = List.take i xs ++ v :: List.drop i xs := by
        have h1 : List.drop (xs.length + 1) (List.take i xs ++ v :: List.replicate (xs.length - i) zs) = [] := List.drop_eq_nil_of_le (by omega)
        have h2 : List.take (i + 1) (List.take i xs) = List.take i xs := List.take_of_length_le (by omega)
        rw [h1, List.append_nil, List.take_append, h2, hlA, show i + 1 - i = 1 by omega]
        simp
      have hl3 : (List.take i xs ++ v :: List.drop i xs).length = xs.length + 1 := by rw [List.length_append, hlA, List.length_cons, List.length_drop]; omega
      simp only [go_sem, Nat.reduceEqDiff, Nat.reduceAdd, Nat.reduceLeDiff, Nat.reduceLT, reduceIte, Int.reduceEq, Int.reduceLE, Int.reduceLT, Int.reduceNeg, Int.reduceToNat, Int.reduceAdd, Int.reduceSub, Int.reduceMul, Int.reduceNegSucc, List.reduceReplicate, reduceCtorEq, hl, w1, w2, w3, n1, i1, c1, c2, c3, d2, r1, r2, r3, List.replicate_zero, List.append_nil, Nat.sub_zero, List.length_replicate, m1, t1, t2, t3, m2, r4, hB, hC]
      refine ⟨⟨by omega, by omega⟩, ⟨by omega, by omega, hzs⟩, ⟨by omega, hb⟩, ⟨by omega, by omega, by omega⟩, ⟨by omega, by omega, by omega⟩, ⟨by omega, by omega, by omega⟩, ?_⟩
      refine Rt.gs (Gs_freeze 2 (s' := [(6, .sl k (xs.take i ++ v :: xs.drop i))]) (H' := [.dead, .cells 0 k t fv [v], .dead]) rfl ?_ ?_) (Rt_T (H := [_, _]) _ (by rfl) (by rfl) ?_ (Nat.le_refl _))
      · refine List.forall_mem_cons.2 ⟨?_, by simp⟩
        refine Fz.row 0 (xs.length + 1) ?_ ?_
        · rw [List.drop_zero]; exact List.take_of_length_le (by omega)
        · exact cloE_ins hc hcv
      · repeat' (first | exact FzL.nil | refine FzL.cons ?_ ?_ | exact Fz.wk (Wk.refl _) | exact Fz.wk (Wk.nil _) | exact Fz.wk (Wk.emp _) | exact Fz.row0 _ _ _ _ | exact FzH.nil _ | exact FzO.refl _ | refine FzO.one ?_ | refine FzH.cons (by decide) ?_ ?_ | refine FzH.this rfl ?_ | exact FzO.dead (by simp) | (simp only [List.forall_mem_cons, List.not_mem_nil, false_implies, implies_true, and_true, go_sem, Nat.reduceEqDiff, Nat.reduceAdd, Nat.reduceLeDiff, Nat.reduceLT, reduceIte, Int.reduceEq, Int.reduceLE, Int.reduceLT, Int.reduceNeg, Int.reduceToNat, Int.reduceAdd, Int.reduceSub, Int.reduceMul, Int.reduceNegSucc, List.reduceReplicate, reduceCtorEq]) | refine And.intro ?_ ?_)
      · exact lt_ins hcv
    · have d2 : decide ((xs.length : Int) + (m : Int) - 0 < ((xs.length + 1 : Nat) : Int)) = false := by simp; omega
      have r5 : ((xs.length + 1 : Nat) : Int) ≤ ((xs.length + m : Nat) : Int) := by omega
      simp only [go_sem, Nat.reduceEqDiff, Nat.reduceAdd, Nat.reduceLeDiff, Nat.reduceLT, reduceIte, Int.reduceEq, Int.reduceLE, Int.reduceLT, Int.reduceNeg, Int.reduceToNat, Int.reduceAdd, Int.reduceSub, Int.reduceMul, Int.reduceNegSucc, List.reduceReplicate, reduceCtorEq, hl, w1, w2, w3, n1, i1, c1, c2, c3, d2, r1, Nat.sub_zero]
      refine ⟨⟨by omega, by omega⟩, ⟨by omega, by omega, by omega⟩, ?_⟩
      have lt0 : (xs ++ List.replicate m (List.replicate k AVal.undef)).all (ltL 0) = true := by
        rw [List.all_append, clo_lt hc, Bool.true_and]
        refine List.all_eq_true.2 fun e he => ?_
        rw [List.eq_of_mem_replicate he]
        have : ∀ k, ltL 0 (List.replicate k AVal.undef) = true := by intro k; induction k <;> simp_all [ltL, ltv, List.replicate_succ]
        exact this k
      have lv0 : ([v] : List (List AVal)).all (ltL 0) = true := clo_lt hcv
      have lo0 : ∀ {q : Nat} {f : Bool}, ltO 0 (.cells q k t f (xs ++ List.replicate m (List.replicate k AVal.undef))) = true := lt0
      have lo1 : ∀ {q : Nat} {f : Bool}, ltO 0 (.cells q k t f [v]) = true := lv0
      refine CX_rd [1, 0] (hov (qA := 0) (qB := q) (oB := i + 1) (lB := xs.length + 1 - (i + 1)) (fa := fv) (fb := true) (v := v) (es := xs ++ List.replicate m (List.replicate k AVal.undef)) (by omega)) (by rfl) (by rfl) (by rfl) ?_ (by rfl) (by decide) (by rfl) ?_ (by rfl) ?_
      · rw [List.all_cons, List.all_cons, List.all_nil, ltO_mono (Nat.zero_le _) lo0, ltO_mono (Nat.zero_le _) lo1]; rfl
      · rw [List.map_cons, List.map_cons, List.map_nil, List.map_cons, List.map_cons, List.map_nil, renO_lt (m := 0) (fun id h => by omega) lo0, renO_lt (m := 0) (fun id h => by omega) lo1]; rfl
      have m1 : min 1 (xs.length + 1 - i) = 1 := by omega
      have t1 : List.take 1 [v] = [v] := rfl
      have hlA : (List.take i xs).length = i := by simp; omega
      have hU : (List.replicate m (List.replicate k AVal.undef)).length = m := List.length_replicate
      generalize List.replicate m (List.replicate k AVal.undef) = U at *
      have s2 : (List.take (xs.length + 1 - i) (List.drop i (xs ++ U))).length = xs.length + 1 - i := by rw [List.length_take, List.length_drop, hl]; omega
      have s3 : List.take (xs.length - i) (List.take (xs.length + 1 - i) (List.drop i (xs ++ U))) = List.drop i xs := by
        have h1 : (List.drop i xs).length = xs.length - i := List.length_drop
        have h2 := List.take_left (l₁ := List.drop i xs) (l₂ := U)
        rw [List.take_take, show min (xs.length - i) (xs.length + 1 - i) = xs.length - i by omega, List.drop_append, show i - xs.length = 0 by omega, List.drop_zero]
        rwa [h1] at h2
      have m3 : min (xs.length + 1 - i) (xs.length + 1 - (i + 1)) = xs.length - i := by omega
      have r4 : i + 1 + (xs.length - i) = xs.length + 1 := by omega
      have l1 : (List.take (i + 1) (xs ++ U)).length = i + 1 := by rw [List.length_take, hl]; omega
      have l2 : (List.take (i + 1) (xs ++ U) ++ List.drop i xs ++ List.drop (xs.length + 1) (xs ++ U)).length = xs.length + m := by
        rw [List.length_append, List.length_append, l1, List.length_drop, List.length_drop, hl]; omega
      simp only [go_sem, Nat.reduceEqDiff, Nat.reduceAdd, Nat.reduceLeDiff, Nat.reduceLT, reduceIte, Int.reduceEq, Int.reduceLE, Int.reduceLT, Int.reduceNeg, Int.reduceToNat, Int.reduceAdd, Int.reduceSub, Int.reduceMul, Int.reduceNegSucc, List.reduceReplicate, reduceCtorEq, hl, w1, w2, w3, n1, i1, c1, c2, c3, d2, r1, Nat.sub_zero, m1, t1, s2, m3, s3, r4, l2]
      refine ⟨⟨by omega, by omega, by omega⟩, ⟨by omega, by omega, by omega⟩, ⟨by omega, by omega, by omega⟩, ?_⟩
      refine Rt.gs (Gs_freeze 0 (s' := [(6, .sl k (xs.take i ++ v :: xs.drop i))]) (H' := [.dead, .cells 0 k t fv [v]]) rfl ?_ ?_) (Rt_all (by rfl) (by rfl) ?_ (Nat.le_refl _))
      · refine List.forall_mem_cons.2 ⟨?_, by simp⟩
        refine Fz.row 0 (xs.length + 1) ?_ (cloE_ins hc hcv)
        have e1 : List.take i (List.take (i + 1) (xs ++ U) ++ List.drop i xs ++ List.drop (xs.length + 1) (xs ++ U)) = List.take i xs := by
          rw [List.append_assoc, List.take_append_of_le_length (by omega), List.take_take, show min i (i + 1) = i by omega, List.take_append_of_le_length (by omega)]
        have e2 : List.drop (i + 1) (List.take (i + 1) (xs ++ U) ++ List.drop i xs ++ List.drop (xs.length + 1) (xs ++ U)) = List.drop i xs ++ List.drop (xs.length + 1) (xs ++ U) := by
          have h := List.drop_left (l₁ := List.take (i + 1) (xs ++ U)) (l₂ := List.drop i xs ++ List.drop (xs.length + 1) (xs ++ U))
          rw [l1] at h
          rw [List.append_assoc, h]
        rw [List.drop_zero, e1, e2]
        have h4 : (List.take i xs ++ [v] ++ List.drop i xs).length = xs.length + 1 := by rw [List.length_append, List.length_append, hlA, List.length_drop, List.length_singleton]; omega
        have h5 := List.take_left (l₁ := List.take i xs ++ [v] ++ List.drop i xs) (l₂ := List.drop (xs.length + 1) (xs ++ U))
        rw [h4] at h5
        rw [← List.append_assoc, h5, List.append_assoc]
        rfl
      · repeat' (first | exact FzL.nil | refine FzL.cons ?_ ?_ | exact Fz.wk (Wk.refl _) | exact Fz.wk (Wk.nil _) | exact Fz.wk (Wk.emp _) | exact Fz.row0 _ _ _ _ | exact FzH.nil _ | exact FzO.refl _ | refine FzO.one ?_ | refine FzH.cons (by decide) ?_ ?_ | refine FzH.this rfl ?_ | exact FzO.dead (by simp) | (simp only [List.forall_mem_cons, List.not_mem_nil, false_implies, implies_true, and_true, go_sem, Nat.reduceEqDiff, Nat.reduceAdd, Nat.reduceLeDiff, Nat.reduceLT, reduceIte, Int.reduceEq, Int.reduceLE, Int.reduceLT, Int.reduceNeg, Int.reduceToNat, Int.reduceAdd, Int.reduceSub, Int.reduceMul, Int.reduceNegSucc, List.reduceReplicate, reduceCtorEq]) | refine And.intro ?_ ?_)
      · exact lt_ins hcv
  · have d1 : decide ((i : Int) = (xs.length : Int)) = true := by simp; omega
    have hi2 : i = xs.length := by omega
    simp only [go_sem, Nat.reduceEqDiff, Nat.reduceAdd, Nat.reduceLeDiff, Nat.reduceLT, reduceIte, Int.reduceEq, Int.reduceLE, Int.reduceLT, Int.reduceNeg, Int.reduceToNat, Int.reduceAdd, Int.reduceSub, Int.reduceMul, Int.reduceNegSucc, List.reduceReplicate, reduceCtorEq, d1]
    refine ⟨hb, ?_⟩
    refine Rt.gs (Gs_freeze 0 (s' := [(6, .sl k (xs.take i ++ v :: xs.drop i))]) (H' := [.dead, .cells 0 k t fv [v]]) rfl ?_ ?_) (Rt_all (by rfl) (by rfl) ?_ (Nat.le_refl _))
    · refine List.forall_mem_cons.2 ⟨?_, by simp⟩
      refine Fz.row 0 (xs.length + 1) ?_ ?_
      · rw [List.drop_zero, hi2, List.take_length, List.drop_length, List.take_of_length_le (by simp)]
      · rw [hi2, List.take_length, List.drop_length]
        intro e he
        rcases List.mem_append.1 he with h | h
        · exact hc e h
        · exact hcv e h
    · repeat' (first | exact FzL.nil | refine FzL.cons ?_ ?_ | exact Fz.wk (Wk.refl _) | exact Fz.wk (Wk.nil _) | exact Fz.wk (Wk.emp _) | exact Fz.row0 _ _ _ _ | exact FzH.nil _ | exact FzO.refl _ | refine FzO.one ?_ | refine FzH.cons (by decide) ?_ ?_ | refine FzH.this rfl ?_ | exact FzO.dead (by simp) | (simp only [List.forall_mem_cons, List.not_mem_nil, false_implies, implies_true, and_true, go_sem, Nat.reduceEqDiff, Nat.reduceAdd, Nat.reduceLeDiff, Nat.reduceLT, reduceIte, Int.reduceEq, Int.reduceLE, Int.reduceLT, Int.reduceNeg, Int.reduceToNat, Int.reduceAdd, Int.reduceSub, Int.reduceMul, Int.reduceNegSucc, List.reduceReplicate, reduceCtorEq]) | refine And.intro ?_ ?_)
    · have := clo_lt hcv
      simp only [List.all_cons, List.all_nil, ltO, Bool.and_true, Bool.true_and] at this ⊢
      exact ltL_mono (Nat.zero_le _) v this

theorem clone_O {t k bytes : Nat} {zs : List AVal} {xs : List (List AVal)} (hk : 0 < k) (hzs : zs.length = k) (hc : xs.all (ltL 1) = true) (hb : xs.length * bytes ≤ 140737488355328) :
    V prog 8 0 (Ret [.t 2] 0 (.row 0 1 0 xs.length) [.cells 1 k t false xs]) [.code (cClone t k bytes zs)] (argS [.sl k xs] 0) [] := by
  cases xs with
  | nil =>
    simp only [cClone, argS]
    simp only [go_sem, seval, hk]
    intro b
    cases b
    · simp only [go_sem, seval, hk, Nat.zero_mul]
      exact Rt_all (by rfl) (by rfl) (by rfl) (Nat.zero_le _)
    · simp only [go_sem, seval]
      exact Rt.gs (Gs_virt 2 t false hk (by rfl)) (Rt_all (by rfl) (by rfl) (by rfl) (Nat.zero_le _))
  | cons x xs => exact clone_R hk hzs hc hb
theorem c260w_ok {xs : List Packet} (hb : xs.length * 56 ≤ 140737488355328) : ACalls prog 260 [.sl 6 (xs.map Packet.enc)] [] (.row 0 1 0 xs.length) [.cells 1 6 104 false (xs.map Packet.enc)] := by
  refine calls_of hmx func260 (by kernel_rfl) (c := f260.body.getD .skip) rfl e260 (rs := [.t 2]) (by kernel_rfl) (show (1:Nat) ≤ 8 by decide) ?_
  have h := clone_O (t := 104) (k := 6) (bytes := 56) (zs := [(.int .i64 0), (.int .i64 0), (.int .i64 0), (.int .i64 0), (.int .i64 0), (.str (ByteArray.mk #[]))]) (xs := xs.map Packet.enc) (by decide) rfl (lt_map fun _ => by rfl) (by simpa using hb)
  rw [List.length_map] at h
  exact h
theorem c261w_ok {xs : List Held} (hb : xs.length * 64 ≤ 140737488355328) : ACalls prog 261 [.sl 5 (xs.map Held.enc)] [] (.row 0 1 0 xs.length) [.cells 1 5 100 false (xs.map Held.enc)] := by
  refine calls_of hmx func261 (by kernel_rfl) (c := f261.body.getD .skip) rfl e261 (rs := [.t 2]) (by kernel_rfl) (show (1:Nat) ≤ 8 by decide) ?_
  have h := clone_O (t := 100) (k := 5) (bytes := 64) (zs := [(.int .i64 0), (.int .i64 0), (.int .i64 0), (.str (ByteArray.mk #[])), .nil]) (xs := xs.map Held.enc) (by decide) rfl (lt_map fun _ => by rfl) (by simpa using hb)
  rw [List.length_map] at h
  exact h
theorem c262w_ok {xs : List Seen} (hb : xs.length * 16 ≤ 140737488355328) : ACalls prog 262 [.sl 2 (xs.map Seen.enc)] [] (.row 0 1 0 xs.length) [.cells 1 2 160 false (xs.map Seen.enc)] := by
  refine calls_of hmx func262 (by kernel_rfl) (c := f262.body.getD .skip) rfl e262 (rs := [.t 2]) (by kernel_rfl) (show (1:Nat) ≤ 8 by decide) ?_
  have h := clone_O (t := 160) (k := 2) (bytes := 16) (zs := [(.int .i64 0), (.int .i64 0)]) (xs := xs.map Seen.enc) (by decide) rfl (lt_map fun _ => by rfl) (by simpa using hb)
  rw [List.length_map] at h
  exact h
theorem ov350 {qA qB oB lB : Nat} {fa fb : Bool} {v : List AVal} {es : List (List AVal)} (h : 1 ≤ lB) : ACalls prog 350 [.row 0 qA 0 1, .row 1 qB oB lB] [.cells qA 6 104 fa [v], .cells qB 6 104 fb es] (.bool false) [.cells qA 6 104 fa [v], .cells qB 6 104 fb es] :=
  overlaps_ok (tS := 25) (tR := 4) (e := 104) func350 (by kernel_rfl) (by kernel_rfl) (by kernel_rfl) (by kernel_rfl) (by kernel_rfl) (fun w => by rfl) h
theorem c268_ok {xs : List Packet} {v : Packet} {i q : Nat} {fv : Bool} (hi : i ≤ xs.length) (hb : (xs.length + 1) * 56 ≤ 140737488355328) : ACalls prog 268 [.row 0 q 0 xs.length, .int .i64 i, .row 1 0 0 1] [.cells q 6 104 false (xs.map Packet.enc), .cells 0 6 104 fv [Packet.enc v]] (.sl 6 ((xs.take i ++ v :: xs.drop i).map Packet.enc)) [.dead, .cells 0 6 104 fv [Packet.enc v]] := by
  refine calls_of hmx func268 (by kernel_rfl) (c := f268.body.getD .skip) rfl e268 (rs := [.t 6]) (by kernel_rfl) (show (3:Nat) ≤ 95 by decide) ?_
  have h := ins_V (t := 104) (k := 6) (bytes := 56) (zs := [(.int .i64 0), (.int .i64 0), (.int .i64 0), (.int .i64 0), (.int .i64 0), (.str (ByteArray.mk #[]))]) (fo := 350) (fr := 351) (q := q) (i := i) (v := Packet.enc v) (fv := fv) (xs := xs.map Packet.enc) (by decide) rfl rfl (cloE_map fun _ => by rfl) (cloE_map (f := Packet.enc) (xs := [v]) fun _ => by rfl) (by simpa using hb) (by rw [List.length_map]; omega) (by simpa using hi) ov350
  rw [List.length_map] at h
  rw [List.map_append, List.map_take, List.map_cons, List.map_drop]
  exact h
theorem ov312 {qA qB oB lB : Nat} {fa fb : Bool} {v : List AVal} {es : List (List AVal)} (h : 1 ≤ lB) : ACalls prog 312 [.row 0 qA 0 1, .row 1 qB oB lB] [.cells qA 2 160 fa [v], .cells qB 2 160 fb es] (.bool false) [.cells qA 2 160 fa [v], .cells qB 2 160 fb es] :=
  overlaps_ok (tS := 29) (tR := 4) (e := 160) func312 (by kernel_rfl) (by kernel_rfl) (by kernel_rfl) (by kernel_rfl) (by kernel_rfl) (fun w => by rfl) h
theorem c214_ok {xs : List Seen} {v : Seen} {i q : Nat} {fv : Bool} (hi : i ≤ xs.length) (hb : (xs.length + 1) * 16 ≤ 140737488355328) : ACalls prog 214 [.row 0 q 0 xs.length, .int .i64 i, .row 1 0 0 1] [.cells q 2 160 false (xs.map Seen.enc), .cells 0 2 160 fv [Seen.enc v]] (.sl 2 ((xs.take i ++ v :: xs.drop i).map Seen.enc)) [.dead, .cells 0 2 160 fv [Seen.enc v]] := by
  refine calls_of hmx func214 (by kernel_rfl) (c := f214.body.getD .skip) rfl e214 (rs := [.t 6]) (by kernel_rfl) (show (3:Nat) ≤ 95 by decide) ?_
  have h := ins_V (t := 160) (k := 2) (bytes := 16) (zs := [(.int .i64 0), (.int .i64 0)]) (fo := 312) (fr := 313) (q := q) (i := i) (v := Seen.enc v) (fv := fv) (xs := xs.map Seen.enc) (by decide) rfl rfl (cloE_map fun _ => by rfl) (cloE_map (f := Seen.enc) (xs := [v]) fun _ => by rfl) (by simpa using hb) (by rw [List.length_map]; omega) (by simpa using hi) ov312
  rw [List.length_map] at h
  rw [List.map_append, List.map_take, List.map_cons, List.map_drop]
  exact h
/-- A station whose seen frames lie in an object of their own. -/
def sEncN (s : Station) (id : Nat) : List AVal := [.int .i64 s.tab.node, .int .i64 s.tab.len, .sl 6 (s.tab.cells.map TCell.enc), .int .i64 s.q.limit, .sl 6 (s.q.pk.map Packet.enc), .sl 5 (s.held.map Held.enc), .row id 1 0 s.seen.length, .int .i64 s.list, .int .i64 s.seq, .int .i64 s.trying, .int .i64 s.tries, .int .i64 s.back, .int .i64 s.wait, .int .i64 s.seed]
def wEncN (s : Station) (id : Nat) (slot : Int) (c : TCell) : List AVal := [.int .i64 s.tab.node, .int .i64 s.tab.len, .sl 6 (s.tab.cells.map TCell.enc), .int .i64 s.q.limit, .sl 6 (s.q.pk.map Packet.enc), .sl 5 (s.held.map Held.enc), .row id 1 0 s.seen.length, .int .i64 s.list, .int .i64 s.seq, .int .i64 s.trying, .int .i64 s.tries, .int .i64 s.back, .int .i64 s.wait, .int .i64 s.seed, .int .i64 slot, .int .i64 c.slot, .int .i64 c.off, .int .i64 c.kind, .bool c.send, .int .i64 c.peer, .int .i64 c.flow]
def seenO (s : Station) : AObj := .cells 1 2 160 false (s.seen.map Seen.enc)
attribute [go_sem] sEncN wEncN seenO
theorem lt_seen {l : List Seen} {m q : Nat} {fu : Bool} : ltO m (.cells q 2 160 fu (l.map Seen.enc)) = true := ltO_mono (Nat.zero_le m) (lt_map fun _ => by rfl)
theorem ren_seen {l : List Seen} {r : Nat → Nat} {q : Nat} {fu : Bool} : renO r (.cells q 2 160 fu (l.map Seen.enc)) = .cells q 2 160 fu (l.map Seen.enc) := renO_lt (m := 0) (fun id h => by omega) lt_seen
def sEncHN (s : Station) : List AVal := [.int .i64 s.tab.node, .int .i64 s.tab.len, .sl 6 (s.tab.cells.map TCell.enc), .int .i64 s.q.limit, .sl 6 (s.q.pk.map Packet.enc), .row 2 1 0 s.held.length, .row 3 1 0 s.seen.length, .int .i64 s.list, .int .i64 s.seq, .int .i64 s.trying, .int .i64 s.tries, .int .i64 s.back, .int .i64 s.wait, .int .i64 s.seed]
theorem l152n (s : Station) (hL : s.held.length < 2 ^ 62) (hA : ∀ h ∈ s.held, h.acked.length * 8 ≤ 140737488355328) (hr : AVal) (Hr : Heap) (k' : List It)
    (hk : ∀ zs, get zs 1 = .ptr 0 0 0 0 → get zs 2 = .ptr 1 0 0 0 → V prog f152.ntmps 0 (Ret [.cell 2 true 14] 0 hr Hr) k' zs [.cells 0 14 31 true [sEncHN s], .cells 0 14 31 true [zSt], .cells 1 5 100 false (s.held.map Held.enc), .cells 1 2 160 false (s.seen.map Seen.enc)]) :
    ∀ (rest done : List Held), s.held = done ++ rest →
    Lp prog f152.ntmps 0 (Ret [.cell 2 true 14] 0 hr Hr) c152L1 (.blk 0 :: k') [(1, .ptr 0 0 0 0), (2, .ptr 1 0 0 0), (26, .int .i64 s.held.length), (27, .int .i64 done.length)] [.cells 0 14 31 true [sEncHN s], .cells 0 14 31 true [zSt], .cells 1 5 100 false (s.held.map Held.enc), .cells 1 2 160 false (s.seen.map Seen.enc)] := by
  intro rest
  induction rest with
  | nil =>
    intro done hd
    refine Lp.of_eq hmx c152L1.eq_1 ?_
    have h1 := rg_end hd
    simp only [go_sem, seval, h1, List.length_map]
    exact hk _ (by rfl) (by rfl)
  | cons c rest ih =>
    intro done hd
    refine Lp.of_eq hmx c152L1.eq_1 ?_
    obtain ⟨h1, h2, h3, h4⟩ := rg_hd Held.enc hd hL
    have hAc := hA c (by rw [hd]; simp)
    have ih' := ih _ h4
    have hlt : done.length < s.held.length := by rw [hd]; simp
    simp only [go_sem, seval, sEncHN, h1, h2, h3, Int.toNat_natCast, Int.natCast_nonneg, List.length_map, hlt, Nat.zero_add]
    refine ⟨Int.ofNat_lt.2 hlt, ?_⟩
    refine CX_pure (c153_ok hAc) rfl rfl rfl rfl ?_
    have hse : (s.held.map Held.enc).set done.length [.int .i64 c.flow, .int .i64 c.frame, .int .i64 c.upto, .str c.data, .sl 1 (c.acked.map eI)] = s.held.map Held.enc := set_same h2
    simp only [go_sem, seval, h1, h2, h3, Int.toNat_natCast, Int.natCast_nonneg, List.length_map, hlt, Nat.zero_add, hse]
    refine ⟨Int.ofNat_lt.2 hlt, by rfl, ?_⟩
    exact Lp.bkE0 ih' (by rfl) rfl
/-- Clone, of which the seen frames are wanted for writing. -/
theorem c152n_ok {s : Station} (hB : ClBd s) : ACalls prog 152 [.agg s.enc] [] (.agg (sEncN s 0)) [seenO s] := by
  obtain ⟨b1, b2, b3, b4, b5⟩ := hB
  refine calls_of hmx func152 (by kernel_rfl) (c := f152.body.getD .skip) rfl e152 (rs := [(.cell 2 true 14)]) (by kernel_rfl) (by simp [ntmps152]) ?_
  simp only [c152, argS]
  simp only [go_sem, seval]
  repeat' first | refine CX_pure (c82_ok b1) rfl rfl rfl rfl ?_ | refine GX_call (fun _ => (c82_ok b1)) (by rfl) (by intro h; simp only [h]; rfl) (by rfl) (by rfl) ?_ | (with_reducible intro h; try simp only [h]) | (with_reducible refine And.intro ?_ ?_) | (change chk _ _ = true; rfl) | simp only [go_sem, seval, Vc_bool] | refine (GX_split rfl).2 ?_
  repeat' first | refine CX_pure (c260_ok b2) rfl rfl rfl rfl ?_ | refine GX_call (fun _ => (c260_ok b2)) (by rfl) (by intro h; simp only [h]; rfl) (by rfl) (by rfl) ?_ | (with_reducible intro h; try simp only [h]) | (with_reducible refine And.intro ?_ ?_) | (change chk _ _ = true; rfl) | simp only [go_sem, seval, Vc_bool] | refine (GX_split rfl).2 ?_
  repeat' first | (with_reducible intro h; try simp only [h]) | (with_reducible refine And.intro ?_ ?_) | (change chk _ _ = true; rfl) | simp only [go_sem, seval, Vc_bool] | refine (GX_split rfl).2 ?_
  by_cases h0 : s.held = []
  · repeat' first | refine CX_pure (c261_ok b3) rfl rfl rfl rfl ?_ | refine GX_call (fun _ => (c261_ok b3)) (by rfl) (by intro h; simp only [h]; rfl) (by rfl) (by rfl) ?_ | (with_reducible intro h; try simp only [h]) | (with_reducible refine And.intro ?_ ?_) | (change chk _ _ = true; rfl) | simp only [go_sem, seval, Vc_bool] | refine (GX_split rfl).2 ?_
    refine CX_new (r1 := .row 2 1 0 s.seen.length) (c262w_ok b4) rfl rfl rfl (by rw [List.all_cons, List.all_nil, Bool.and_true]; exact lt_map fun _ => by rfl) (by rfl) ?_
    repeat' first | (with_reducible intro h; try simp only [h]) | (with_reducible refine And.intro ?_ ?_) | (change chk _ _ = true; rfl) | simp only [go_sem, seval, Vc_bool] | refine (GX_split rfl).2 ?_
    refine Lp.of_eq hmx c152L1.eq_1 ?_
    simp only [go_sem, seval, h0, List.map_nil, List.length_nil, show decide ((0:Int) < ((0:Nat):Int)) = false from rfl]
    refine Rt.gs (Gs_tell (s' := [(2, .ptr 1 0 0 0)]) (H' := [.dead, .cells 0 14 31 true [sEncN { s with held := [] } 2], seenO s]) ?_ ?_) (Rt_sel [2] (r0 := .agg (sEncN { s with held := [] } 2)) (by rfl) (by rfl) (by rfl) ?_ (by rfl) (by decide) ?_ (Nat.zero_le _) (by rfl))
    · repeat' (first | exact FzL.nil | refine FzL.cons ?_ ?_ | exact Fz.wk (Wk.refl _) | exact Fz.wk (Wk.nil _) | exact Fz.wk (Wk.emp _) | exact Fz.row0 _ _ _ _ | exact FzH.nil _ | exact FzO.refl _ | refine FzO.one ?_ | refine FzH.cons (by decide) ?_ ?_ | refine FzH.this rfl ?_ | exact FzO.dead (by simp) | (simp only [List.forall_mem_cons, List.not_mem_nil, false_implies, implies_true, and_true, go_sem, seval]) | refine And.intro ?_ ?_)
    · repeat' (first | exact FzL.nil | refine FzL.cons ?_ ?_ | exact Fz.wk (Wk.refl _) | exact Fz.wk (Wk.nil _) | exact Fz.wk (Wk.emp _) | exact Fz.row0 _ _ _ _ | exact FzH.nil _ | exact FzO.refl _ | refine FzO.one ?_ | refine FzH.cons (by decide) ?_ ?_ | refine FzH.this rfl ?_ | exact FzO.dead (by simp) | (simp only [List.forall_mem_cons, List.not_mem_nil, false_implies, implies_true, and_true, go_sem, seval]) | refine And.intro ?_ ?_)
    · rw [List.all_cons, List.all_nil, Bool.and_true]; exact lt_seen
    · rw [List.map_cons, List.map_nil, List.map_cons, List.map_nil, ren_seen]; rfl
  · refine CX_new (r1 := .row 2 1 0 s.held.length) (c261w_ok b3) rfl rfl rfl (by rw [List.all_cons, List.all_nil, Bool.and_true]; exact lt_map (xs := s.held) fun _ => by rfl) (by rfl) ?_
    repeat' first | (with_reducible intro h; try simp only [h]) | (with_reducible refine And.intro ?_ ?_) | (change chk _ _ = true; rfl) | simp only [go_sem, seval, Vc_bool] | refine (GX_split rfl).2 ?_
    refine CX_new (r1 := .row 3 1 0 s.seen.length) (c262w_ok b4) rfl rfl rfl (by rw [List.all_cons, List.all_nil, Bool.and_true]; exact lt_map fun _ => by rfl) (by rfl) ?_
    repeat' first | (with_reducible intro h; try simp only [h]) | (with_reducible refine And.intro ?_ ?_) | (change chk _ _ = true; rfl) | simp only [go_sem, seval, Vc_bool] | refine (GX_split rfl).2 ?_
    refine Lp.bkE0 (l152n s (by omega) b5 _ _ _ (fun zs z1 z2 => ?_) s.held [] rfl) (by rfl) rfl
    simp only [go_sem, seval, z1, z2, sEncHN, zSt]
    refine Rt.gs (Gs_freeze 2 (s' := [(2, .ptr 1 0 0 0)]) (H' := [.dead, .cells 0 14 31 true [sEncN s 3], .dead, seenO s]) rfl ?_ ?_) (Rt_sel [3] (r0 := .agg (sEncN s 3)) (by rfl) (by rfl) (by rfl) ?_ (by rfl) (by decide) ?_ (Nat.zero_le _) (by rfl))
    · refine List.forall_mem_cons.2 ⟨?_, by simp⟩
      simp only [go_sem, seval, z2]
      exact Fz.wk (Wk.refl _)
    · repeat' (first | exact FzL.nil | refine FzL.cons ?_ ?_ | exact Fz.wk (Wk.refl _) | exact Fz.wk (Wk.nil _) | exact Fz.wk (Wk.emp _) | exact Fz.row0 _ _ _ _ | exact FzH.nil _ | exact FzO.refl _ | refine FzO.one ?_ | refine FzH.cons (by decide) ?_ ?_ | refine FzH.this rfl ?_ | exact FzO.dead (by simp) | (simp only [List.forall_mem_cons, List.not_mem_nil, false_implies, implies_true, and_true, go_sem, seval]) | refine And.intro ?_ ?_)
      all_goals first | exact Fz.wk (Wk.refl _) | exact Fz.row 0 _ (by rw [List.drop_zero]; exact List.take_of_length_le (by simp)) (cloE_map fun _ => by rfl)
    · rw [List.all_cons, List.all_nil, Bool.and_true]; exact lt_seen
    · rw [List.map_cons, List.map_nil, List.map_cons, List.map_nil, ren_seen]; rfl

theorem c96n_ok {s : Station} {slot : Int} (hB : ClBd s) (hE : slotErr s slot = 0) : ACalls prog 96 [.agg s.enc, .int .i64 slot] [] (.tup [.ptr 0 0 0 0, .int .i64 0]) [.cells 0 21 176 true [wEncN s 1 slot (cellAt s slot)], .cells 1 2 160 false (s.seen.map Seen.enc)] := by
  refine calls_of hmx func96 (by kernel_rfl) (c := f96.body.getD .skip) rfl e96 (rs := [(.t 4), (.t 5)]) (by kernel_rfl) (by simp [ntmps96]) ?_
  simp only [c96, argS]
  simp only [go_sem, seval]
  repeat' first | refine CX_pure (c22_pf s hB.st) rfl rfl rfl rfl ?_ | refine CX_pure c81_ok rfl rfl rfl rfl ?_ | refine GX_call (fun _ => (c22_pf s hB.st)) (by rfl) (by intro h; simp only [h]; rfl) (by rfl) (by rfl) ?_ | refine GX_call (fun _ => c81_ok) (by rfl) (by intro h; simp only [h]; rfl) (by rfl) (by rfl) ?_ | (with_reducible intro h; try simp only [h]) | (with_reducible refine And.intro ?_ ?_) | (change chk _ _ = true; rfl) | simp only [go_sem, seval, Vc_bool] | refine (GX_split rfl).2 ?_
  · exact absurd hE (by grind [slotErr, stErr])
  · exact absurd hE (by grind [slotErr, stErr, wi])
  · refine CX_new (r1 := .agg (sEncN s 1)) (c152n_ok hB) rfl rfl rfl (by rw [List.all_cons, List.all_nil, Bool.and_true]; exact lt_seen) (by rfl) ?_
    repeat' first | refine CX_pure (c191_at hB.st.1) rfl rfl rfl rfl ?_ | refine GX_call (fun _ => (c191_at hB.st.1)) (by rfl) (by intro h; simp only [h]; rfl) (by rfl) (by rfl) ?_ | (with_reducible intro h; try simp only [h]) | (with_reducible refine And.intro ?_ ?_) | (change chk _ _ = true; rfl) | simp only [go_sem, seval, Vc_bool] | refine (GX_split rfl).2 ?_
    refine Rt_sel [2, 1] (r0 := .tup [.ptr 2 0 0 0, .int .i64 0]) (by rfl) (by rfl) rfl ?_ rfl (by decide) ?_ (Nat.zero_le _) rfl
    · rw [List.all_cons, List.all_cons, List.all_nil, Bool.and_true, lt_seen, Bool.and_true]; rfl
    · rw [List.map_cons, List.map_cons, List.map_nil, List.map_cons, List.map_cons, List.map_nil, ren_seen]; rfl
theorem c193n_ok {s : Station} {slot : Int} {c : TCell} (hs : c.send = false) : ACalls prog 193 [.ptr 0 0 0 0] [.cells 0 21 176 true [wEncN s 1 slot c], .cells 1 2 160 false (s.seen.map Seen.enc)] (.agg (Action.enc ⟨2, 0, Frame.zero⟩)) [.cells 0 21 176 true [wEncN s 1 slot c], .cells 1 2 160 false (s.seen.map Seen.enc)] := by
  rcases c with ⟨cs, co, ck, cd, cp, cf⟩
  obtain rfl : cd = false := hs
  refine calls_of hmx func193 (by kernel_rfl) (c := f193.body.getD .skip) rfl e193 (rs := [(.cell 2 true 14)]) (by kernel_rfl) (by simp [ntmps193]) ?_
  simp only [c193, argS]
  simp only [go_sem, seval]
  exact Rt_T (H := [_, _]) _ (by rfl) (by rfl) (by rw [List.all_cons, List.all_cons, List.all_nil, Bool.and_true, lt_seen, Bool.and_true]; rfl) (Nat.le_refl _)
theorem c97n_2 {s : Station} {slot : Int} {c : TCell} (hk : c.kind = 2) (hs : c.send = false) :
    ACalls prog 97 [.ptr 0 0 0 0] [.cells 0 21 176 true [wEncN s 1 slot c], .cells 1 2 160 false (s.seen.map Seen.enc)] (.agg (Action.enc ⟨2, c.off, Frame.zero⟩)) [.cells 0 21 176 true [wEncN s 1 slot c], .cells 1 2 160 false (s.seen.map Seen.enc)] := by
  have hg := c193n_ok (s := s) (slot := slot) hs
  rcases c with ⟨cs, co, ck, cd, cp, cf⟩
  obtain rfl : ck = 2 := hk
  obtain rfl : cd = false := hs
  refine calls_of hmx func97 (by kernel_rfl) (c := f97.body.getD .skip) rfl e97 (rs := [(.cell 2 true 14)]) (by kernel_rfl) (by simp [ntmps97]) ?_
  simp only [c97, argS]
  simp only [go_sem, seval]
  repeat' first | refine CX_rd [0, 1] (hg) (by rfl) (by rfl) (by rfl) (by rw [List.all_cons, List.all_cons, List.all_nil, Bool.and_true, lt_seen, Bool.and_true]; rfl) (by rfl) (by decide) (by rfl) (by rw [List.map_cons, List.map_cons, List.map_nil, List.map_cons, List.map_cons, List.map_nil, ren_seen]; rfl) (by rfl) ?_ | (with_reducible intro h; try simp only [h]) | (with_reducible refine And.intro ?_ ?_) | (change chk _ _ = true; rfl) | simp only [go_sem, seval, Vc_bool, mapSet_cons, mapSet_nil, mapAt_cons, mapAt_nil] | refine (GX_split rfl).2 ?_
  exact Rt_T (H := [_, _]) _ (by rfl) (by rfl) (by rw [List.all_cons, List.all_cons, List.all_nil, Bool.and_true, lt_seen, Bool.and_true]; rfl) (Nat.le_refl _)

theorem seen_lt {l : List Seen} : ([.cells 1 2 160 false (l.map Seen.enc)] : Heap).all (ltO 1) = true := by rw [List.all_cons, List.all_nil, Bool.and_true]; exact lt_seen
theorem l311r (l : List Seen) (x : Seen) (hL : l.length < 2 ^ 62) (k' : List It) (hk : ∀ zs, V prog f311.ntmps 1 (Ret [.t 4] 1 (.int .i64 (-1)) [.cells 1 2 160 false (l.map Seen.enc)]) k' zs [.cells 1 2 160 false (l.map Seen.enc), .cells 0 2 160 true [x.enc]]) : ∀ (rest done : List Seen), l = done ++ rest →
    Lp prog f311.ntmps 1 (Ret [.t 4] 1 (.int .i64 (idxFrom (fun y => decide (x = y)) done.length rest)) [.cells 1 2 160 false (l.map Seen.enc)]) c311L1 (.blk 0 :: k') [(0, .row 0 1 0 l.length), (3, .ptr 1 0 0 0), (7, .int .i64 l.length), (8, .int .i64 done.length)] [.cells 1 2 160 false (l.map Seen.enc), .cells 0 2 160 true [x.enc]] := by
  intro rest
  induction rest with
  | nil =>
    intro done hd
    refine Lp.of_eq hmx c311L1.eq_1 ?_
    have h1 := rg_end hd
    simp only [go_sem, seval, h1]
    exact hk _
  | cons c rest ih =>
    intro done hd
    refine Lp.of_eq hmx c311L1.eq_1 ?_
    obtain ⟨h1, h2, h3, h4⟩ := rg_hd Seen.enc hd hL
    have ih' := ih _ h4
    have hlt : ((done.length : Int) < (l.length : Int)) = True := eq_true (by have := congrArg List.length hd; simp at this; omega)
    repeat' first | (with_reducible intro h; try simp only [h]) | (with_reducible refine And.intro ?_ ?_) | (change chk _ _ = true; rfl) | simp only [go_sem, seval, Vc_bool, h1, h2, h3, hlt, seen_eq, Int.toNat_natCast, Int.natCast_nonneg, Nat.zero_add] | refine (GX_split rfl).2 ?_
    · have e : idxFrom (fun y => decide (x = y)) done.length (c :: rest) = done.length := by rw [idxFrom, if_pos h]
      rw [e]
      exact Rt_T (H := [_]) _ (by rfl) (by rfl) seen_lt (Nat.le_refl _)
    · have e : idxFrom (fun y => decide (x = y)) done.length (c :: rest) = idxFrom (fun y => decide (x = y)) (done ++ [c]).length rest := by rw [idxFrom, if_neg (by simpa using h)]; simp
      rw [e]
      exact Lp.bkE0 ih' (by rfl) rfl
theorem c311r_ok {l : List Seen} {x : Seen} (hL : l.length < 2 ^ 62) : ACalls prog 311 [.row 0 1 0 l.length, .agg x.enc] [.cells 1 2 160 false (l.map Seen.enc)] (.int .i64 (idxFrom (fun y => decide (x = y)) 0 l)) [.cells 1 2 160 false (l.map Seen.enc)] := by
  refine calls_of hmx func311 (by kernel_rfl) (c := f311.body.getD .skip) rfl e311 (rs := [(.t 4)]) (by kernel_rfl) (by simp [ntmps311]) ?_
  simp only [c311, argS]
  simp only [go_sem, seval, List.length_map]
  refine Lp.bkE0 (l311r l x hL _ (fun s => ?_) l [] rfl) (by rfl) rfl
  simp only [go_sem, seval]
  exact Rt_T (H := [_]) _ (by rfl) (by rfl) seen_lt (Nat.le_refl _)
theorem c211r_ok {l : List Seen} {x : Seen} (hL : l.length < 2 ^ 62) : ACalls prog 211 [.row 0 1 0 l.length, .agg x.enc] [.cells 1 2 160 false (l.map Seen.enc)] (.bool (l.any fun y => decide (x = y))) [.cells 1 2 160 false (l.map Seen.enc)] := by
  refine calls_of hmx func211 (by kernel_rfl) (c := f211.body.getD .skip) rfl e211 (rs := [(.t 4)]) (by kernel_rfl) (by simp [ntmps211]) ?_
  simp only [c211, argS]
  simp only [go_sem, seval]
  refine CX_read (Hc := [_]) (c311r_ok hL) (by rfl) (by rfl) (by rfl) (by rfl) seen_lt ?_
  simp only [go_sem, seval, idxFrom_any]
  exact Rt_T (H := [_]) _ (by rfl) (by rfl) seen_lt (Nat.le_refl _)
section
variable {xs : List Seen} {t : Seen}
theorem bs2r_loop (hlen : xs.length < 2 ^ 62) (hs : ∀ i x, xs[i]? = some x → (cmp x.node t.node < 0 ↔ i < bsLo (fun y : Seen => cmp y.node t.node) xs)) (rs : List RS) (r : AVal) (k' : List It)
    (hk : ∀ s, get s 0 = .row 0 1 0 xs.length → get s 4 = .ptr 1 0 0 0 → get s 2 = .func 213 [] [] → get s 8 = .int .i64 xs.length → get s 9 = .int .i64 (bsLo (fun y : Seen => cmp y.node t.node) xs) → V prog f212.ntmps 1 (Ret rs 1 r [.cells 1 2 160 false (xs.map Seen.enc)]) k' s [.cells 1 2 160 false (xs.map Seen.enc), .cells 0 2 160 true [t.enc]]) : ∀ (m i j : Nat), j - i ≤ m → i ≤ bsLo (fun y : Seen => cmp y.node t.node) xs → bsLo (fun y : Seen => cmp y.node t.node) xs ≤ j → j ≤ xs.length →
    Lp prog f212.ntmps 1 (Ret rs 1 r [.cells 1 2 160 false (xs.map Seen.enc)]) c212L1 (.blk 0 :: k') [(0, .row 0 1 0 xs.length), (4, .ptr 1 0 0 0), (2, .func 213 [] []), (8, .int .i64 xs.length), (9, .int .i64 i), (10, .int .i64 j)] [.cells 1 2 160 false (xs.map Seen.enc), .cells 0 2 160 true [t.enc]] := by
  intro m
  induction m with
  | zero =>
    intro i j h1 h2 h3 h4
    refine Lp.of_eq hmx c212L1.eq_1 ?_
    have e1 : decide ((i : Int) < (j : Int)) = false := by simp; omega
    simp only [go_sem, seval, e1]
    exact hk _ (by rfl) (by rfl) (by rfl) (by rfl) (by show AVal.int .i64 _ = _; congr 1; omega)
  | succ m ih =>
    intro i j h1 h2 h3 h4
    refine Lp.of_eq hmx c212L1.eq_1 ?_
    rcases Nat.lt_or_ge i j with hij | hij
    · have e1 : decide ((i : Int) < (j : Int)) = true := by simp; omega
      have e2 := mid_ok (i := i) (j := j) (by omega)
      have hm : (i + j) / 2 < xs.length := by omega
      have e3 : (xs.map Seen.enc)[(i + j) / 2]? = some (Seen.enc xs[(i + j) / 2]) := by rw [List.getElem?_map, List.getElem?_eq_getElem hm]; rfl
      have e4 : IntKind.i64.wrap (((i + j) / 2 : Nat) + (1 : Int)) = (((i + j) / 2 + 1 : Nat) : Int) := by rw [wrap_ok (by omega) (by omega)]; omega
      have hsx := hs ((i + j) / 2) _ (List.getElem?_eq_getElem hm)
      generalize xs[(i + j) / 2] = c at *
      have hlt : ((((i + j) / 2 : Nat) : Int) < (xs.length : Int)) = True := eq_true (by omega)
      repeat' first | refine CX_pure (c213_ok) rfl rfl rfl rfl ?_ | refine GX_call (fun _ => (c213_ok)) (by rfl) (by intro h; simp only [h]; rfl) (by rfl) (by rfl) ?_ | (with_reducible intro h; try simp only [h]) | (with_reducible refine And.intro ?_ ?_) | (change chk _ _ = true; rfl) | simp only [go_sem, seval, Vc_bool, e1, e2, e3, e4, hlt, Nat.zero_add, Int.toNat_natCast, Int.natCast_nonneg] | refine (GX_split rfl).2 ?_
      · exact Lp.bk0 (ih ((i + j) / 2 + 1) j (by omega) (by have := of_decide_eq_true h; rw [hsx] at this; omega) h3 h4) (by rfl)
      · exact Lp.bk0 (ih i ((i + j) / 2) (by omega) h2 (by have := of_decide_eq_false h; rw [hsx] at this; omega) (by omega)) (by rfl)
    · have e1 : decide ((i : Int) < (j : Int)) = false := by simp; omega
      simp only [go_sem, seval, e1]
      exact hk _ (by rfl) (by rfl) (by rfl) (by rfl) (by show AVal.int .i64 _ = _; congr 1; omega)
end
theorem c212r_ok {xs : List Seen} {t : Seen} (hlen : xs.length < 2 ^ 62) (hs : ∀ i x, xs[i]? = some x → (cmp x.node t.node < 0 ↔ i < bsLo (fun y : Seen => cmp y.node t.node) xs)) :
    ACalls prog 212 [.row 0 1 0 xs.length, .agg t.enc, .func 213 [] []] [.cells 1 2 160 false (xs.map Seen.enc)] (.tup [.int .i64 (bsLo (fun y : Seen => cmp y.node t.node) xs), .bool (bsHit (fun y : Seen => cmp y.node t.node) xs)]) [.cells 1 2 160 false (xs.map Seen.enc)] := by
  refine calls_of hmx func212 (by kernel_rfl) (c := f212.body.getD .skip) rfl e212 (rs := [(.t 6), (.t 7)]) (by kernel_rfl) (by simp [ntmps212]) ?_
  simp only [c212, argS]
  simp only [go_sem, seval, List.length_map]
  refine Lp.bk0 (bs2r_loop hlen hs _ _ _ (fun s z0 z1 z2 z8 z9 => ?_) xs.length 0 xs.length (by omega) (Nat.zero_le _) (bsLo_le _) (Nat.le_refl _)) (by rfl)
  have hle := bsLo_le (c := fun y : Seen => cmp y.node t.node) xs
  rcases Nat.lt_or_ge (bsLo (fun y : Seen => cmp y.node t.node) xs) xs.length with h | h
  · have e1 : decide (((bsLo (fun y : Seen => cmp y.node t.node) xs : Nat) : Int) < (xs.length : Int)) = true := by simp; omega
    have e2 : (xs.map Seen.enc)[bsLo (fun y : Seen => cmp y.node t.node) xs]? = some (Seen.enc xs[bsLo (fun y : Seen => cmp y.node t.node) xs]) := by rw [List.getElem?_map, List.getElem?_eq_getElem h]; rfl
    have e3 : bsHit (fun y : Seen => cmp y.node t.node) xs = decide (cmp xs[bsLo (fun y : Seen => cmp y.node t.node) xs].node t.node = 0) := by rw [bsHit, List.getElem?_eq_getElem h]
    rw [e3]
    generalize xs[bsLo (fun y : Seen => cmp y.node t.node) xs] = c at *
    have hlt : (((bsLo (fun y : Seen => cmp y.node t.node) xs : Nat) : Int) < (xs.length : Int)) = True := eq_true (by omega)
    repeat' first | refine CX_pure (c213_ok) rfl rfl rfl rfl ?_ | refine GX_call (fun _ => (c213_ok)) (by rfl) (by intro h; simp only [h]; rfl) (by rfl) (by rfl) ?_ | (with_reducible intro h; try simp only [h]) | (with_reducible refine And.intro ?_ ?_) | (change chk _ _ = true; rfl) | simp only [go_sem, seval, Vc_bool, z0, z1, z2, z8, z9, e1, e2, hlt, Nat.zero_add, Int.toNat_natCast, Int.natCast_nonneg] | refine (GX_split rfl).2 ?_
    exact Rt_T (H := [_]) _ (by rfl) (by rfl) seen_lt (Nat.le_refl _)
  · have e1 : decide (((bsLo (fun y : Seen => cmp y.node t.node) xs : Nat) : Int) < (xs.length : Int)) = false := by simp; omega
    have e3 : bsHit (fun y : Seen => cmp y.node t.node) xs = false := by rw [bsHit, List.getElem?_eq_none h]
    rw [e3]
    simp only [go_sem, seval, z0, z1, z2, z8, z9, e1]
    exact Rt_T (H := [_]) _ (by rfl) (by rfl) seen_lt (Nat.le_refl _)

def c105 : SC := (.seq (.reg [(.box 3 41 (.t 1)), (.alc 4 51 [(.bool false), (.bool false), (.int .i64 0), (.int .i64 0), (.int .i64 0), (.int .i64 0), (.int .i64 0), (.int .i64 0), (.int .i64 0), (.int .i64 0), (.int .i64 0), (.int .i64 0), (.int .i64 0), (.str (ByteArray.mk #[]))])]) (.seq (.seq (.regD [(.ld 10 (.t 3) true 12), (.mv 11 (.t 0)), (.nck 12 (.t 11)), (.fa 13 (.t 12) 0), (.fa 14 (.t 13) 0), (.fa 15 (.t 14) 0), (.ld 16 (.t 15) false 1), (.call (some 17) (.c (.func 210 [] [])) [(.t 10), (.t 16)]), (.not 18 (.t 17)), (.mv 19 (.t 18)), (.g 19 false (some 20) (.fa 20 (.t 3) 0)), (.g 19 false (some 21) (.ld 21 (.t 20) false 1)), (.g 19 false (some 22) (.bin 22 .eql (.t 21) (.c (.int .i64 2)))), (.pick 23 (.t 19) (.c (.bool true)) (.t 22))] []) (.cond (.t 23) (.seq (.reg [(.bld 24 [(.bool false), (.bool false), (.int .i64 0), (.int .i64 0), (.int .i64 0), (.int .i64 0), (.int .i64 0), (.int .i64 0), (.int .i64 0), (.int .i64 0), (.int .i64 0), (.int .i64 0), (.int .i64 0), (.str (ByteArray.mk #[]))] []), (.st (.t 4) (.t 24) 14)]) .ret) .skip)) (.seq (.reg [(.ld 25 (.t 3) true 12), (.bld 26 [(.bool false), (.bool false), (.int .i64 0), (.int .i64 0), (.int .i64 0), (.int .i64 0), (.int .i64 0), (.int .i64 0), (.int .i64 0), (.int .i64 0), (.int .i64 0), (.int .i64 0), (.int .i64 0), (.str (ByteArray.mk #[]))] [(0, 1, (.c (.bool true))), (1, 1, (.c (.bool true))), (2, 12, (.t 25))]), (.alc 5 51 [(.bool false), (.bool false), (.int .i64 0), (.int .i64 0), (.int .i64 0), (.int .i64 0), (.int .i64 0), (.int .i64 0), (.int .i64 0), (.int .i64 0), (.int .i64 0), (.int .i64 0), (.int .i64 0), (.str (ByteArray.mk #[]))]), (.st (.t 5) (.t 26) 14)]) (.seq (.block 0 (.seq (.reg [(.fa 28 (.t 3) 0), (.ld 29 (.t 28) false 1), (.bin 30 .eql (.t 29) (.c (.int .i64 1))), (.mv 27 (.t 30))]) (.cond (.t 27) (.seq (.reg [(.mv 31 (.t 0)), (.fa 32 (.t 3) 5), (.ld 33 (.t 32) false 1), (.call (some 34) (.c (.func 101 [] [])) [(.t 31), (.t 33)]), (.mv 6 (.t 34))]) (.regD [(.mv 35 (.t 6)), (.bin 36 .lss (.t 35) (.c (.int .i64 0))), (.mv 37 (.t 36)), (.g 37 false (some 38) (.mv 38 (.t 0))), (.g 37 false (some 39) (.nck 39 (.t 38))), (.g 37 false (some 40) (.fa 40 (.t 39) 0)), (.g 37 false (some 41) (.fa 41 (.t 40) 5)), (.g 37 false (some 42) (.ld 42 (.t 41) false 1)), (.g 37 false (some 43) (.mv 43 (.t 6))), (.g 37 false (some 44) (.ia 44 (.t 42) (.t 43) 5)), (.g 37 false (some 45) (.fa 45 (.t 44) 1)), (.g 37 false (some 46) (.ld 46 (.t 45) false 1)), (.g 37 false (some 47) (.fa 47 (.t 3) 6)), (.g 37 false (some 48) (.ld 48 (.t 47) false 1)), (.g 37 false (some 49) (.bin 49 .neq (.t 46) (.t 48))), (.pick 50 (.t 37) (.c (.bool true)) (.t 49)), (.fa 51 (.t 5) 1), (.st (.t 51) (.t 50) 1)] [])) (.seq (.regD [(.fa 53 (.t 3) 0), (.ld 54 (.t 53) false 1), (.bin 55 .eql (.t 54) (.c (.int .i64 4))), (.mv 56 (.t 55)), (.g 56 true (some 57) (.fa 57 (.t 3) 2)), (.g 56 true (some 58) (.ld 58 (.t 57) false 1)), (.g 56 true (some 59) (.mv 59 (.t 0))), (.g 56 true (some 60) (.nck 60 (.t 59))), (.g 56 true (some 61) (.fa 61 (.t 60) 0)), (.g 56 true (some 62) (.fa 62 (.t 61) 0)), (.g 56 true (some 63) (.fa 63 (.t 62) 0)), (.g 56 true (some 64) (.ld 64 (.t 63) false 1)), (.g 56 true (some 65) (.bin 65 .eql (.t 58) (.t 64))), (.pick 66 (.t 56) (.t 65) (.c (.bool false))), (.mv 52 (.t 66))] []) (.cond (.t 52) (.seq (.reg [(.fa 67 (.t 3) 1), (.ld 68 (.t 67) false 1), (.fa 69 (.t 3) 4), (.ld 70 (.t 69) false 1), (.bld 71 [(.int .i64 0), (.int .i64 0)] [(0, 1, (.t 68)), (1, 1, (.t 70))]), (.alc 7 160 [(.int .i64 0), (.int .i64 0)]), (.st (.t 7) (.t 71) 2)]) (.seq (.regD [(.mv 72 (.t 0)), (.nck 73 (.t 72)), (.fa 74 (.t 73) 0), (.fa 75 (.t 74) 6), (.ld 76 (.t 75) false 1), (.ld 77 (.t 7) true 2), (.call (some 78) (.c (.func 211 [] [])) [(.t 76), (.t 77)]), (.not 79 (.t 78)), (.fa 80 (.t 5) 1), (.st (.t 80) (.t 79) 1)] []) (.seq (.regD [(.mv 82 (.t 0)), (.nck 83 (.t 82)), (.fa 84 (.t 83) 0), (.fa 85 (.t 84) 6), (.ld 86 (.t 85) false 1), (.ld 87 (.t 7) true 2), (.call (some 88) (.c (.func 212 [] [])) [(.t 86), (.t 87), (.c (.func 213 [] []))]), (.mv 81 (.t 88)), (.ext 89 (.t 81) 0), (.ext 90 (.t 81) 1), (.mv 8 (.t 89)), (.mv 9 (.t 90))] []) (.seq (.reg [(.mv 91 (.t 9))]) (.cond (.t 91) (.regD [(.mv 92 (.t 0)), (.nck 93 (.t 92)), (.fa 94 (.t 93) 0), (.fa 95 (.t 94) 6), (.ld 96 (.t 95) false 1), (.mv 97 (.t 8)), (.ld 98 (.t 7) true 2), (.ia 99 (.t 96) (.t 97) 2), (.st (.t 99) (.t 98) 2)] []) (.regD [(.mv 100 (.t 0)), (.mv 101 (.t 0)), (.nck 102 (.t 101)), (.fa 103 (.t 102) 0), (.fa 104 (.t 103) 6), (.ld 105 (.t 104) false 1), (.mv 106 (.t 8)), (.ld 107 (.t 7) true 2), (.bsl 108 160 2 [(.int .i64 0), (.int .i64 0)] 1 [(0, (.t 107))]), (.call (some 109) (.c (.func 214 [] [])) [(.t 105), (.t 106), (.t 108)]), (.nck 110 (.t 100)), (.fa 111 (.t 110) 0), (.fa 112 (.t 111) 6), (.st (.t 112) (.t 109) 1)] [(5, 8)])))))) .skip))))) (.seq (.reg [(.ld 113 (.t 5) true 14), (.st (.t 4) (.t 113) 14)]) .ret)))))
theorem e105 : compC prog f105.ntmps (f105.body.getD .skip) = c105 := by kernel_rfl
/-- The seen frames, with one more. -/
def seeAt (l : List Seen) (x : Seen) : List Seen := if bsHit (fun y : Seen => cmp y.node x.node) l = true then l.set (bsLo (fun y : Seen => cmp y.node x.node) l) x else l.take (bsLo (fun y : Seen => cmp y.node x.node) l) ++ x :: l.drop (bsLo (fun y : Seen => cmp y.node x.node) l)
theorem c105_4 {s : Station} {slot : Int} {c : TCell} {f : Sp.Frame} (hL : s.seen.length < 2 ^ 40) (hs : s.seen.Pairwise (fun a b => a.node ≤ b.node)) (hF : frFor f s.tab.node = true) (hk : f.kind = 4) (ht : f.tgt = s.tab.node) :
    ACalls prog 105 [.ptr 0 0 0 0, .agg f.enc] [.cells 0 21 176 true [wEncN s 1 slot c], .cells 1 2 160 false (s.seen.map Seen.enc)] (.agg (Up.enc ⟨true, !(s.seen.any fun y => decide ((⟨f.src, f.seq⟩ : Seen) = y)), f⟩)) [.cells 0 21 176 true [wEnc { s with seen := seeAt s.seen ⟨f.src, f.seq⟩ } slot c], .dead] := by
  rcases f with ⟨fk, f2, f3, f4, f5, f6, f7, f8, f9, f10, f11, f12⟩
  obtain rfl : fk = 4 := hk
  obtain rfl : f3 = s.tab.node := ht
  have i1 : decide (s.tab.node = s.tab.node) = true := by simp
  refine calls_of hmx func105 (by kernel_rfl) (c := f105.body.getD .skip) rfl e105 (rs := [(.cell 4 true 14)]) (by kernel_rfl) (by simp [ntmps105]) ?_
  simp only [c105, argS]
  simp only [go_sem, seval]
  repeat' first | refine CX_pure (c210_ok) rfl rfl rfl rfl ?_ | refine GX_call (fun _ => (c210_ok)) (by rfl) (by intro h; simp only [h]; rfl) (by rfl) (by rfl) ?_ | (with_reducible intro h; try simp only [h]) | (with_reducible refine And.intro ?_ ?_) | (change chk _ _ = true; rfl) | simp only [go_sem, seval, Vc_bool, hF, i1] | refine (GX_split rfl).2 ?_
  refine CX_rd [1] (c211r_ok (l := s.seen) (x := ⟨f2, f5⟩) (by omega)) (by rfl) (by rfl) (by rfl) seen_lt (by rfl) (by decide) (by rfl) (by rw [List.map_cons, List.map_nil, List.map_cons, List.map_nil, ren_seen]; rfl) (by rfl) ?_
  repeat' first | (with_reducible intro h; try simp only [h]) | (with_reducible refine And.intro ?_ ?_) | (change chk _ _ = true; rfl) | simp only [go_sem, seval, Vc_bool] | refine (GX_split rfl).2 ?_
  refine CX_rd [1] (c212r_ok (xs := s.seen) (t := ⟨f2, f5⟩) (by omega) (bs_srt (f := fun y : Seen => y.node) hs)) (by rfl) (by rfl) (by rfl) seen_lt (by rfl) (by decide) (by rfl) (by rw [List.map_cons, List.map_nil, List.map_cons, List.map_nil, ren_seen]; rfl) (by rfl) ?_
  have hle := bsLo_le (c := fun y : Seen => cmp y.node f2) s.seen
  have hlo : bsHit (fun y : Seen => cmp y.node f2) s.seen = true → bsLo (fun y : Seen => cmp y.node f2) s.seen < s.seen.length := by
    intro h
    rcases Nat.lt_or_ge (bsLo (fun y : Seen => cmp y.node f2) s.seen) s.seen.length with h1 | h1
    · exact h1
    · rw [bsHit, List.getElem?_eq_none h1] at h; cases h
  have hset : (s.seen.map Seen.enc).set (bsLo (fun y : Seen => cmp y.node f2) s.seen) [.int .i64 f2, .int .i64 f5] = (s.seen.set (bsLo (fun y : Seen => cmp y.node f2) s.seen) ⟨f2, f5⟩).map Seen.enc := by rw [List.map_set]; rfl
  have hsee : seeAt s.seen ⟨f2, f5⟩ = if bsHit (fun y : Seen => cmp y.node f2) s.seen = true then s.seen.set (bsLo (fun y : Seen => cmp y.node f2) s.seen) ⟨f2, f5⟩ else s.seen.take (bsLo (fun y : Seen => cmp y.node f2) s.seen) ++ ⟨f2, f5⟩ :: s.seen.drop (bsLo (fun y : Seen => cmp y.node f2) s.seen) := rfl
  rw [hsee]
  cases hh : bsHit (fun y : Seen => cmp y.node f2) s.seen with
  | true =>
    have hlt := hlo hh
    generalize bsLo (fun y : Seen => cmp y.node f2) s.seen = lo at *
    have e2 : (s.seen.map Seen.enc)[lo]? = some (Seen.enc s.seen[lo]) := by rw [List.getElem?_map, List.getElem?_eq_getElem hlt]; rfl
    have hltI : ((lo : Int) < (s.seen.length : Int)) = True := eq_true (by omega)
    rw [if_pos rfl]
    repeat' first | (with_reducible intro h; try simp only [h]) | (with_reducible refine And.intro ?_ ?_) | (change chk _ _ = true; rfl) | simp only [go_sem, seval, Vc_bool, hltI, Int.toNat_natCast, Int.natCast_nonneg, Nat.zero_add, e2, hset] | refine (GX_split rfl).2 ?_
    refine Rt.gs (Gs_freeze 1 (s' := [(4, .ptr 3 0 0 0)]) (H' := [.cells 0 21 176 true [wEnc { s with seen := s.seen.set lo ⟨f2, f5⟩ } slot c], .dead, .dead, .cells 0 14 51 true [Up.enc ⟨true, !(s.seen.any fun y => decide ((⟨f2, f5⟩ : Seen) = y)), ⟨4, f2, s.tab.node, f4, f5, f6, f7, f8, f9, f10, f11, f12⟩⟩], .dead, .dead]) rfl ?_ ?_) (Rt_T (H := [_, _]) _ (by rfl) (by rfl) (by rfl) (Nat.le_refl _))
    · repeat' (first | exact FzL.nil | refine FzL.cons ?_ ?_ | exact Fz.wk (Wk.refl _) | exact Fz.wk (Wk.nil _) | exact Fz.wk (Wk.emp _) | exact Fz.row0 _ _ _ _ | exact FzH.nil _ | exact FzO.refl _ | refine FzO.one ?_ | refine FzH.cons (by decide) ?_ ?_ | refine FzH.this rfl ?_ | exact FzO.dead (by simp) | (simp only [List.forall_mem_cons, List.not_mem_nil, false_implies, implies_true, and_true, go_sem, seval]) | refine And.intro ?_ ?_)
    · repeat' (first | exact FzL.nil | refine FzL.cons ?_ ?_ | exact Fz.wk (Wk.refl _) | exact Fz.wk (Wk.nil _) | exact Fz.wk (Wk.emp _) | exact Fz.row0 _ _ _ _ | exact FzH.nil _ | exact FzO.refl _ | refine FzO.one ?_ | refine FzH.cons (by decide) ?_ ?_ | refine FzH.this rfl ?_ | exact FzO.dead (by simp) | (simp only [List.forall_mem_cons, List.not_mem_nil, false_implies, implies_true, and_true, go_sem, seval]) | refine And.intro ?_ ?_)
      all_goals first | exact Fz.wk (Wk.refl _) | exact Fz.row 0 _ (by rw [List.drop_zero]; exact List.take_of_length_le (by simp)) (cloE_map fun _ => by rfl)
  | false =>
    generalize bsLo (fun y : Seen => cmp y.node f2) s.seen = lo at *
    rw [if_neg (by decide)]
    repeat' first | (with_reducible intro h; try simp only [h]) | (with_reducible refine And.intro ?_ ?_) | (change chk _ _ = true; rfl) | simp only [go_sem, seval, Vc_bool] | refine (GX_split rfl).2 ?_
    refine CX_eat2 1 6 (c214_ok (xs := s.seen) (v := ⟨f2, f5⟩) (i := lo) (q := 1) hle (by omega)) (by rfl) (by rfl) (by rfl) (lt_map fun _ => by rfl) (by rfl) (by decide) (by rfl) (by rfl) (by rfl) (by rfl) (by rfl) ?_
    repeat' first | (with_reducible intro h; try simp only [h]) | (with_reducible refine And.intro ?_ ?_) | (change chk _ _ = true; rfl) | simp only [go_sem, seval, Vc_bool] | refine (GX_split rfl).2 ?_
    exact Rt_T (H := [_, _]) _ (by rfl) (by rfl) (by rfl) (Nat.le_refl _)

def c104 : SC := (.seq (.reg [(.box 1 165 (.t 0)), (.alc 2 104 [(.int .i64 0), (.int .i64 0), (.int .i64 0), (.int .i64 0), (.int .i64 0), (.str (ByteArray.mk #[]))]), (.mv 3 (.c (.bool false)))]) (.seq (.reg [(.ld 5 (.t 1) false 1), (.nck 6 (.t 5)), (.fa 7 (.t 6) 0), (.fa 8 (.t 7) 3), (.fa 9 (.t 8) 1), (.ld 10 (.t 9) false 1), (.mkf 11 207 [] [(.t 1)]), (.call (some 12) (.c (.func 206 [] [])) [(.t 10), (.t 11)]), (.mv 4 (.t 12))]) (.seq (.seq (.reg [(.mv 13 (.t 4)), (.bin 14 .lss (.t 13) (.c (.int .i64 0)))]) (.cond (.t 14) (.seq (.reg [(.bld 15 [(.int .i64 0), (.int .i64 0), (.int .i64 0), (.int .i64 0), (.int .i64 0), (.str (ByteArray.mk #[]))] []), (.st (.t 2) (.t 15) 6), (.mv 3 (.c (.bool false)))]) .ret) .skip)) (.seq (.reg [(.ld 16 (.t 1) false 1), (.nck 17 (.t 16)), (.fa 18 (.t 17) 0), (.fa 19 (.t 18) 3), (.fa 20 (.t 19) 1), (.ld 21 (.t 20) false 1), (.mv 22 (.t 4)), (.ia 23 (.t 21) (.t 22) 6), (.ld 24 (.t 23) true 6), (.st (.t 2) (.t 24) 6), (.mv 3 (.c (.bool true)))]) .ret))))
theorem e104 : compC prog f104.ntmps (f104.body.getD .skip) = c104 := by kernel_rfl
def c207 : SC := (.seq (.reg [(.box 2 104 (.t 0)), (.mv 3 (.c (.bool false)))]) (.seq (.reg [(.fa 4 (.t 2) 1), (.ld 5 (.t 4) false 1), (.bin 6 .eql (.t 5) (.c (.int .i64 (-1)))), (.mv 7 (.t 6)), (.g 7 false (some 8) (.ld 8 (.t 1) false 1)), (.g 7 false (some 9) (.nck 9 (.t 8))), (.g 7 false (some 10) (.fa 10 (.t 9) 0)), (.g 7 false (some 11) (.fa 11 (.t 10) 0)), (.g 7 false (some 12) (.fa 12 (.t 11) 2)), (.g 7 false (some 13) (.ld 13 (.t 12) false 1)), (.g 7 false (some 14) (.mkf 14 209 [] [(.t 2)])), (.g 7 false (some 15) (.call (some 15) (.c (.func 208 [] [])) [(.t 13), (.t 14)])), (.g 7 false (some 16) (.not 16 (.t 15))), (.pick 17 (.t 7) (.c (.bool true)) (.t 16)), (.mv 3 (.t 17))]) .ret))
theorem e207 : compC prog f207.ntmps (f207.body.getD .skip) = c207 := by kernel_rfl
def c209 : SC := (.seq (.reg [(.box 2 57 (.t 0)), (.mv 3 (.c (.bool false)))]) (.seq (.reg [(.fa 4 (.t 2) 2), (.ld 5 (.t 4) false 1), (.bin 6 .eql (.t 5) (.c (.int .i64 2))), (.mv 7 (.t 6)), (.g 7 true (some 8) (.fa 8 (.t 2) 3)), (.g 7 true (some 9) (.ld 9 (.t 8) false 1)), (.pick 10 (.t 7) (.t 9) (.c (.bool false))), (.mv 11 (.t 10)), (.g 11 true (some 12) (.fa 12 (.t 2) 4)), (.g 11 true (some 13) (.ld 13 (.t 12) false 1)), (.g 11 true (some 14) (.fa 14 (.t 1) 1)), (.g 11 true (some 15) (.ld 15 (.t 14) false 1)), (.g 11 true (some 16) (.bin 16 .eql (.t 13) (.t 15))), (.pick 17 (.t 11) (.t 16) (.c (.bool false))), (.mv 3 (.t 17))]) .ret))
theorem e209 : compC prog f209.ntmps (f209.body.getD .skip) = c209 := by kernel_rfl
def candP (s : Station) (p : Packet) : Bool := decide (p.to = -1) || !(s.tab.cells.any fun c => decide (c.kind = 2) && c.send && decide (c.peer = p.to))
theorem c209_ok {y : TCell} {p : Packet} : ACalls prog 209 ([] ++ [.agg y.enc] ++ [.ptr 0 0 0 0]) [.cells 0 6 104 true [p.enc]] (.bool (decide (y.kind = 2) && y.send && decide (y.peer = p.to))) [.cells 0 6 104 true [p.enc]] := by
  refine calls_of hmx func209 (by kernel_rfl) (c := f209.body.getD .skip) rfl e209 (rs := [(.t 3)]) (by kernel_rfl) (by simp [ntmps209]) ?_
  simp only [c209, argS, List.nil_append, List.singleton_append]
  simp only [go_sem, seval]
  repeat' first | (with_reducible intro h; try simp only [h]) | (with_reducible refine And.intro ?_ ?_) | (change chk _ _ = true; rfl) | simp only [go_sem, seval, Vc_bool] | refine (GX_split rfl).2 ?_
  all_goals exact Rt_T (H := [_]) _ (by rfl) (by rfl) (by rfl) (Nat.le_refl _)

theorem c207n_ok {s : Station} {slot : Int} {c : TCell} {p : Packet} (hL : s.tab.cells.length < 2 ^ 62) : ACalls prog 207 ([] ++ [.agg p.enc] ++ [.ptr 2 0 0 0]) [.cells 0 21 176 true [wEncN s 1 slot c], .cells 1 2 160 false (s.seen.map Seen.enc), .cells 0 1 165 true [[.ptr 0 0 0 0]]] (.bool (candP s p)) [.cells 0 21 176 true [wEncN s 1 slot c], .cells 1 2 160 false (s.seen.map Seen.enc), .cells 0 1 165 true [[.ptr 0 0 0 0]]] := by
  refine calls_of hmx func207 (by kernel_rfl) (c := f207.body.getD .skip) rfl e207 (rs := [(.t 3)]) (by kernel_rfl) (by simp [ntmps207]) ?_
  simp only [c207, argS, List.nil_append, List.singleton_append]
  cases h0 : decide (p.to = -1)
  · have e : candP s p = !(s.tab.cells.any fun y => decide (y.kind = 2) && y.send && decide (y.peer = p.to)) := by rw [candP, h0, Bool.false_or]
    rw [e]
    repeat' first | (with_reducible intro h; try simp only [h]) | (with_reducible refine And.intro ?_ ?_) | (change chk _ _ = true; rfl) | simp only [go_sem, seval, Vc_bool, h0] | refine (GX_split rfl).2 ?_
    refine CX_rd [3] (c208_has (en := TCell.enc) (xs := s.tab.cells) (p := fun y => decide (y.kind = 2) && y.send && decide (y.peer = p.to)) (caps := [.ptr 0 0 0 0]) (first := []) (g := 209) hL (fun _ _ => by rfl) (fun _ _ => by rfl) (by rfl) (by rfl) (fun y _ => c209_ok (p := p))) (by rfl) (by rfl) (by rfl) (by rfl) (by rfl) (by decide) (by rfl) (by rfl) (by rfl) ?_
    repeat' first | (with_reducible intro h; try simp only [h]) | (with_reducible refine And.intro ?_ ?_) | (change chk _ _ = true; rfl) | simp only [go_sem, seval, Vc_bool] | refine (GX_split rfl).2 ?_
    exact Rt_T (H := [_, _, _]) _ (by rfl) (by rfl) (by rw [List.all_cons, List.all_cons, List.all_cons, List.all_nil, Bool.and_true, lt_seen, Bool.true_and]; rfl) (Nat.le_refl _)
  · have e : candP s p = true := by rw [candP, h0, Bool.true_or]
    rw [e]
    repeat' first | (with_reducible intro h; try simp only [h]) | (with_reducible refine And.intro ?_ ?_) | (change chk _ _ = true; rfl) | simp only [go_sem, seval, Vc_bool, h0] | refine (GX_split rfl).2 ?_
    exact Rt_T (H := [_, _, _]) _ (by rfl) (by rfl) (by rw [List.all_cons, List.all_cons, List.all_cons, List.all_nil, Bool.and_true, lt_seen, Bool.true_and]; rfl) (Nat.le_refl _)
theorem c104n_ok {s : Station} {slot : Int} {c : TCell} (hC : s.tab.cells.length < 2 ^ 62) (hL : s.q.pk.length < 2 ^ 62) : ACalls prog 104 [.ptr 0 0 0 0] [.cells 0 21 176 true [wEncN s 1 slot c], .cells 1 2 160 false (s.seen.map Seen.enc)] (oPk (candidate s)) [.cells 0 21 176 true [wEncN s 1 slot c], .cells 1 2 160 false (s.seen.map Seen.enc)] := by
  refine calls_of hmx func104 (by kernel_rfl) (c := f104.body.getD .skip) rfl e104 (rs := [(.cell 2 true 6), (.t 3)]) (by kernel_rfl) (by simp [ntmps104]) ?_
  simp only [c104, argS]
  have hcand : candidate s = s.q.pk.find? (candP s) := rfl
  rw [hcand]
  repeat' first | (with_reducible intro h; try simp only [h]) | (with_reducible refine And.intro ?_ ?_) | (change chk _ _ = true; rfl) | simp only [go_sem, seval, Vc_bool] | refine (GX_split rfl).2 ?_
  refine CX_rd [0, 1, 2] (c206_idx (en := Packet.enc) (xs := s.q.pk) (p := candP s) (caps := [.ptr 2 0 0 0]) (first := []) (g := 207) hL (fun _ _ => by rfl) (fun _ _ => by rfl) (by rfl) (by rw [List.all_cons, List.all_cons, List.all_cons, List.all_nil, Bool.and_true, lt_seen, Bool.true_and]; rfl) (fun p _ => c207n_ok (s := s) (slot := slot) (c := c) (p := p) hC)) (by rfl) (by rfl) (by rfl) (by rw [List.all_cons, List.all_cons, List.all_cons, List.all_nil, Bool.and_true, lt_seen, Bool.true_and]; rfl) (by rfl) (by decide) (by rfl) (by rw [List.map_cons, List.map_cons, List.map_cons, List.map_nil, List.map_cons, List.map_cons, List.map_cons, List.map_nil, ren_seen]; rfl) (by rfl) ?_
  rcases idxFrom_find (candP s) s.q.pk with ⟨h1, h2⟩ | ⟨i, x, h1, h2, h3, h4, h5⟩
  · rw [h2]
    repeat' first | (with_reducible intro h; try simp only [h]) | (with_reducible refine And.intro ?_ ?_) | (change chk _ _ = true; rfl) | simp only [go_sem, seval, Vc_bool, h1] | refine (GX_split rfl).2 ?_
    exact Rt_T (H := [_, _]) _ (by rfl) (by rfl) (by rw [List.all_cons, List.all_cons, List.all_nil, Bool.and_true, lt_seen, Bool.and_true]; rfl) (Nat.le_refl _)
  · rw [h4]
    have e2 : (s.q.pk.map Packet.enc)[i]? = some x.enc := by rw [List.getElem?_map, h1]; rfl
    have e3 : decide ((i : Int) < 0) = false := by simp
    repeat' first | (with_reducible intro h; try simp only [h]) | (with_reducible refine And.intro ?_ ?_) | (change chk _ _ = true; rfl) | simp only [go_sem, seval, Vc_bool, h3, e2, e3, Int.toNat_natCast, Int.natCast_nonneg] | refine (GX_split rfl).2 ?_
    exact Rt_T (H := [_, _]) _ (by rfl) (by rfl) (by rw [List.all_cons, List.all_cons, List.all_nil, Bool.and_true, lt_seen, Bool.and_true]; rfl) (Nat.le_refl _)

def c28 : SC := (.seq (.reg [(.box 3 31 (.t 0)), (.box 5 48 (.t 2)), (.alc 6 31 [(.int .i64 0), (.int .i64 0), .nil, (.int .i64 0), .nil, .nil, .nil, (.int .i64 0), (.int .i64 0), (.int .i64 0), (.int .i64 0), (.int .i64 0), (.int .i64 0), (.int .i64 0)]), (.alc 7 51 [(.bool false), (.bool false), (.int .i64 0), (.int .i64 0), (.int .i64 0), (.int .i64 0), (.int .i64 0), (.int .i64 0), (.int .i64 0), (.int .i64 0), (.int .i64 0), (.int .i64 0), (.int .i64 0), (.str (ByteArray.mk #[]))]), (.mv 8 (.c (.int .i64 0)))]) (.seq (.reg [(.ld 17 (.t 3) true 14), (.mv 18 (.t 1)), (.call (some 19) (.c (.func 96 [] [])) [(.t 17), (.t 18)]), (.mv 16 (.t 19)), (.ext 20 (.t 16) 0), (.ext 21 (.t 16) 1), (.mv 9 (.t 20)), (.mv 10 (.t 21))]) (.seq (.seq (.reg [(.mv 22 (.t 10)), (.bin 23 .neq (.t 22) (.c (.int .i64 0)))]) (.cond (.t 23) (.seq (.reg [(.bld 24 [(.int .i64 0), (.int .i64 0), .nil, (.int .i64 0), .nil, .nil, .nil, (.int .i64 0), (.int .i64 0), (.int .i64 0), (.int .i64 0), (.int .i64 0), (.int .i64 0), (.int .i64 0)] []), (.bld 25 [(.bool false), (.bool false), (.int .i64 0), (.int .i64 0), (.int .i64 0), (.int .i64 0), (.int .i64 0), (.int .i64 0), (.int .i64 0), (.int .i64 0), (.int .i64 0), (.int .i64 0), (.int .i64 0), (.str (ByteArray.mk #[]))] []), (.mv 26 (.t 10)), (.st (.t 6) (.t 24) 14), (.st (.t 7) (.t 25) 14), (.mv 8 (.t 26))]) .ret) .skip)) (.seq (.reg [(.bld 27 [(.bool false), (.bool false), (.int .i64 0), (.int .i64 0), (.int .i64 0), (.int .i64 0), (.int .i64 0), (.int .i64 0), (.int .i64 0), (.int .i64 0), (.int .i64 0), (.int .i64 0), (.int .i64 0), (.str (ByteArray.mk #[]))] []), (.alc 11 51 [(.bool false), (.bool false), (.int .i64 0), (.int .i64 0), (.int .i64 0), (.int .i64 0), (.int .i64 0), (.int .i64 0), (.int .i64 0), (.int .i64 0), (.int .i64 0), (.int .i64 0), (.int .i64 0), (.str (ByteArray.mk #[]))]), (.st (.t 11) (.t 27) 14)]) (.seq (.seq (.reg [(.mv 28 (.t 9)), (.call (some 29) (.c (.func 97 [] [])) [(.t 28)]), (.alc 12 43 [(.int .i64 0), (.int .i64 0), (.int .i64 0), (.int .i64 0), (.int .i64 0), (.int .i64 0), (.int .i64 0), (.int .i64 0), (.int .i64 0), (.int .i64 0), (.int .i64 0), (.int .i64 0), (.int .i64 0), (.str (ByteArray.mk #[]))]), (.st (.t 12) (.t 29) 14)]) (.block 0 (.seq (.reg [(.fa 31 (.t 12) 0), (.ld 32 (.t 31) false 1), (.bin 33 .eql (.t 32) (.c (.int .i64 1))), (.mv 34 (.t 33)), (.g 34 true (some 35) (.fa 35 (.t 12) 2)), (.g 34 true (some 36) (.fa 36 (.t 35) 0)), (.g 34 true (some 37) (.ld 37 (.t 36) false 1)), (.g 34 true (some 38) (.bin 38 .eql (.t 37) (.c (.int .i64 1)))), (.pick 39 (.t 34) (.t 38) (.c (.bool false))), (.mv 30 (.t 39))]) (.cond (.t 30) (.seq (.reg [(.fa 40 (.t 5) 0), (.ld 41 (.t 40) false 1)]) (.cond (.t 41) (.seq (.regD [(.mv 42 (.t 9)), (.nck 43 (.t 42)), (.fa 44 (.t 43) 0), (.fa 45 (.t 44) 5), (.ld 46 (.t 45) false 1), (.mv 47 (.t 9)), (.fa 48 (.t 12) 2), (.fa 49 (.t 48) 5), (.ld 50 (.t 49) false 1), (.call (some 51) (.c (.func 101 [] [])) [(.t 47), (.t 50)]), (.ia 52 (.t 46) (.t 51) 5), (.mv 13 (.t 52))] [(4, 9)]) (.regD [(.mv 53 (.t 13)), (.mv 54 (.t 13)), (.nck 55 (.t 54)), (.fa 56 (.t 55) 4), (.ld 57 (.t 56) false 1), (.fa 58 (.t 12) 2), (.fa 59 (.t 58) 2), (.ld 60 (.t 59) false 1), (.call (some 61) (.c (.func 102 [] [])) [(.t 57), (.t 60)]), (.nck 62 (.t 53)), (.fa 63 (.t 62) 4), (.st (.t 63) (.t 61) 1)] [])) .skip)) (.seq (.reg [(.fa 65 (.t 12) 0), (.ld 66 (.t 65) false 1), (.bin 67 .eql (.t 66) (.c (.int .i64 1))), (.mv 64 (.t 67))]) (.cond (.t 64) (.reg [(.mv 68 (.t 9)), (.fa 69 (.t 5) 0), (.ld 70 (.t 69) false 1), (.call (some 71) (.c (.func 103 [] [])) [(.t 68), (.t 70)])]) (.seq (.reg [(.fa 73 (.t 12) 0), (.ld 74 (.t 73) false 1), (.bin 75 .eql (.t 74) (.c (.int .i64 2))), (.mv 72 (.t 75))]) (.cond (.t 72) (.seq (.seq (.reg [(.mv 77 (.t 9)), (.call (some 78) (.c (.func 104 [] [])) [(.t 77)]), (.mv 76 (.t 78)), (.ext 79 (.t 76) 0), (.ext 80 (.t 76) 1), (.alc 14 104 [(.int .i64 0), (.int .i64 0), (.int .i64 0), (.int .i64 0), (.int .i64 0), (.str (ByteArray.mk #[]))]), (.st (.t 14) (.t 79) 6), (.mv 15 (.t 80))]) (.seq (.reg [(.mv 81 (.t 15)), (.mv 82 (.t 81)), (.g 82 true (some 83) (.mv 83 (.t 9))), (.g 82 true (some 84) (.nck 84 (.t 83))), (.g 82 true (some 85) (.fa 85 (.t 84) 15)), (.g 82 true (some 86) (.fa 86 (.t 85) 2)), (.g 82 true (some 87) (.ld 87 (.t 86) false 1)), (.g 82 true (some 88) (.bin 88 .eql (.t 87) (.c (.int .i64 3)))), (.pick 89 (.t 82) (.t 88) (.c (.bool false)))]) (.cond (.t 89) (.reg [(.mv 90 (.t 9)), (.nck 91 (.t 90)), (.fa 92 (.t 91) 0), (.fa 93 (.t 92) 12), (.ld 94 (.t 93) false 1), (.bin 95 .sub (.t 94) (.c (.int .i64 1))), (.nck 96 (.t 90)), (.fa 97 (.t 96) 0), (.fa 98 (.t 97) 12), (.st (.t 98) (.t 95) 1)]) .skip))) (.seq (.reg [(.fa 99 (.t 5) 1), (.ld 100 (.t 99) false 1)]) (.cond (.t 100) (.reg [(.mv 101 (.t 9)), (.fa 102 (.t 5) 2), (.ld 103 (.t 102) true 12), (.call (some 104) (.c (.func 105 [] [])) [(.t 101), (.t 103)]), (.st (.t 11) (.t 104) 14)]) .skip))) .skip)))))))) (.seq (.regD [(.mv 105 (.t 9)), (.nck 106 (.t 105)), (.fa 107 (.t 106) 0), (.ld 108 (.t 107) true 14), (.ld 109 (.t 11) true 14), (.st (.t 6) (.t 108) 14), (.st (.t 7) (.t 109) 14), (.mv 8 (.c (.int .i64 0)))] [(4, 5)]) .ret))))))
theorem e28 : compC prog f28.ntmps (f28.body.getD .skip) = c28 := by kernel_rfl
theorem c28_sent {s s' : Station} {slot : Int} {r : Sp.Result} {a : Action} (hB : ClBd s) (hE : slotErr s slot = 0) (hA : ACalls prog 97 [.ptr 0 0 0 0] [.cells 0 21 176 true [wEnc s slot (cellAt s slot)]] (.agg a.enc) [.cells 0 21 176 true [wEnc s slot (cellAt s slot)]])
    (ha : a.kind = 1) (hf : a.fr.kind = 4) (h103 : ACalls prog 103 [.ptr 0 0 0 0, .bool r.acked] [.cells 0 21 176 true [wEnc s slot (cellAt s slot)]] (.tup []) [.cells 0 21 176 true [wEnc s' slot (cellAt s slot)]]) :
    ACalls prog 28 [.agg s.enc, .int .i64 slot, .agg r.enc] [] (.tup [.agg s'.enc, .agg Up.zero.enc, .int .i64 0]) [] := by
  rcases a with ⟨ak, ao, ⟨fk, f2, f3, f4, f5, f6, f7, f8, f9, f10, f11, f12⟩⟩
  obtain rfl : ak = 1 := ha
  obtain rfl : fk = 4 := hf
  refine calls_of hmx func28 (by kernel_rfl) (c := f28.body.getD .skip) rfl e28 (rs := [(.cell 6 true 14), (.cell 7 true 14), (.t 8)]) (by kernel_rfl) (by simp [ntmps28]) ?_
  simp only [c28, argS]
  repeat' first | (with_reducible intro h; try simp only [h]) | (with_reducible refine And.intro ?_ ?_) | (change chk _ _ = true; rfl) | simp only [go_sem, seval, Vc_bool] | refine (GX_split rfl).2 ?_
  refine CX_new (r1 := .tup [.ptr 4 0 0 0, .int .i64 0]) (c96_ok hB hE) rfl rfl rfl (by rfl) (by rfl) ?_
  repeat' first | refine CX_rd [4] (hA) (by rfl) (by rfl) (by rfl) (by rfl) (by rfl) (by decide) (by rfl) (by rfl) (by rfl) ?_ | refine CX_put 4 (h103) (by rfl) (by rfl) (by rfl) (by rfl) (by rfl) (by rfl) (by rfl) (by rfl) ?_ | (with_reducible intro h; try simp only [h]) | (with_reducible refine And.intro ?_ ?_) | (change chk _ _ = true; rfl) | simp only [go_sem, seval, Vc_bool] | refine (GX_split rfl).2 ?_
  exact Rt_pure (by rfl) (by rfl)
theorem c28_heard {s s' : Station} {slot : Int} {r : Sp.Result} {a : Action} {up : Sp.Up} (hB : ClBd s) (hE : slotErr s slot = 0) (hA : ACalls prog 97 [.ptr 0 0 0 0] [.cells 0 21 176 true [wEncN s 1 slot (cellAt s slot)], .cells 1 2 160 false (s.seen.map Seen.enc)] (.agg a.enc) [.cells 0 21 176 true [wEncN s 1 slot (cellAt s slot)], .cells 1 2 160 false (s.seen.map Seen.enc)])
    (ha : a.kind = 2) (hk : (cellAt s slot).kind ≠ 3 ∨ candidate s = none) (hh : r.heard = true) (h105 : ACalls prog 105 [.ptr 0 0 0 0, .agg r.fr.enc] [.cells 0 21 176 true [wEncN s 1 slot (cellAt s slot)], .cells 1 2 160 false (s.seen.map Seen.enc)] (.agg up.enc) [.cells 0 21 176 true [wEnc s' slot (cellAt s slot)], .dead]) :
    ACalls prog 28 [.agg s.enc, .int .i64 slot, .agg r.enc] [] (.tup [.agg s'.enc, .agg up.enc, .int .i64 0]) [] := by
  have h96 := c96n_ok hB hE
  have h104 := c104n_ok (slot := slot) (c := cellAt s slot) hB.st.1 hB.st.2.1
  revert hA h105 h96 h104 hk
  generalize cellAt s slot = c
  rcases c with ⟨cs, co, ck, cd, cp, cf⟩
  intro hA (hk : ck ≠ 3 ∨ candidate s = none) h105 h96 h104
  rcases a with ⟨ak, ao, ⟨fk, f2, f3, f4, f5, f6, f7, f8, f9, f10, f11, f12⟩⟩
  obtain rfl : ak = 2 := ha
  have hcl : ([.cells 0 21 176 true [wEncN s 1 slot ⟨cs, co, ck, cd, cp, cf⟩], .cells 1 2 160 false (s.seen.map Seen.enc)] : Heap).all (ltO 2) = true := by rw [List.all_cons, List.all_cons, List.all_nil, Bool.and_true, lt_seen, Bool.and_true]; rfl
  refine calls_of hmx func28 (by kernel_rfl) (c := f28.body.getD .skip) rfl e28 (rs := [(.cell 6 true 14), (.cell 7 true 14), (.t 8)]) (by kernel_rfl) (by simp [ntmps28]) ?_
  simp only [c28, argS]
  repeat' first | (with_reducible intro h; try simp only [h]) | (with_reducible refine And.intro ?_ ?_) | (change chk _ _ = true; rfl) | simp only [go_sem, seval, Vc_bool] | refine (GX_split rfl).2 ?_
  refine CX_w [] [] (r1 := .tup [.ptr 4 0 0 0, .int .i64 0]) (H1 := [_, _, _, _, .cells 0 21 176 true [wEncN s 5 slot ⟨cs, co, ck, cd, cp, cf⟩], .cells 1 2 160 false (s.seen.map Seen.enc)]) h96 (by rfl) (by rfl) (by rfl) (by rfl) (by rfl) (by decide) (by rfl) (by rfl) (Nat.zero_le _) trivial (by rfl) (by rfl) (by show _ ++ List.map _ [_, _] = _; rw [List.map_cons, List.map_cons, List.map_nil, ren_seen]; rfl) ?_
  repeat' first | refine CX_rd [4, 5] (hA) (by rfl) (by rfl) (by rfl) (by rw [List.all_cons, List.all_cons, List.all_nil, Bool.and_true, lt_seen, Bool.and_true]; rfl) (by rfl) (by decide) (by rfl) (by rw [List.map_cons, List.map_cons, List.map_nil, List.map_cons, List.map_cons, List.map_nil, ren_seen]; rfl) (by rfl) ?_ | (with_reducible intro h; try simp only [h]) | (with_reducible refine And.intro ?_ ?_) | (change chk _ _ = true; rfl) | simp only [go_sem, seval, Vc_bool] | refine (GX_split rfl).2 ?_
  cases hc : candidate s with
  | none =>
    rw [hc] at h104
    repeat' first | refine CX_rd [4, 5] (h104) (by rfl) (by rfl) (by rfl) (by rw [List.all_cons, List.all_cons, List.all_nil, Bool.and_true, lt_seen, Bool.and_true]; rfl) (by rfl) (by decide) (by rfl) (by rw [List.map_cons, List.map_cons, List.map_nil, List.map_cons, List.map_cons, List.map_nil, ren_seen]; rfl) (by rfl) ?_ | (with_reducible intro h; try simp only [h]) | (with_reducible refine And.intro ?_ ?_) | (change chk _ _ = true; rfl) | simp only [go_sem, seval, Vc_bool, oPk_none, hh] | refine (GX_split rfl).2 ?_
    refine CX_put2 4 5 h105 (by rfl) (by rfl) (by rfl) (by rfl) lt_seen (by rfl) (by rfl) (by decide) (by rfl) ren_seen.symm (by rfl) (by rfl) (by rfl) ?_
    repeat' first | (with_reducible intro h; try simp only [h]) | (with_reducible refine And.intro ?_ ?_) | (change chk _ _ = true; rfl) | simp only [go_sem, seval, Vc_bool] | refine (GX_split rfl).2 ?_
    exact Rt_pure (by rfl) (by rfl)
  | some p =>
    rw [hc] at h104
    have k3 : decide (ck = 3) = false := by simpa [hc] using hk
    repeat' first | refine CX_rd [4, 5] (h104) (by rfl) (by rfl) (by rfl) (by rw [List.all_cons, List.all_cons, List.all_nil, Bool.and_true, lt_seen, Bool.and_true]; rfl) (by rfl) (by decide) (by rfl) (by rw [List.map_cons, List.map_cons, List.map_nil, List.map_cons, List.map_cons, List.map_nil, ren_seen]; rfl) (by rfl) ?_ | (with_reducible intro h; try simp only [h]) | (with_reducible refine And.intro ?_ ?_) | (change chk _ _ = true; rfl) | simp only [go_sem, seval, Vc_bool, oPk_some, hh, k3] | refine (GX_split rfl).2 ?_
    refine CX_put2 4 5 h105 (by rfl) (by rfl) (by rfl) (by rfl) lt_seen (by rfl) (by rfl) (by decide) (by rfl) ren_seen.symm (by rfl) (by rfl) (by rfl) ?_
    repeat' first | (with_reducible intro h; try simp only [h]) | (with_reducible refine And.intro ?_ ?_) | (change chk _ _ = true; rfl) | simp only [go_sem, seval, Vc_bool] | refine (GX_split rfl).2 ?_
    exact Rt_pure (by rfl) (by rfl)

def c155 : SC := (.seq (.reg [(.box 2 27 (.t 0)), (.box 3 104 (.t 1)), (.alc 4 27 [(.int .i64 0), .nil]), (.mv 5 (.c .nil)), (.mv 6 (.c (.int .i64 0)))]) (.seq (.seq (.reg [(.ld 12 (.t 2) true 2), (.call (some 13) (.c (.func 188 [] [])) [(.t 12)]), (.bin 14 .neq (.t 13) (.c (.int .i64 0)))]) (.cond (.t 14) (.seq (.reg [(.bld 15 [(.int .i64 0), .nil] []), (.st (.t 4) (.t 15) 2), (.mv 5 (.c .nil)), (.mv 6 (.c (.int .i64 1)))]) .ret) .skip)) (.seq (.seq (.reg [(.ld 16 (.t 3) true 6), (.call (some 17) (.c (.func 265 [] [])) [(.t 16)]), (.mv 7 (.t 17))]) (.seq (.reg [(.mv 18 (.t 7)), (.bin 19 .neq (.t 18) (.c (.int .i64 0)))]) (.cond (.t 19) (.seq (.reg [(.bld 20 [(.int .i64 0), .nil] []), (.mv 21 (.t 7)), (.st (.t 4) (.t 20) 2), (.mv 5 (.c .nil)), (.mv 6 (.t 21))]) .ret) .skip))) (.seq (.seq (.reg [(.ld 22 (.t 2) true 2), (.fa 23 (.t 3) 0), (.ld 24 (.t 23) false 1), (.call (some 25) (.c (.func 266 [] [])) [(.t 22), (.t 24)]), (.bin 26 .geq (.t 25) (.c (.int .i64 0)))]) (.cond (.t 26) (.seq (.reg [(.bld 27 [(.int .i64 0), .nil] []), (.st (.t 4) (.t 27) 2), (.mv 5 (.c .nil)), (.mv 6 (.c (.int .i64 6)))]) .ret) .skip)) (.seq (.reg [(.fa 28 (.t 2) 1), (.ld 29 (.t 28) false 1), (.call (some 30) (.c (.func 260 [] [])) [(.t 29)]), (.mv 8 (.t 30))]) (.seq (.reg [(.mv 9 (.c .nil))]) (.seq (.seq (.reg [(.mv 31 (.t 8)), (.len 32 false (.t 31)), (.bin 33 .sub (.t 32) (.c (.int .i64 1))), (.mv 10 (.t 33))]) (.seq (.reg [(.mv 34 (.t 8)), (.len 35 false (.t 34)), (.fa 36 (.t 2) 0), (.ld 37 (.t 36) false 1), (.bin 38 .eql (.t 35) (.t 37))]) (.cond (.t 38) (.seq (.seq (.regD [(.mv 39 (.t 8)), (.mv 40 (.t 10)), (.ia 41 (.t 39) (.t 40) 6), (.fa 42 (.t 41) 2), (.ld 43 (.t 42) false 1), (.fa 44 (.t 3) 2), (.ld 45 (.t 44) false 1), (.bin 46 .leq (.t 43) (.t 45))] []) (.cond (.t 46) (.seq (.reg [(.bld 47 [(.int .i64 0), .nil] []), (.st (.t 4) (.t 47) 2), (.mv 5 (.c .nil)), (.mv 6 (.c (.int .i64 13)))]) .ret) .skip)) (.regD [(.mv 48 (.t 9)), (.mv 49 (.t 8)), (.mv 50 (.t 10)), (.ia 51 (.t 49) (.t 50) 6), (.ld 52 (.t 51) true 6), (.bsl 53 104 6 [(.int .i64 0), (.int .i64 0), (.int .i64 0), (.int .i64 0), (.int .i64 0), (.str (ByteArray.mk #[]))] 1 [(0, (.t 52))]), (.app 54 104 6 56 (.t 48) (.t 53)), (.mv 55 (.t 8)), (.mv 56 (.t 10)), (.slc 57 6 (.t 55) none (some (.t 56)) none), (.mv 9 (.t 54)), (.mv 8 (.t 57))] [(5, 9), (6, 9)])) .skip))) (.seq (.reg [(.mv 58 (.t 8)), (.mkf 59 267 [] [(.t 3)]), (.call (some 60) (.c (.func 206 [] [])) [(.t 58), (.t 59)]), (.mv 11 (.t 60))]) (.seq (.seq (.reg [(.mv 61 (.t 11)), (.bin 62 .lss (.t 61) (.c (.int .i64 0)))]) (.cond (.t 62) (.reg [(.mv 63 (.t 8)), (.len 64 false (.t 63)), (.mv 11 (.t 64))]) .skip)) (.seq (.regD [(.fa 65 (.t 2) 0), (.ld 66 (.t 65) false 1), (.mv 67 (.t 8)), (.mv 68 (.t 11)), (.ld 69 (.t 3) true 6), (.bsl 70 104 6 [(.int .i64 0), (.int .i64 0), (.int .i64 0), (.int .i64 0), (.int .i64 0), (.str (ByteArray.mk #[]))] 1 [(0, (.t 69))]), (.call (some 71) (.c (.func 268 [] [])) [(.t 67), (.t 68), (.t 70)]), (.bld 72 [(.int .i64 0), .nil] [(0, 1, (.t 66)), (1, 1, (.t 71))]), (.mv 73 (.t 9)), (.st (.t 4) (.t 72) 2), (.mv 5 (.t 73)), (.mv 6 (.c (.int .i64 0)))] [(1, 5), (1, 6)]) .ret))))))))))
theorem e155 : compC prog f155.ntmps (f155.body.getD .skip) = c155 := by kernel_rfl
def c267 : SC := (.seq (.reg [(.box 2 104 (.t 0)), (.mv 3 (.c (.bool false)))]) (.seq (.reg [(.fa 4 (.t 2) 2), (.ld 5 (.t 4) false 1), (.fa 6 (.t 1) 2), (.ld 7 (.t 6) false 1), (.bin 8 .gtr (.t 5) (.t 7)), (.mv 3 (.t 8))]) .ret))
theorem e267 : compC prog f267.ntmps (f267.body.getD .skip) = c267 := by kernel_rfl
theorem lt_pk {l : List Packet} {m q : Nat} {fu : Bool} : ltO m (.cells q 6 104 fu (l.map Packet.enc)) = true := ltO_mono (Nat.zero_le m) (lt_map fun _ => by rfl)
theorem ren_pk {l : List Packet} {r : Nat → Nat} {q : Nat} {fu : Bool} : renO r (.cells q 6 104 fu (l.map Packet.enc)) = .cells q 6 104 fu (l.map Packet.enc) := renO_lt (m := 0) (fun id h => by omega) lt_pk
theorem c267_ok {y p : Packet} : ACalls prog 267 [.agg y.enc, .ptr 0 0 0 0] [.cells 0 6 104 true [p.enc]] (.bool (decide (p.pri < y.pri))) [.cells 0 6 104 true [p.enc]] := by
  refine calls_of hmx func267 (by kernel_rfl) (c := f267.body.getD .skip) rfl e267 (rs := [(.t 3)]) (by kernel_rfl) (by simp [ntmps267]) ?_
  simp only [c267, argS]
  repeat' first | (with_reducible intro h; try simp only [h]) | (with_reducible refine And.intro ?_ ?_) | (change chk _ _ = true; rfl) | simp only [go_sem, seval, Vc_bool] | refine (GX_split rfl).2 ?_
  exact Rt_T (H := [_]) _ (by rfl) (by rfl) (by rfl) (Nat.le_refl _)
theorem pk_lt2 {l : List Packet} {p : Packet} {q : Nat} : ([.cells q 6 104 false (l.map Packet.enc), .cells 0 6 104 true [p.enc]] : Heap).all (ltO 2) = true := by rw [List.all_cons, List.all_cons, List.all_nil, Bool.and_true, lt_pk, Bool.true_and]; rfl
theorem l206r (l : List Packet) (p : Packet) (q : Nat) (hL : l.length < 2 ^ 62) (k' : List It) (hk : ∀ zs, V prog f206.ntmps 2 (Ret [.t 4] 2 (.int .i64 (-1)) [.cells q 6 104 false (l.map Packet.enc), .cells 0 6 104 true [p.enc]]) k' zs [.cells q 6 104 false (l.map Packet.enc), .cells 0 6 104 true [p.enc]]) : ∀ (rest done : List Packet), l = done ++ rest →
    Lp prog f206.ntmps 2 (Ret [.t 4] 2 (.int .i64 (idxFrom (fun y : Packet => decide (p.pri < y.pri)) done.length rest)) [.cells q 6 104 false (l.map Packet.enc), .cells 0 6 104 true [p.enc]]) (cIdxL 6) (.blk 0 :: k') [(0, .row 0 q 0 l.length), (1, .func 267 [] [.ptr 1 0 0 0]), (7, .int .i64 l.length), (8, .int .i64 done.length)] [.cells q 6 104 false (l.map Packet.enc), .cells 0 6 104 true [p.enc]] := by
  intro rest
  induction rest with
  | nil =>
    intro done hd
    refine Lp.of_eq hmx (cIdxL.eq_1 6) ?_
    have h1 := rg_end hd
    simp only [go_sem, seval, h1]
    exact hk _
  | cons c rest ih =>
    intro done hd
    refine Lp.of_eq hmx (cIdxL.eq_1 6) ?_
    obtain ⟨h1, h2, h3, h4⟩ := rg_hd Packet.enc hd hL
    have ih' := ih _ h4
    have hlt : ((done.length : Int) < (l.length : Int)) = True := eq_true (by have := congrArg List.length hd; simp at this; omega)
    repeat' first | refine CX_rd [1] (c267_ok (y := c) (p := p)) (by rfl) (by rfl) (by rfl) (by rfl) (by rfl) (by decide) (by rfl) (by rfl) (by rfl) ?_ | (with_reducible intro h; try simp only [h]) | (with_reducible refine And.intro ?_ ?_) | (change chk _ _ = true; rfl) | simp only [go_sem, seval, Vc_bool, h1, h2, h3, hlt, Int.toNat_natCast, Int.natCast_nonneg, Nat.zero_add] | refine (GX_split rfl).2 ?_
    · have e : idxFrom (fun y : Packet => decide (p.pri < y.pri)) done.length (c :: rest) = done.length := by rw [idxFrom, if_pos h]
      rw [e]
      exact Rt_all (by rfl) (by rfl) pk_lt2 (Nat.le_refl _)
    · have e : idxFrom (fun y : Packet => decide (p.pri < y.pri)) done.length (c :: rest) = idxFrom (fun y : Packet => decide (p.pri < y.pri)) (done ++ [c]).length rest := by rw [idxFrom, if_neg (by simpa using h)]; simp
      rw [e]
      exact Lp.bkE0 ih' (by rfl) rfl
theorem c206r_ok {l : List Packet} {p : Packet} {q : Nat} (hL : l.length < 2 ^ 62) : ACalls prog 206 [.row 0 q 0 l.length, .func 267 [] [.ptr 1 0 0 0]] [.cells q 6 104 false (l.map Packet.enc), .cells 0 6 104 true [p.enc]] (.int .i64 (idxFrom (fun y : Packet => decide (p.pri < y.pri)) 0 l)) [.cells q 6 104 false (l.map Packet.enc), .cells 0 6 104 true [p.enc]] := by
  refine calls_of hmx func206 (by kernel_rfl) (c := f206.body.getD .skip) rfl e206 (rs := [(.t 4)]) (by kernel_rfl) (by simp [ntmps206]) ?_
  simp only [cIdx, argS]
  simp only [go_sem, seval, List.length_map]
  refine Lp.bkE0 (l206r l p q hL _ (fun s => ?_) l [] rfl) (by rfl) rfl
  simp only [go_sem, seval]
  exact Rt_all (by rfl) (by rfl) pk_lt2 (Nat.le_refl _)
def putIdx (l : List Packet) (pri : Int) : Nat := if idxFrom (fun y : Packet => decide (pri < y.pri)) 0 l < 0 then l.length else (idxFrom (fun y : Packet => decide (pri < y.pri)) 0 l).toNat
def putAt (l : List Packet) (p : Packet) : List Packet := l.take (putIdx l p.pri) ++ p :: l.drop (putIdx l p.pri)
theorem c155_put {q : Queue} {p : Packet} (hb : (q.pk.length + 1) * 56 ≤ 140737488355328) (hq : qErr q = 0) (hp : pkErr p = 0) (hn : pkIdx q.pk p.id = -1) (hf : (q.pk.length : Int) ≠ q.limit) :
    ACalls prog 155 [.agg q.enc, .agg p.enc] [] (.tup [.agg (Queue.enc ⟨q.limit, putAt q.pk p⟩), .nil, .int .i64 0]) [] := by
  have w1 : IntKind.i64.wrap ((q.pk.length : Int) - 1) = (q.pk.length : Int) - 1 := wrap_ok (by omega) (by omega)
  have f1 : decide ((q.pk.length : Int) = q.limit) = false := by simpa using hf
  refine calls_of hmx func155 (by kernel_rfl) (c := f155.body.getD .skip) rfl e155 (rs := [(.cell 4 true 2), (.t 5), (.t 6)]) (by kernel_rfl) (by simp [ntmps155]) ?_
  simp only [c155, argS]
  repeat' first | refine CX_pure (c188_ok (by omega)) rfl rfl rfl rfl ?_ | refine CX_pure (c265_ok) rfl rfl rfl rfl ?_ | refine CX_pure (c266_ok (by omega)) rfl rfl rfl rfl ?_ | refine GX_call (fun _ => (c188_ok (by omega))) (by rfl) (by intro h; simp only [h]; rfl) (by rfl) (by rfl) ?_ | refine GX_call (fun _ => (c265_ok)) (by rfl) (by intro h; simp only [h]; rfl) (by rfl) (by rfl) ?_ | refine GX_call (fun _ => (c266_ok (by omega))) (by rfl) (by intro h; simp only [h]; rfl) (by rfl) (by rfl) ?_ | (with_reducible intro h; try simp only [h]) | (with_reducible refine And.intro ?_ ?_) | (change chk _ _ = true; rfl) | simp only [go_sem, seval, Vc_bool, hq, hp, hn] | refine (GX_split rfl).2 ?_
  refine CX_new (r1 := .row 3 1 0 q.pk.length) (c260w_ok (xs := q.pk) (by omega)) rfl rfl rfl (by rw [List.all_cons, List.all_nil, Bool.and_true]; exact lt_pk) (by rfl) ?_
  repeat' first | (with_reducible intro h; try simp only [h]) | (with_reducible refine And.intro ?_ ?_) | (change chk _ _ = true; rfl) | simp only [go_sem, seval, Vc_bool, w1, f1] | refine (GX_split rfl).2 ?_
  refine CX_rd [3, 1] (c206r_ok (l := q.pk) (p := p) (q := 1) (by omega)) (by rfl) (by rfl) (by rfl) pk_lt2 (by rfl) (by decide) (by rfl) (by rw [List.map_cons, List.map_cons, List.map_nil, List.map_cons, List.map_cons, List.map_nil, ren_pk]; rfl) (by rfl) ?_
  rcases idxFrom_find (fun y : Packet => decide (p.pri < y.pri)) q.pk with ⟨h1, h2⟩ | ⟨i, x, h1, h2, h3, h4, h5⟩
  · have e : putAt q.pk p = q.pk.take q.pk.length ++ p :: q.pk.drop q.pk.length := by rw [putAt, putIdx, h1]; rfl
    rw [e]
    repeat' first | (with_reducible intro h; try simp only [h]) | (with_reducible refine And.intro ?_ ?_) | (change chk _ _ = true; rfl) | simp only [go_sem, seval, Vc_bool, h1] | refine (GX_split rfl).2 ?_
    refine CX_eat2 3 4 (c268_ok (xs := q.pk) (v := p) (i := q.pk.length) (q := 1) (Nat.le_refl _) hb) (by rfl) (by rfl) (by rfl) lt_pk (by rfl) (by decide) (by rfl) (by rfl) (by rfl) (by rfl) (by rfl) ?_
    repeat' first | (with_reducible intro h; try simp only [h]) | (with_reducible refine And.intro ?_ ?_) | (change chk _ _ = true; rfl) | simp only [go_sem, seval, Vc_bool] | refine (GX_split rfl).2 ?_
    exact Rt_pure (by rfl) (by rfl)
  · have e : putAt q.pk p = q.pk.take i ++ p :: q.pk.drop i := by rw [putAt, putIdx, h3, if_neg (by omega)]; rfl
    have e3 : decide ((i : Int) < 0) = false := by simp
    rw [e]
    repeat' first | (with_reducible intro h; try simp only [h]) | (with_reducible refine And.intro ?_ ?_) | (change chk _ _ = true; rfl) | simp only [go_sem, seval, Vc_bool, h3, e3] | refine (GX_split rfl).2 ?_
    refine CX_eat2 3 4 (c268_ok (xs := q.pk) (v := p) (i := i) (q := 1) (by omega) hb) (by rfl) (by rfl) (by rfl) lt_pk (by rfl) (by decide) (by rfl) (by rfl) (by rfl) (by rfl) (by rfl) ?_
    repeat' first | (with_reducible intro h; try simp only [h]) | (with_reducible refine And.intro ?_ ?_) | (change chk _ _ = true; rfl) | simp only [go_sem, seval, Vc_bool] | refine (GX_split rfl).2 ?_
    exact Rt_pure (by rfl) (by rfl)

def c156 : SC := (.seq (.reg [(.box 1 31 (.t 0)), (.alc 2 31 [(.int .i64 0), (.int .i64 0), .nil, (.int .i64 0), .nil, .nil, .nil, (.int .i64 0), (.int .i64 0), (.int .i64 0), (.int .i64 0), (.int .i64 0), (.int .i64 0), (.int .i64 0)])]) (.seq (.seq (.reg [(.fa 3 (.t 1) 9), (.ld 4 (.t 3) false 1), (.bin 5 .geq (.t 4) (.c (.int .i64 0))), (.mv 6 (.t 5)), (.g 6 true (some 7) (.fa 7 (.t 1) 3)), (.g 6 true (some 8) (.ld 8 (.t 7) true 2)), (.g 6 true (some 9) (.fa 9 (.t 1) 9)), (.g 6 true (some 10) (.ld 10 (.t 9) false 1)), (.g 6 true (some 11) (.call (some 11) (.c (.func 84 [] [])) [(.t 8), (.t 10)])), (.g 6 true (some 12) (.not 12 (.t 11))), (.pick 13 (.t 6) (.t 12) (.c (.bool false)))]) (.cond (.t 13) (.reg [(.fa 14 (.t 1) 9), (.st (.t 14) (.c (.int .i64 (-1))) 1), (.fa 15 (.t 1) 10), (.st (.t 15) (.c (.int .i64 0)) 1)]) .skip)) (.seq (.reg [(.ld 16 (.t 1) true 14), (.st (.t 2) (.t 16) 14)]) .ret)))
theorem e156 : compC prog f156.ntmps (f156.body.getD .skip) = c156 := by kernel_rfl
def c47 : SC := (.seq (.reg [(.box 2 31 (.t 0)), (.box 3 104 (.t 1)), (.alc 4 31 [(.int .i64 0), (.int .i64 0), .nil, (.int .i64 0), .nil, .nil, .nil, (.int .i64 0), (.int .i64 0), (.int .i64 0), (.int .i64 0), (.int .i64 0), (.int .i64 0), (.int .i64 0)]), (.mv 5 (.c .nil)), (.mv 6 (.c (.int .i64 0)))]) (.seq (.seq (.reg [(.ld 10 (.t 2) true 14), (.call (some 11) (.c (.func 22 [] [])) [(.t 10)]), (.bin 12 .neq (.t 11) (.c (.int .i64 0)))]) (.cond (.t 12) (.seq (.reg [(.bld 13 [(.int .i64 0), (.int .i64 0), .nil, (.int .i64 0), .nil, .nil, .nil, (.int .i64 0), (.int .i64 0), (.int .i64 0), (.int .i64 0), (.int .i64 0), (.int .i64 0), (.int .i64 0)] []), (.st (.t 4) (.t 13) 14), (.mv 5 (.c .nil)), (.mv 6 (.c (.int .i64 1)))]) .ret) .skip)) (.seq (.reg [(.fa 15 (.t 2) 3), (.ld 16 (.t 15) true 2), (.ld 17 (.t 3) true 6), (.call (some 18) (.c (.func 155 [] [])) [(.t 16), (.t 17)]), (.mv 14 (.t 18)), (.ext 19 (.t 14) 0), (.ext 20 (.t 14) 1), (.ext 21 (.t 14) 2), (.alc 7 27 [(.int .i64 0), .nil]), (.st (.t 7) (.t 19) 2), (.mv 8 (.t 20)), (.mv 9 (.t 21))]) (.seq (.block 0 (.seq (.reg [(.mv 23 (.t 9)), (.bin 24 .neq (.t 23) (.c (.int .i64 0))), (.mv 22 (.t 24))]) (.cond (.t 22) (.seq (.reg [(.bld 25 [(.int .i64 0), (.int .i64 0), .nil, (.int .i64 0), .nil, .nil, .nil, (.int .i64 0), (.int .i64 0), (.int .i64 0), (.int .i64 0), (.int .i64 0), (.int .i64 0), (.int .i64 0)] []), (.mv 26 (.t 9)), (.st (.t 4) (.t 25) 14), (.mv 5 (.c .nil)), (.mv 6 (.t 26))]) .ret) (.seq (.reg [(.fa 28 (.t 3) 1), (.ld 29 (.t 28) false 1), (.fa 30 (.t 2) 0), (.fa 31 (.t 30) 0), (.ld 32 (.t 31) false 1), (.bin 33 .eql (.t 29) (.t 32)), (.mv 27 (.t 33))]) (.cond (.t 27) (.seq (.reg [(.bld 34 [(.int .i64 0), (.int .i64 0), .nil, (.int .i64 0), .nil, .nil, .nil, (.int .i64 0), (.int .i64 0), (.int .i64 0), (.int .i64 0), (.int .i64 0), (.int .i64 0), (.int .i64 0)] []), (.st (.t 4) (.t 34) 14), (.mv 5 (.c .nil)), (.mv 6 (.c (.int .i64 12)))]) .ret) (.seq (.reg [(.fa 36 (.t 3) 5), (.ld 37 (.t 36) false 1), (.len 38 true (.t 37)), (.bin 39 .gtr (.t 38) (.c (.int .i64 100))), (.mv 35 (.t 39))]) (.cond (.t 35) (.seq (.reg [(.bld 40 [(.int .i64 0), (.int .i64 0), .nil, (.int .i64 0), .nil, .nil, .nil, (.int .i64 0), (.int .i64 0), (.int .i64 0), (.int .i64 0), (.int .i64 0), (.int .i64 0), (.int .i64 0)] []), (.st (.t 4) (.t 40) 14), (.mv 5 (.c .nil)), (.mv 6 (.c (.int .i64 8)))]) .ret) .skip))))))) (.seq (.reg [(.ld 41 (.t 2) true 14), (.call (some 42) (.c (.func 152 [] [])) [(.t 41)]), (.st (.t 2) (.t 42) 14)]) (.seq (.reg [(.ld 43 (.t 7) true 2), (.fa 44 (.t 2) 3), (.st (.t 44) (.t 43) 2)]) (.seq (.reg [(.ld 45 (.t 2) true 14), (.call (some 46) (.c (.func 156 [] [])) [(.t 45)]), (.mv 47 (.t 8)), (.st (.t 4) (.t 46) 14), (.mv 5 (.t 47)), (.mv 6 (.c (.int .i64 0)))]) .ret)))))))
theorem e47 : compC prog f47.ntmps (f47.body.getD .skip) = c47 := by kernel_rfl
def settleG (s : Station) : Station := if (decide (0 ≤ s.trying) && !hasId s.q.pk s.trying) = true then { s with trying := -1, tries := 0 } else s
theorem c156_pf (s : Station) (hL : s.q.pk.length < 2 ^ 62) : ACalls prog 156 [.agg [.int .i64 s.tab.node, .int .i64 s.tab.len, .sl 6 (s.tab.cells.map TCell.enc), .int .i64 s.q.limit, .sl 6 (s.q.pk.map Packet.enc), .sl 5 (s.held.map Held.enc), .sl 2 (s.seen.map Seen.enc), .int .i64 s.list, .int .i64 s.seq, .int .i64 s.trying, .int .i64 s.tries, .int .i64 s.back, .int .i64 s.wait, .int .i64 s.seed]] [] (.agg (settleG s).enc) [] := by
  refine calls_of hmx func156 (by kernel_rfl) (c := f156.body.getD .skip) rfl e156 (rs := [(.cell 2 true 14)]) (by kernel_rfl) (by simp [ntmps156]) ?_
  simp only [c156, argS]
  repeat' first | refine CX_pure (c84_ok hL) rfl rfl rfl rfl ?_ | refine GX_call (fun _ => (c84_ok hL)) (by rfl) (by intro h; simp only [h]; rfl) (by rfl) (by rfl) ?_ | (with_reducible intro h; try simp only [h]) | (with_reducible refine And.intro ?_ ?_) | (change chk _ _ = true; rfl) | simp only [go_sem, seval, Vc_bool] | refine (GX_split rfl).2 ?_
  · have e : settleG s = { s with trying := -1, tries := 0 } := by rw [settleG, if_pos h]
    rw [e]
    exact Rt_pure (by rfl) (by rfl)
  · have e : settleG s = s := by rw [settleG, if_neg (by rw [h]; decide)]
    rw [e]
    exact Rt_pure (by rfl) (by rfl)
theorem c47_put {s : Station} {p : Packet} (hB : ClBd s) (h0 : stOk s = true) (hb : (s.q.pk.length + 1) * 56 ≤ 140737488355328) (hp : pkErr p = 0) (hn : pkIdx s.q.pk p.id = -1) (hf : (s.q.pk.length : Int) ≠ s.q.limit) (ht : p.to ≠ s.tab.node) (hd : (p.data.size : Int) ≤ 100) :
    ACalls prog 47 [.agg s.enc, .agg p.enc] [] (.tup [.agg (settleG { s with q := ⟨s.q.limit, putAt s.q.pk p⟩ }).enc, .nil, .int .i64 0]) [] := by
  have hq : qErr s.q = 0 := by simp only [stOk, pksOk, Bool.and_eq_true, decide_eq_true_eq] at h0; exact h0.1.1.1.1.1.1.1.1.2.1
  have e1 : stErr s = 0 := by rw [stErr, if_pos h0]
  have e2 : decide (p.to = s.tab.node) = false := by simpa using ht
  have e3 : decide (100 < (p.data.size : Int)) = false := by simp; omega
  have hl : (putAt s.q.pk p).length < 2 ^ 62 := by
    have h1 : (putAt s.q.pk p).length ≤ s.q.pk.length + (s.q.pk.length + 1) := by
      simp only [putAt, List.length_append, List.length_cons, List.length_take, List.length_drop]; omega
    omega
  refine calls_of hmx func47 (by kernel_rfl) (c := f47.body.getD .skip) rfl e47 (rs := [(.cell 4 true 14), (.t 5), (.t 6)]) (by kernel_rfl) (by simp [ntmps47]) ?_
  simp only [c47, argS]
  repeat' first | refine CX_pure (c22_pf s hB.st) rfl rfl rfl rfl ?_ | refine CX_pure (c155_put hb hq hp hn hf) rfl rfl rfl rfl ?_ | refine CX_pure (c152_pf s hB) rfl rfl rfl rfl ?_ | refine CX_pure (c156_pf { s with q := ⟨s.q.limit, putAt s.q.pk p⟩ } hl) rfl rfl rfl rfl ?_ | refine GX_call (fun _ => (c22_pf s hB.st)) (by rfl) (by intro h; simp only [h]; rfl) (by rfl) (by rfl) ?_ | refine GX_call (fun _ => (c155_put hb hq hp hn hf)) (by rfl) (by intro h; simp only [h]; rfl) (by rfl) (by rfl) ?_ | refine GX_call (fun _ => (c152_pf s hB)) (by rfl) (by intro h; simp only [h]; rfl) (by rfl) (by rfl) ?_ | refine GX_call (fun _ => (c156_pf { s with q := ⟨s.q.limit, putAt s.q.pk p⟩ } hl)) (by rfl) (by intro h; simp only [h]; rfl) (by rfl) (by rfl) ?_ | (with_reducible intro h; try simp only [h]) | (with_reducible refine And.intro ?_ ?_) | (change chk _ _ = true; rfl) | simp only [go_sem, seval, Vc_bool, e1, e2, e3] | refine (GX_split rfl).2 ?_
  exact Rt_pure (by rfl) (by rfl)

def c78 : SC := (.seq (.reg [(.alc 0 31 [(.int .i64 0), (.int .i64 0), .nil, (.int .i64 0), .nil, .nil, .nil, (.int .i64 0), (.int .i64 0), (.int .i64 0), (.int .i64 0), (.int .i64 0), (.int .i64 0), (.int .i64 0)]), (.alc 1 31 [(.int .i64 0), (.int .i64 0), .nil, (.int .i64 0), .nil, .nil, .nil, (.int .i64 0), (.int .i64 0), (.int .i64 0), (.int .i64 0), (.int .i64 0), (.int .i64 0), (.int .i64 0)]), (.mv 2 (.c (.bool false)))]) (.seq (.reg [(.bld 8 [(.int .i64 0), (.int .i64 0), (.int .i64 0), (.bool false), (.int .i64 0), (.int .i64 0)] [(2, 1, (.c (.int .i64 2))), (3, 1, (.c (.bool true))), (4, 1, (.c (.int .i64 2))), (5, 1, (.c (.int .i64 (-1))))]), (.bsl 9 57 6 [(.int .i64 0), (.int .i64 0), (.int .i64 0), (.bool false), (.int .i64 0), (.int .i64 0)] 1 [(0, (.t 8))]), (.bld 10 [(.int .i64 0), (.int .i64 0), .nil] [(0, 1, (.c (.int .i64 1))), (1, 1, (.c (.int .i64 2))), (2, 1, (.t 9))]), (.call (some 11) (.c (.func 20 [] [])) [(.t 10), (.c (.int .i64 8)), (.c (.int .i64 0))]), (.mv 7 (.t 11)), (.ext 12 (.t 7) 0), (.ext 13 (.t 7) 1), (.alc 3 31 [(.int .i64 0), (.int .i64 0), .nil, (.int .i64 0), .nil, .nil, .nil, (.int .i64 0), (.int .i64 0), (.int .i64 0), (.int .i64 0), (.int .i64 0), (.int .i64 0), (.int .i64 0)]), (.st (.t 3) (.t 12) 14), (.mv 4 (.t 13))]) (.seq (.reg [(.bld 15 [(.int .i64 0), (.int .i64 0), (.int .i64 0), (.bool false), (.int .i64 0), (.int .i64 0)] [(2, 1, (.c (.int .i64 2))), (4, 1, (.c (.int .i64 1))), (5, 1, (.c (.int .i64 (-1))))]), (.bsl 16 57 6 [(.int .i64 0), (.int .i64 0), (.int .i64 0), (.bool false), (.int .i64 0), (.int .i64 0)] 1 [(0, (.t 15))]), (.bld 17 [(.int .i64 0), (.int .i64 0), .nil] [(0, 1, (.c (.int .i64 2))), (1, 1, (.c (.int .i64 2))), (2, 1, (.t 16))]), (.call (some 18) (.c (.func 20 [] [])) [(.t 17), (.c (.int .i64 8)), (.c (.int .i64 0))]), (.mv 14 (.t 18)), (.ext 19 (.t 14) 0), (.ext 20 (.t 14) 1), (.alc 5 31 [(.int .i64 0), (.int .i64 0), .nil, (.int .i64 0), .nil, .nil, .nil, (.int .i64 0), (.int .i64 0), (.int .i64 0), (.int .i64 0), (.int .i64 0), (.int .i64 0), (.int .i64 0)]), (.st (.t 5) (.t 19) 14), (.mv 6 (.t 20))]) (.seq (.regD [(.ld 21 (.t 3) true 14), (.ld 22 (.t 5) true 14), (.mv 23 (.t 4)), (.bin 24 .eql (.t 23) (.c (.int .i64 0))), (.mv 25 (.t 24)), (.g 25 true (some 26) (.mv 26 (.t 6))), (.g 25 true (some 27) (.bin 27 .eql (.t 26) (.c (.int .i64 0)))), (.pick 28 (.t 25) (.t 27) (.c (.bool false))), (.st (.t 0) (.t 21) 14), (.st (.t 1) (.t 22) 14), (.mv 2 (.t 28))] [(1, 8)]) .ret))))
theorem e78 : compC prog f78.ntmps (f78.body.getD .skip) = c78 := by kernel_rfl
def tabA : Table := ⟨1, 2, [⟨0, 0, 2, true, 2, -1⟩]⟩
def tabB : Table := ⟨2, 2, [⟨0, 0, 2, false, 1, -1⟩]⟩
def stA : Station := ⟨tabA, ⟨8, []⟩, [], [], 0, 0, -1, 0, 0, 0, 0⟩
def stB : Station := ⟨tabB, ⟨8, []⟩, [], [], 0, 0, -1, 0, 0, 0, 0⟩
theorem newA : newSt tabA 8 0 = (stA, 0) := by rfl
theorem newB : newSt tabB 8 0 = (stB, 0) := by rfl
theorem c20A : ACalls prog 20 [.agg [.int .i64 1, .int .i64 2, .sl 6 [[.int .i64 0, .int .i64 0, .int .i64 2, .bool true, .int .i64 2, .int .i64 (-1)]]], .int .i64 8, .int .i64 0] [] (.tup [.agg stA.enc, .int .i64 0]) [] := by
  have h := c20_pf tabA 8 0 (by decide)
  rw [newA] at h
  exact h
theorem c20B : ACalls prog 20 [.agg [.int .i64 2, .int .i64 2, .sl 6 [[.int .i64 0, .int .i64 0, .int .i64 2, .bool false, .int .i64 1, .int .i64 (-1)]]], .int .i64 8, .int .i64 0] [] (.tup [.agg stB.enc, .int .i64 0]) [] := by
  have h := c20_pf tabB 8 0 (by decide)
  rw [newB] at h
  exact h
theorem c78_ok : ACalls prog 78 [] [] (.tup [.agg stA.enc, .agg stB.enc, .bool true]) [] := by
  refine calls_of hmx func78 (by kernel_rfl) (c := f78.body.getD .skip) rfl e78 (rs := [(.cell 0 true 14), (.cell 1 true 14), (.t 2)]) (by kernel_rfl) (by simp [ntmps78]) ?_
  simp only [c78, argS]
  repeat' first | (with_reducible intro h; try simp only [h]) | (with_reducible refine And.intro ?_ ?_) | (change chk _ _ = true; rfl) | simp only [go_sem, seval, Vc_bool] | refine (GX_split rfl).2 ?_
  refine CX.gs (Gs_freeze 2 (s' := [(10, .agg [.int .i64 1, .int .i64 2, .sl 6 [[.int .i64 0, .int .i64 0, .int .i64 2, .bool true, .int .i64 2, .int .i64 (-1)]]]), (0, .ptr 0 0 0 0), (1, .ptr 1 0 0 0)]) (H' := [.cells 0 14 31 true [zSt], .cells 0 14 31 true [zSt], .dead]) rfl ?_ ?_) ?_
  · refine List.forall_mem_cons.2 ⟨?_, List.forall_mem_cons.2 ⟨?_, List.forall_mem_cons.2 ⟨?_, by simp⟩⟩⟩
    · exact Fz.aggL (.cons (.wk (.refl _)) (.cons (.wk (.refl _)) (.cons (Fz.row 0 1 rfl (cloE_map (f := TCell.enc) (xs := [⟨0, 0, 2, true, 2, -1⟩]) fun _ => by rfl)) .nil)))
    · exact .wk (.refl _)
    · exact .wk (.refl _)
  · repeat' (first | exact FzL.nil | refine FzL.cons ?_ ?_ | exact Fz.wk (Wk.refl _) | exact Fz.wk (Wk.nil _) | exact Fz.wk (Wk.emp _) | exact Fz.row0 _ _ _ _ | exact FzH.nil _ | exact FzO.refl _ | refine FzO.one ?_ | refine FzH.cons (by decide) ?_ ?_ | refine FzH.this rfl ?_ | exact FzO.dead (by simp) | (simp only [List.forall_mem_cons, List.not_mem_nil, false_implies, implies_true, and_true, go_sem, seval]) | refine And.intro ?_ ?_)
  refine CX_pure c20A rfl rfl rfl rfl ?_
  repeat' first | (with_reducible intro h; try simp only [h]) | (with_reducible refine And.intro ?_ ?_) | (change chk _ _ = true; rfl) | simp only [go_sem, seval, Vc_bool] | refine (GX_split rfl).2 ?_
  refine CX.gs (Gs_freeze 4 (s' := [(17, .agg [.int .i64 2, .int .i64 2, .sl 6 [[.int .i64 0, .int .i64 0, .int .i64 2, .bool false, .int .i64 1, .int .i64 (-1)]]]), (3, .ptr 3 0 0 0), (4, .int .i64 0), (0, .ptr 0 0 0 0), (1, .ptr 1 0 0 0)]) (H' := [.cells 0 14 31 true [zSt], .cells 0 14 31 true [zSt], .dead, .cells 0 14 31 true [stA.enc], .dead]) rfl ?_ ?_) ?_
  · refine List.forall_mem_cons.2 ⟨?_, List.forall_mem_cons.2 ⟨?_, List.forall_mem_cons.2 ⟨?_, List.forall_mem_cons.2 ⟨?_, List.forall_mem_cons.2 ⟨?_, by simp⟩⟩⟩⟩⟩
    · exact Fz.aggL (.cons (.wk (.refl _)) (.cons (.wk (.refl _)) (.cons (Fz.row 0 1 rfl (cloE_map (f := TCell.enc) (xs := [⟨0, 0, 2, false, 1, -1⟩]) fun _ => by rfl)) .nil)))
    · exact .wk (.refl _)
    · exact .wk (.refl _)
    · exact .wk (.refl _)
    · exact .wk (.refl _)
  · repeat' (first | exact FzL.nil | refine FzL.cons ?_ ?_ | exact Fz.wk (Wk.refl _) | exact Fz.wk (Wk.nil _) | exact Fz.wk (Wk.emp _) | exact Fz.row0 _ _ _ _ | exact FzH.nil _ | exact FzO.refl _ | refine FzO.one ?_ | refine FzH.cons (by decide) ?_ ?_ | refine FzH.this rfl ?_ | exact FzO.dead (by simp) | (simp only [List.forall_mem_cons, List.not_mem_nil, false_implies, implies_true, and_true, go_sem, seval]) | refine And.intro ?_ ?_)
  refine CX_pure c20B rfl rfl rfl rfl ?_
  repeat' first | (with_reducible intro h; try simp only [h]) | (with_reducible refine And.intro ?_ ?_) | (change chk _ _ = true; rfl) | simp only [go_sem, seval, Vc_bool, zSt] | refine (GX_split rfl).2 ?_
  exact Rt_pure (by rfl) (by rfl)

end Go.Av.T
