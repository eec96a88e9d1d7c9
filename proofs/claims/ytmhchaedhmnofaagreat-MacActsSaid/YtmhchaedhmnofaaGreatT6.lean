/- The seat: part T6. -/
import Derived.Test.YtmhchaedhmnofaaGreatT5
import Derived.Test.YtmhchaedhmnofaaGreatA7
import Derived.KernelRfl
set_option maxRecDepth 100000
set_option maxHeartbeats 1000000
set_option linter.unusedSimpArgs false
set_option linter.unusedVariables false
namespace Go.Av.T
open Go Go.Av Go.Av.Sp Go.Proofs.Tryz
def c25 : SC := (.seq (.reg [(.box 2 31 (.t 0)), (.alc 4 43 [(.int .i64 0), (.int .i64 0), (.int .i64 0), (.int .i64 0), (.int .i64 0), (.int .i64 0), (.int .i64 0), (.int .i64 0), (.int .i64 0), (.int .i64 0), (.int .i64 0), (.int .i64 0), (.int .i64 0), (.str (ByteArray.mk #[]))]), (.mv 5 (.c (.int .i64 0)))]) (.seq (.reg [(.ld 9 (.t 2) true 14), (.mv 10 (.t 1)), (.call (some 11) (.c (.func 96 [] [])) [(.t 9), (.t 10)]), (.mv 8 (.t 11)), (.ext 12 (.t 8) 0), (.ext 13 (.t 8) 1), (.mv 6 (.t 12)), (.mv 7 (.t 13))]) (.seq (.seq (.reg [(.mv 14 (.t 7)), (.bin 15 .neq (.t 14) (.c (.int .i64 0)))]) (.cond (.t 15) (.seq (.reg [(.bld 16 [(.int .i64 0), (.int .i64 0), (.int .i64 0), (.int .i64 0), (.int .i64 0), (.int .i64 0), (.int .i64 0), (.int .i64 0), (.int .i64 0), (.int .i64 0), (.int .i64 0), (.int .i64 0), (.int .i64 0), (.str (ByteArray.mk #[]))] []), (.mv 17 (.t 7)), (.st (.t 4) (.t 16) 14), (.mv 5 (.t 17))]) .ret) .skip)) (.seq (.reg [(.mv 18 (.t 6)), (.call (some 19) (.c (.func 97 [] [])) [(.t 18)]), (.st (.t 4) (.t 19) 14), (.mv 5 (.c (.int .i64 0)))]) .ret))))
theorem e25 : compC prog f25.ntmps (f25.body.getD .skip) = c25 := by kernel_rfl
def c367 : SC := (.seq (.reg [(.mv 6 (.c .nil))]) (.seq (.reg [(.mv 8 (.t 0)), (.mv 9 (.t 1)), (.mv 10 (.t 2)), (.mv 11 (.t 0)), (.len 12 false (.t 11)), (.slc 13 6 (.t 8) (some (.t 9)) (some (.t 10)) (some (.t 12)))]) (.seq (.seq (.reg [(.mv 14 (.t 1)), (.mv 15 (.t 2)), (.bin 16 .eql (.t 14) (.t 15))]) (.cond (.t 16) (.seq (.reg [(.mv 17 (.t 0)), (.mv 6 (.t 17))]) .ret) .skip)) (.seq (.reg [(.mv 18 (.t 0)), (.len 19 false (.t 18)), (.mv 7 (.t 19))]) (.seq (.regD [(.mv 20 (.t 0)), (.mv 21 (.t 1)), (.slc 22 6 (.t 20) none (some (.t 21)) none), (.mv 23 (.t 0)), (.mv 24 (.t 2)), (.slc 25 6 (.t 23) (some (.t 24)) none none), (.app 26 104 6 56 (.t 22) (.t 25)), (.mv 0 (.t 26))] []) (.seq (.reg [(.mv 27 (.t 0)), (.mv 28 (.t 0)), (.len 29 false (.t 28)), (.mv 30 (.t 7)), (.slc 31 6 (.t 27) (some (.t 29)) (some (.t 30)) none), (.clr none [(.int .i64 0), (.int .i64 0), (.int .i64 0), (.int .i64 0), (.int .i64 0), (.str (ByteArray.mk #[]))] (.t 31))]) (.seq (.reg [(.mv 32 (.t 0)), (.mv 6 (.t 32))]) .ret)))))))
theorem e367 : compC prog f367.ntmps (f367.body.getD .skip) = c367 := by kernel_rfl
def c308 : SC := (.seq (.reg [(.box 2 27 (.t 0)), (.alc 4 27 [(.int .i64 0), .nil]), (.alc 5 104 [(.int .i64 0), (.int .i64 0), (.int .i64 0), (.int .i64 0), (.int .i64 0), (.str (ByteArray.mk #[]))]), (.mv 6 (.c (.int .i64 0)))]) (.seq (.seq (.reg [(.ld 8 (.t 2) true 2), (.call (some 9) (.c (.func 188 [] [])) [(.t 8)]), (.bin 10 .neq (.t 9) (.c (.int .i64 0)))]) (.cond (.t 10) (.seq (.reg [(.bld 11 [(.int .i64 0), .nil] []), (.bld 12 [(.int .i64 0), (.int .i64 0), (.int .i64 0), (.int .i64 0), (.int .i64 0), (.str (ByteArray.mk #[]))] []), (.st (.t 4) (.t 11) 2), (.st (.t 5) (.t 12) 6), (.mv 6 (.c (.int .i64 1)))]) .ret) .skip)) (.seq (.reg [(.ld 13 (.t 2) true 2), (.mv 14 (.t 1)), (.call (some 15) (.c (.func 266 [] [])) [(.t 13), (.t 14)]), (.mv 7 (.t 15))]) (.seq (.seq (.reg [(.mv 16 (.t 7)), (.bin 17 .lss (.t 16) (.c (.int .i64 0)))]) (.cond (.t 17) (.seq (.reg [(.bld 18 [(.int .i64 0), .nil] []), (.bld 19 [(.int .i64 0), (.int .i64 0), (.int .i64 0), (.int .i64 0), (.int .i64 0), (.str (ByteArray.mk #[]))] []), (.st (.t 4) (.t 18) 2), (.st (.t 5) (.t 19) 6), (.mv 6 (.c (.int .i64 7)))]) .ret) .skip)) (.seq (.regD [(.fa 20 (.t 2) 0), (.ld 21 (.t 20) false 1), (.fa 22 (.t 2) 1), (.ld 23 (.t 22) false 1), (.call (some 24) (.c (.func 260 [] [])) [(.t 23)]), (.mv 25 (.t 7)), (.mv 26 (.t 7)), (.bin 27 .add (.t 26) (.c (.int .i64 1))), (.call (some 28) (.c (.func 367 [] [])) [(.t 24), (.t 25), (.t 27)]), (.bld 29 [(.int .i64 0), .nil] [(0, 1, (.t 21)), (1, 1, (.t 28))]), (.fa 30 (.t 2) 1), (.ld 31 (.t 30) false 1), (.mv 32 (.t 7)), (.ia 33 (.t 31) (.t 32) 6), (.ld 34 (.t 33) true 6), (.st (.t 4) (.t 29) 2), (.st (.t 5) (.t 34) 6), (.mv 6 (.c (.int .i64 0)))] [(1, 4), (1, 8), (4, 11), (8, 11), (4, 13), (8, 13), (4, 14), (8, 14), (11, 15), (13, 15), (14, 15)]) .ret)))))
theorem e308 : compC prog f308.ntmps (f308.body.getD .skip) = c308 := by kernel_rfl
def c205 : SC := (.seq (.reg [(.mv 5 (.t 0)), (.mv 6 (.t 0)), (.nck 7 (.t 6)), (.fa 8 (.t 7) 0), (.fa 9 (.t 8) 3), (.ld 10 (.t 9) true 2), (.mv 11 (.t 1)), (.call (some 12) (.c (.func 308 [] [])) [(.t 10), (.t 11)]), (.mv 4 (.t 12)), (.ext 13 (.t 4) 0), (.ext 14 (.t 4) 1), (.ext 15 (.t 4) 2), (.nck 16 (.t 5)), (.fa 17 (.t 16) 0), (.fa 18 (.t 17) 3), (.st (.t 18) (.t 13) 2)]) (.seq (.reg [(.mv 19 (.t 0)), (.mv 20 (.t 0)), (.nck 21 (.t 20)), (.fa 22 (.t 21) 0), (.fa 23 (.t 22) 8), (.ld 24 (.t 23) false 1), (.bin 25 .add (.t 24) (.c (.int .i64 1))), (.bin 26 .rem (.t 25) (.c (.int .i64 256))), (.nck 27 (.t 19)), (.fa 28 (.t 27) 0), (.fa 29 (.t 28) 8), (.st (.t 29) (.t 26) 1)]) (.reg [(.mv 30 (.t 0)), (.mv 31 (.t 0)), (.nck 32 (.t 30)), (.fa 33 (.t 32) 0), (.fa 34 (.t 33) 9), (.st (.t 34) (.c (.int .i64 (-1))) 1), (.nck 35 (.t 31)), (.fa 36 (.t 35) 0), (.fa 37 (.t 36) 10), (.st (.t 37) (.c (.int .i64 0)) 1)])))
theorem e205 : compC prog f205.ntmps (f205.body.getD .skip) = c205 := by kernel_rfl
theorem c25_of {s : Station} {slot : Int} {a : Action} (hB : ClBd s) (hA : slotErr s slot = 0 → ACalls prog 97 [.ptr 0 0 0 0] [.cells 0 21 176 true [wEnc s slot (cellAt s slot)]] (.agg a.enc) [.cells 0 21 176 true [wEnc s slot (cellAt s slot)]]) :
    ACalls prog 25 [.agg s.enc, .int .i64 slot] [] (.tup [.agg (if slotErr s slot = 0 then a else Action.zero).enc, .int .i64 (slotErr s slot)]) [] := by
  refine calls_of hmx func25 (by kernel_rfl) (c := f25.body.getD .skip) rfl e25 (rs := [(.cell 4 true 14), (.t 5)]) (by kernel_rfl) (by simp [ntmps25]) ?_
  simp only [c25, argS]
  by_cases h0 : slotErr s slot = 0
  · rw [if_pos h0, h0]
    simp only [go_sem, seval]
    refine CX_new (r1 := .tup [.ptr 2 0 0 0, .int .i64 0]) (c96_ok hB h0) rfl rfl rfl (by rfl) (by rfl) ?_
    repeat' first | (refine Rt_pure ?_ rfl; simp only [retO, retO1, retOs, S, get_cons, Nat.reduceEqDiff, reduceIte, obj, getO_cons_zero, getO_cons_succ, List.getElem?_cons_zero, List.getElem?_cons_succ, List.drop_zero, List.drop_succ_cons, loadFrom_cell, loadFrom_agg, List.length_cons, List.length_nil, Nat.reduceAdd, Nat.reduceLeDiff, List.take_succ_cons, List.take_zero, List.take_nil]) | refine CX_rd [2] (hA h0) (by rfl) (by rfl) (by rfl) (by rfl) (by rfl) (by decide) (by rfl) (by rfl) (by rfl) ?_ | (with_reducible intro h; try simp only [h]) | (with_reducible refine And.intro ?_ ?_) | (change chk _ _ = true; rfl) | simp only [go_sem, seval, Vc_bool] | refine (GX_split rfl).2 ?_
  · rw [if_neg h0]
    simp only [go_sem, seval]
    refine CX_pure (c96_err hB h0) rfl rfl rfl rfl ?_
    have e : decide (slotErr s slot = 0) = false := by simpa using h0
    repeat' first | (refine Rt_pure ?_ rfl; simp only [retO, retO1, retOs, S, get_cons, Nat.reduceEqDiff, reduceIte, obj, getO_cons_zero, getO_cons_succ, List.getElem?_cons_zero, List.getElem?_cons_succ, List.drop_zero, List.drop_succ_cons, loadFrom_cell, loadFrom_agg, List.length_cons, List.length_nil, Nat.reduceAdd, Nat.reduceLeDiff, List.take_succ_cons, List.take_zero, List.take_nil]) | (with_reducible intro h; try simp only [h]) | (with_reducible refine And.intro ?_ ?_) | (change chk _ _ = true; rfl) | simp only [go_sem, seval, Vc_bool, e] | refine (GX_split rfl).2 ?_
    rfl
theorem c367_ok {xs : List Packet} {i q : Nat} (hi : i < xs.length) (hL : xs.length * 56 ≤ 140737488355328) : ACalls prog 367 [.row 0 q 0 xs.length, .int .i64 i, .int .i64 (i + 1)] [.cells q 6 104 false (xs.map Packet.enc)] (.sl 6 ((xs.eraseIdx i).map Packet.enc)) [.dead] := by
  refine calls_of hmx func367 (by kernel_rfl) (c := f367.body.getD .skip) rfl e367 (rs := [(.t 6)]) (by kernel_rfl) (by simp [ntmps367]) ?_
  simp only [c367, argS]
  simp only [go_sem, seval]
  refine ⟨⟨by omega, by omega, by omega, by simp⟩, ?_⟩
  have e : decide ((i : Int) = (i : Int) + 1) = false := by simp; omega
  have e1 : ((i : Int) + 1).toNat = i + 1 := by omega
  have e2 : (i : Int).toNat = i := by omega
  have e3 : ((xs.length : Int)).toNat = xs.length := by omega
  have t1 : i ≤ xs.length := by omega
  have t2 : i + 1 ≤ xs.length := by omega
  have e4 : List.take (xs.length - (i + 1)) (List.drop (i + 1) (xs.map Packet.enc)) = List.drop (i + 1) (xs.map Packet.enc) := List.take_of_length_le (by simp)
  have e5 : (List.drop (i + 1) (xs.map Packet.enc)).length = xs.length - (i + 1) := by simp
  have e6 : ¬ i = xs.length := by omega
  have e7 : i + (xs.length - (i + 1)) = xs.length - 1 := by omega
  have e8 : xs.length - 1 ≤ xs.length := by omega
  simp only [go_sem, seval, e, e1, e2, e3, e4, e5, e6, e7, e8, Nat.sub_zero, List.length_map]
  refine ⟨⟨by omega, by omega⟩, ⟨by omega, by omega, by omega⟩, ⟨t1, by omega⟩, ?_⟩
  generalize hes : List.take i (xs.map Packet.enc) ++ List.drop (i + 1) (xs.map Packet.enc) ++ List.drop (xs.length - 1) (xs.map Packet.enc) = es
  have f1 : es.length = xs.length := by rw [← hes]; simp; omega
  have f2 : ((xs.length - 1 : Nat) : Int).toNat = xs.length - 1 := by omega
  simp only [go_sem, seval, f1, f2, e3]
  refine ⟨⟨by omega, by omega, by omega⟩, ?_⟩
  have hx : (xs.eraseIdx i).map Packet.enc = List.take i (xs.map Packet.enc) ++ List.drop (i + 1) (xs.map Packet.enc) := by rw [List.eraseIdx_eq_take_drop_succ, List.map_append, List.map_take, List.map_drop]
  have hl : (List.take i (xs.map Packet.enc) ++ List.drop (i + 1) (xs.map Packet.enc)).length = xs.length - 1 := by simp; omega
  have hes' : List.take (xs.length - 1) es = List.take i (xs.map Packet.enc) ++ List.drop (i + 1) (xs.map Packet.enc) := by rw [← hes, List.take_append_of_le_length (by omega)]; exact List.take_of_length_le (by omega)
  refine Rt.gs (Gs_freeze 0 (s' := [(6, .sl 6 ((xs.eraseIdx i).map Packet.enc))]) (H' := [.dead]) rfl ?_ ?_) (Rt_all (by rfl) (by rfl) (by rfl) (Nat.le_refl _))
  · refine List.forall_mem_cons.2 ⟨?_, by simp⟩
    refine Fz.row 0 (xs.length - 1) ?_ (cloE_map fun _ => by rfl)
    rw [List.drop_zero, List.append_assoc, List.take_append_of_le_length (by simp; omega), hes', List.take_of_length_le (by omega), hx]
  · repeat' (first | exact FzL.nil | refine FzL.cons ?_ ?_ | exact Fz.wk (Wk.refl _) | exact Fz.wk (Wk.nil _) | exact Fz.wk (Wk.emp _) | exact Fz.row0 _ _ _ _ | exact FzH.nil _ | exact FzO.refl _ | refine FzO.one ?_ | refine FzH.cons (by decide) ?_ ?_ | refine FzH.this rfl ?_ | exact FzO.dead (by simp) | (simp only [List.forall_mem_cons, List.not_mem_nil, false_implies, implies_true, and_true, go_sem, seval]) | refine And.intro ?_ ?_)

end Go.Av.T
set_option maxRecDepth 100000
set_option maxHeartbeats 1000000
set_option linter.unusedSimpArgs false
set_option linter.unusedVariables false
namespace Go.Av.T
open Go Go.Av Go.Av.Sp Go.Proofs.Tryz
theorem c260o {xs : List Packet} (h0 : xs ≠ []) (hb : xs.length * 56 ≤ 140737488355328) : ACalls prog 260 [.sl 6 (xs.map Packet.enc)] [] (.row 0 1 0 xs.length) [.cells 1 6 104 false (xs.map Packet.enc)] := by
  cases xs with
  | nil => exact absurd rfl h0
  | cons x xs => exact c260r_ok hb
theorem c308_ok {q : Queue} {id : Int} {i : Nat} {p : Packet} (hb : q.pk.length * 56 ≤ 140737488355328) (h0 : qErr q = 0) (hi : q.pk[i]? = some p) (hx : pkIdx q.pk id = i) :
    ACalls prog 308 [.agg q.enc, .int .i64 id] [] (.tup [.agg (Queue.enc ⟨q.limit, q.pk.eraseIdx i⟩), .agg p.enc, .int .i64 0]) [] := by
  obtain ⟨hil, hip⟩ := List.getElem?_eq_some_iff.1 hi
  have hne : q.pk ≠ [] := by intro h; rw [h] at hil; simp at hil
  have e2 : (q.pk.map Packet.enc)[i]? = some p.enc := by rw [List.getElem?_map, hi]; rfl
  have e3 : decide ((i : Int) < 0) = false := by simp
  have e4 : IntKind.i64.wrap ((i : Int) + 1) = (i : Int) + 1 := wrap_ok (by omega) (by omega)
  refine calls_of hmx func308 (by kernel_rfl) (c := f308.body.getD .skip) rfl e308 (rs := [(.cell 4 true 2), (.cell 5 true 6), (.t 6)]) (by kernel_rfl) (by simp [ntmps308]) ?_
  simp only [c308, argS]
  simp only [go_sem, seval]
  repeat' first | refine CX_pure (c188_ok (by omega)) rfl rfl rfl rfl ?_ | refine CX_pure (c266_ok (by omega)) rfl rfl rfl rfl ?_ | refine GX_call (fun _ => (c188_ok (by omega))) (by rfl) (by intro h; simp only [h]; rfl) (by rfl) (by rfl) ?_ | refine GX_call (fun _ => (c266_ok (by omega))) (by rfl) (by intro h; simp only [h]; rfl) (by rfl) (by rfl) ?_ | (with_reducible intro h; try simp only [h]) | (with_reducible refine And.intro ?_ ?_) | (change chk _ _ = true; rfl) | simp only [go_sem, seval, Vc_bool, h0, hx, e3, e4] | refine (GX_split rfl).2 ?_
  refine CX_new (r1 := .row 3 1 0 q.pk.length) (c260o hne hb) rfl rfl rfl (by rw [List.all_cons, List.all_nil, Bool.and_true]; exact lt_map fun _ => by rfl) (by rfl) ?_
  repeat' first | (with_reducible intro h; try simp only [h]) | (with_reducible refine And.intro ?_ ?_) | (change chk _ _ = true; rfl) | simp only [go_sem, seval, Vc_bool, e4] | refine (GX_split rfl).2 ?_
  refine CX_eat 3 (c367_ok hil hb) (by rfl) (by rfl) (by rfl) (lt_map fun _ => by rfl) (by rfl) (by rfl) (by rfl) ?_
  repeat' first | (refine Rt_pure ?_ rfl; simp only [retO, retO1, retOs, S, get_cons, Nat.reduceEqDiff, reduceIte, obj, getO_cons_zero, getO_cons_succ, List.getElem?_cons_zero, List.getElem?_cons_succ, List.drop_zero, List.drop_succ_cons, loadFrom_cell, loadFrom_agg, List.length_cons, List.length_nil, Nat.reduceAdd, Nat.reduceLeDiff, List.take_succ_cons, List.take_zero, List.take_nil]) | (with_reducible intro h; try simp only [h]) | (with_reducible refine And.intro ?_ ?_) | (change chk _ _ = true; rfl) | simp only [go_sem, seval, Vc_bool, e2, Int.toNat_natCast, Int.natCast_nonneg] | refine (GX_split rfl).2 ?_
/-- The station behind a packet's leaving: at place i. -/
def leaveAt (s : Station) (i : Nat) : Station := { s with q := ⟨s.q.limit, s.q.pk.eraseIdx i⟩, seq := (s.seq + 1).tmod 256, trying := -1, tries := 0 }
theorem c205_ok {s : Station} {slot : Int} {c : TCell} {id : Int} {i : Nat} {p : Packet} (hb : s.q.pk.length * 56 ≤ 140737488355328) (h0 : qErr s.q = 0) (hi : s.q.pk[i]? = some p) (hx : pkIdx s.q.pk id = i) (hs : 0 ≤ s.seq ∧ s.seq ≤ 255) :
    ACalls prog 205 [.ptr 0 0 0 0, .int .i64 id] [.cells 0 21 176 true [wEnc s slot c]] (.tup []) [.cells 0 21 176 true [wEnc (leaveAt s i) slot c]] := by
  have e4 : IntKind.i64.wrap (s.seq + 1) = s.seq + 1 := wrap_ok (by omega) (by omega)
  refine calls_of hmx func205 (by kernel_rfl) (c := f205.body.getD .skip) rfl e205 (rs := []) (by kernel_rfl) (by simp [ntmps205]) ?_
  simp only [c205, argS]
  simp only [go_sem, seval]
  repeat' first | refine CX_pure (c308_ok hb h0 hi hx) rfl rfl rfl rfl ?_ | refine GX_call (fun _ => (c308_ok hb h0 hi hx)) (by rfl) (by intro h; simp only [h]; rfl) (by rfl) (by rfl) ?_ | (with_reducible intro h; try simp only [h]) | (with_reducible refine And.intro ?_ ?_) | (change chk _ _ = true; rfl) | simp only [go_sem, seval, Vc_bool, e4] | refine (GX_split rfl).2 ?_
  exact Rt_all (by rfl) (by rfl) (by rfl) (Nat.le_refl _)

end Go.Av.T
set_option maxRecDepth 100000
set_option maxHeartbeats 1000000
set_option linter.unusedSimpArgs false
set_option linter.unusedVariables false
namespace Go.Av.T
open Go Go.Av Go.Av.Sp Go.Proofs.Tryz
def c204 : SC := (.seq (.reg [(.alc 2 104 [(.int .i64 0), (.int .i64 0), (.int .i64 0), (.int .i64 0), (.int .i64 0), (.str (ByteArray.mk #[]))])]) (.seq (.seq (.reg [(.mv 7 (.t 0)), (.nck 8 (.t 7)), (.fa 9 (.t 8) 15), (.fa 10 (.t 9) 2), (.ld 11 (.t 10) false 1), (.bin 12 .eql (.t 11) (.c (.int .i64 3)))]) (.cond (.t 12) (.seq (.reg [(.mv 14 (.t 0)), (.call (some 15) (.c (.func 104 [] [])) [(.t 14)]), (.mv 13 (.t 15)), (.ext 16 (.t 13) 0), (.ext 17 (.t 13) 1), (.alc 3 104 [(.int .i64 0), (.int .i64 0), (.int .i64 0), (.int .i64 0), (.int .i64 0), (.str (ByteArray.mk #[]))]), (.st (.t 3) (.t 16) 6), (.mv 4 (.t 17))]) (.seq (.reg [(.ld 18 (.t 3) true 6), (.st (.t 2) (.t 18) 6)]) .ret)) .skip)) (.seq (.regD [(.mv 20 (.t 0)), (.nck 21 (.t 20)), (.fa 22 (.t 21) 0), (.fa 23 (.t 22) 3), (.ld 24 (.t 23) true 2), (.mv 25 (.t 0)), (.nck 26 (.t 25)), (.fa 27 (.t 26) 15), (.fa 28 (.t 27) 4), (.ld 29 (.t 28) false 1), (.call (some 30) (.c (.func 301 [] [])) [(.t 24), (.t 29)]), (.mv 19 (.t 30)), (.ext 31 (.t 19) 0), (.ext 32 (.t 19) 1), (.alc 5 104 [(.int .i64 0), (.int .i64 0), (.int .i64 0), (.int .i64 0), (.int .i64 0), (.str (ByteArray.mk #[]))]), (.st (.t 5) (.t 31) 6), (.mv 6 (.t 32))] [(4, 14), (9, 14), (10, 14)]) (.seq (.reg [(.ld 33 (.t 5) true 6), (.st (.t 2) (.t 33) 6)]) .ret))))
theorem e204 : compC prog f204.ntmps (f204.body.getD .skip) = c204 := by kernel_rfl
def c103 : SC := (.seq (.reg [(.mv 7 (.t 0)), (.call (some 8) (.c (.func 204 [] [])) [(.t 7)]), (.alc 4 104 [(.int .i64 0), (.int .i64 0), (.int .i64 0), (.int .i64 0), (.int .i64 0), (.str (ByteArray.mk #[]))]), (.st (.t 4) (.t 8) 6)]) (.seq (.seq (.reg [(.fa 9 (.t 4) 1), (.ld 10 (.t 9) false 1), (.bin 11 .eql (.t 10) (.c (.int .i64 (-1))))]) (.cond (.t 11) (.seq (.reg [(.mv 12 (.t 0)), (.fa 13 (.t 4) 0), (.ld 14 (.t 13) false 1), (.call (some 15) (.c (.func 205 [] [])) [(.t 12), (.t 14)])]) .ret) .skip)) (.seq (.reg [(.mv 5 (.c (.int .i64 1)))]) (.seq (.seq (.regD [(.mv 16 (.t 0)), (.nck 17 (.t 16)), (.fa 18 (.t 17) 0), (.fa 19 (.t 18) 9), (.ld 20 (.t 19) false 1), (.fa 21 (.t 4) 0), (.ld 22 (.t 21) false 1), (.bin 23 .eql (.t 20) (.t 22))] []) (.cond (.t 23) (.reg [(.mv 24 (.t 0)), (.nck 25 (.t 24)), (.fa 26 (.t 25) 0), (.fa 27 (.t 26) 10), (.ld 28 (.t 27) false 1), (.bin 29 .add (.t 28) (.c (.int .i64 1))), (.mv 5 (.t 29))]) .skip)) (.seq (.reg [(.mv 30 (.t 1)), (.mv 31 (.t 30)), (.g 31 false (some 32) (.mv 32 (.t 5))), (.g 31 false (some 33) (.bin 33 .geq (.t 32) (.c (.int .i64 4)))), (.pick 34 (.t 31) (.c (.bool true)) (.t 33)), (.mv 6 (.t 34))]) (.seq (.seq (.reg [(.mv 35 (.t 6))]) (.cond (.t 35) (.reg [(.mv 36 (.t 0)), (.fa 37 (.t 4) 0), (.ld 38 (.t 37) false 1), (.call (some 39) (.c (.func 205 [] [])) [(.t 36), (.t 38)])]) (.reg [(.mv 40 (.t 0)), (.mv 41 (.t 0)), (.fa 42 (.t 4) 0), (.ld 43 (.t 42) false 1), (.mv 44 (.t 5)), (.nck 45 (.t 40)), (.fa 46 (.t 45) 0), (.fa 47 (.t 46) 9), (.st (.t 47) (.t 43) 1), (.nck 48 (.t 41)), (.fa 49 (.t 48) 0), (.fa 50 (.t 49) 10), (.st (.t 50) (.t 44) 1)]))) (.seq (.seq (.reg [(.mv 51 (.t 0)), (.nck 52 (.t 51)), (.fa 53 (.t 52) 15), (.fa 54 (.t 53) 2), (.ld 55 (.t 54) false 1), (.bin 56 .neq (.t 55) (.c (.int .i64 3)))]) (.cond (.t 56) .ret .skip)) (.seq (.seq (.reg [(.mv 57 (.t 6))]) (.cond (.t 57) (.seq (.reg [(.mv 58 (.t 0)), (.mv 59 (.t 0)), (.nck 60 (.t 58)), (.fa 61 (.t 60) 0), (.fa 62 (.t 61) 11), (.st (.t 62) (.c (.int .i64 0)) 1), (.nck 63 (.t 59)), (.fa 64 (.t 63) 0), (.fa 65 (.t 64) 12), (.st (.t 65) (.c (.int .i64 0)) 1)]) .ret) .skip)) (.seq (.reg [(.mv 66 (.t 0)), (.mv 67 (.t 0)), (.nck 68 (.t 67)), (.fa 69 (.t 68) 0), (.fa 70 (.t 69) 11), (.ld 71 (.t 70) false 1), (.bin 72 .add (.t 71) (.c (.int .i64 1))), (.mn 73 (.t 72) (.c (.int .i64 5))), (.nck 74 (.t 66)), (.fa 75 (.t 74) 0), (.fa 76 (.t 75) 11), (.st (.t 76) (.t 73) 1)]) (.seq (.reg [(.mv 77 (.t 0)), (.mv 78 (.t 0)), (.nck 79 (.t 78)), (.fa 80 (.t 79) 0), (.fa 81 (.t 80) 13), (.ld 82 (.t 81) false 1), (.bin 83 .mul (.c (.int .i64 1103515245)) (.t 82)), (.bin 84 .add (.t 83) (.c (.int .i64 12345))), (.bin 85 .rem (.t 84) (.c (.int .i64 2147483648))), (.nck 86 (.t 77)), (.fa 87 (.t 86) 0), (.fa 88 (.t 87) 13), (.st (.t 88) (.t 85) 1)]) (.regD [(.mv 89 (.t 0)), (.mv 90 (.t 0)), (.nck 91 (.t 90)), (.fa 92 (.t 91) 0), (.fa 93 (.t 92) 13), (.ld 94 (.t 93) false 1), (.bin 95 .quo (.t 94) (.c (.int .i64 65536))), (.mv 96 (.t 0)), (.nck 97 (.t 96)), (.fa 98 (.t 97) 0), (.fa 99 (.t 98) 11), (.ld 100 (.t 99) false 1), (.bin 101 .shl (.c (.int .i64 1)) (.t 100)), (.bin 102 .rem (.t 95) (.t 101)), (.nck 103 (.t 89)), (.fa 104 (.t 103) 0), (.fa 105 (.t 104) 12), (.st (.t 105) (.t 102) 1)] [])))))))))))
theorem e103 : compC prog f103.ntmps (f103.body.getD .skip) = c103 := by kernel_rfl
theorem minOf_int {k : IntKind} {a b : Int} : minOf (.int k a) (.int k b) = some (.int k (min a b)) := by simp [minOf]
attribute [go_sem] minOf_int
theorem c204_2 {s : Station} {slot : Int} {c : TCell} {p : Packet} (hL : s.q.pk.length < 2 ^ 62) (hk : c.kind = 2) (hq : qFirst s.q c.peer = some p) : ACalls prog 204 [.ptr 0 0 0 0] [.cells 0 21 176 true [wEnc s slot c]] (.agg p.enc) [.cells 0 21 176 true [wEnc s slot c]] := by
  have h301 := c301_pf s.q c.peer hL
  rw [hq, oPk_some] at h301
  rcases c with ⟨cs, co, ck, cd, cp, cf⟩
  obtain rfl : ck = 2 := hk
  refine calls_of hmx func204 (by kernel_rfl) (c := f204.body.getD .skip) rfl e204 (rs := [(.cell 2 true 6)]) (by kernel_rfl) (by simp [ntmps204]) ?_
  simp only [c204, argS]
  simp only [go_sem, seval]
  repeat' first | refine CX_pure (h301) rfl rfl rfl rfl ?_ | refine GX_call (fun _ => (h301)) (by rfl) (by intro h; simp only [h]; rfl) (by rfl) (by rfl) ?_ | (with_reducible intro h; try simp only [h]) | (with_reducible refine And.intro ?_ ?_) | (change chk _ _ = true; rfl) | simp only [go_sem, seval, Vc_bool] | refine (GX_split rfl).2 ?_
  exact Rt_T (H := [_]) _ (by rfl) (by rfl) (by rfl) (Nat.le_refl _)
/-- What becomes of a station whose packet was sent. -/
def sentAt (s : Station) (shared : Bool) (p : Packet) (i : Nat) (acked : Bool) : Station :=
  if p.to = -1 then leaveAt s i
  else
    let n := if s.trying = p.id then s.tries + 1 else 1
    if acked = true ∨ 4 ≤ n then
      let s' := leaveAt s i
      if shared then { s' with back := 0, wait := 0 } else s'
    else
      let s' := { s with trying := p.id, tries := n }
      if shared then
        let b := min (s.back + 1) 5
        { s' with back := b, seed := nextSeed s.seed, wait := ((nextSeed s.seed).tdiv 65536).tmod (2 ^ b.toNat) }
      else s'
theorem c103_ok {s : Station} {slot : Int} {c : TCell} {i : Nat} {p : Packet} {acked : Bool} (hb : s.q.pk.length * 56 ≤ 140737488355328) (h0 : qErr s.q = 0) (hi : s.q.pk[i]? = some p) (hx : pkIdx s.q.pk p.id = i) (hs : 0 ≤ s.seq ∧ s.seq ≤ 255)
    (ht : 0 ≤ s.tries ∧ s.tries ≤ 3) (hk : 0 ≤ s.back ∧ s.back ≤ 5) (hd : 0 ≤ s.seed ∧ s.seed ≤ 2147483647) (h204 : ACalls prog 204 [.ptr 0 0 0 0] [.cells 0 21 176 true [wEnc s slot c]] (.agg p.enc) [.cells 0 21 176 true [wEnc s slot c]]) :
    ACalls prog 103 [.ptr 0 0 0 0, .bool acked] [.cells 0 21 176 true [wEnc s slot c]] (.tup []) [.cells 0 21 176 true [wEnc (sentAt s (decide (c.kind = 3)) p i acked) slot c]] := by
  have w1 : IntKind.i64.wrap (s.tries + 1) = s.tries + 1 := wrap_ok (by omega) (by omega)
  have w2 : IntKind.i64.wrap (s.back + 1) = s.back + 1 := wrap_ok (by omega) (by omega)
  have w3 : IntKind.i64.wrap (1103515245 * s.seed) = 1103515245 * s.seed := wrap_ok (by omega) (by omega)
  have w4 : IntKind.i64.wrap (1103515245 * s.seed + 12345) = 1103515245 * s.seed + 12345 := wrap_ok (by omega) (by omega)
  have w5 : IntKind.i64.wrap (1 * 2 ^ min (min (s.back + 1) 5).toNat 64) = 2 ^ (min (s.back + 1) 5).toNat := by
    have hk' : s.back = 0 ∨ s.back = 1 ∨ s.back = 2 ∨ s.back = 3 ∨ s.back = 4 ∨ s.back = 5 := by omega
    rcases hk' with h | h | h | h | h | h <;> rw [h] <;> decide
  have w6 : IntKind.i64.wrap (((1103515245 * s.seed + 12345).tmod 2147483648).tdiv 65536) = ((1103515245 * s.seed + 12345).tmod 2147483648).tdiv 65536 := by
    rw [Int.tmod_eq_emod_of_nonneg (by omega), Int.tdiv_eq_ediv_of_nonneg (by omega)]
    exact wrap_ok (by omega) (by omega)
  refine calls_of hmx func103 (by kernel_rfl) (c := f103.body.getD .skip) rfl e103 (rs := []) (by kernel_rfl) (by simp [ntmps103]) ?_
  simp only [c103, argS]
  simp only [go_sem, seval]
  repeat' first | refine CX_rd [0] (h204) (by rfl) (by rfl) (by rfl) (by rfl) (by rfl) (by decide) (by rfl) (by rfl) (by rfl) ?_ | refine CX_put 0 (c205_ok hb h0 hi hx hs) (by rfl) (by rfl) (by rfl) (by rfl) (by rfl) (by rfl) (by rfl) (by rfl) ?_ | (with_reducible intro h; try simp only [h]) | (with_reducible refine And.intro ?_ ?_) | (change chk _ _ = true; rfl) | simp only [go_sem, seval, Vc_bool, w1, w2, w3, w4, w5, w6] | refine (GX_split rfl).2 ?_
  all_goals first
    | (cases h; done)
    | decide
    | omega
    | exact Int.ne_of_gt (Int.pow_pos (by decide))
    | skip
  all_goals clear h204 w1 w2 w3 w4 w5 w6 hi hx h0 hb hs ht hk hd
  all_goals simp only [decide_eq_true_eq, decide_eq_false_iff_not, Bool.or_eq_true, Bool.or_eq_false_iff, Bool.not_eq_true', Bool.not_eq_false'] at *
  all_goals first
    | (generalize hz : sentAt s (decide (c.kind = 3)) p i acked = z; simp [sentAt, *] at hz; subst hz; exact Rt_T (H := [_]) _ (by rfl) (by rfl) (by rfl) (Nat.le_refl _))
    | (generalize hz : sentAt s (decide (c.kind = 3)) p i true = z; simp [sentAt, *] at hz; subst hz; exact Rt_T (H := [_]) _ (by rfl) (by rfl) (by rfl) (Nat.le_refl _))
    | (generalize hz : sentAt s (decide (c.kind = 3)) p i false = z; simp [sentAt, *] at hz; subst hz; exact Rt_T (H := [_]) _ (by rfl) (by rfl) (by rfl) (Nat.le_refl _))

end Go.Av.T
