/- The seat: part Dn12. -/
import Derived.Test.YtmhchaedhmnofaaGreatDn11
import Derived.Test.YtmhchaedhmnofaaGreatDn10
import Derived.KernelRfl
import Derived.Test.YtmhchaedhmnofaaGreatDn9
import Derived.Test.YtmhchaedhmnofaaGreatRows
import Derived.WalkKit
import Derived.ProofKit
import Derived.OpenShut
import Derived.ReadAgain
set_option maxRecDepth 100000
set_option maxHeartbeats 1000000
set_option linter.unusedSimpArgs false
set_option linter.unusedVariables false
namespace Go.Av.T
open Go Go.Av Go.Av.Sp Go.Proofs.Tryz
def c27 : SC := (.seq (.reg [(.mv 2 (.c (.bool false)))]) (.seq (.reg [(.mv 3 (.t 0)), (.call (some 4) (.c (.func 99 [] [])) [(.t 3), (.c (.func 100 [] []))]), (.not 5 (.t 4)), (.mv 2 (.t 5))]) .ret))
theorem e27 : compC prog f27.ntmps (f27.body.getD .skip) = c27 := by kernel_rfl
def c99 : SC := (.seq (.reg [(.mv 4 (.c (.bool false)))]) (.seq (.reg [(.mv 5 (.t 0)), (.mv 6 (.t 1)), (.call (some 7) (.c (.func 199 [] [])) [(.t 5), (.t 6)]), (.bin 8 .geq (.t 7) (.c (.int .i64 0))), (.mv 4 (.t 8))]) .ret))
theorem e99 : compC prog f99.ntmps (f99.body.getD .skip) = c99 := by kernel_rfl
def c100 : SC := (.seq (.reg [(.mv 2 (.c (.bool false)))]) (.seq (.reg [(.mv 3 (.t 0)), (.len 4 true (.t 3)), (.bin 5 .gtr (.t 4) (.c (.int .i64 200))), (.mv 2 (.t 5))]) .ret))
theorem e100 : compC prog f100.ntmps (f100.body.getD .skip) = c100 := by kernel_rfl
def c199L1 : SC := (.seq (.reg [(.bin 9 .lss (.t 8) (.t 7))]) (.seq (.cond (.t 9) .skip (.exit 0)) (.seq (.block 1 (.seq (.reg [(.mv 10 (.t 8)), (.mv 5 (.t 10))]) (.seq (.reg [(.mv 11 (.t 1)), (.mv 12 (.t 0)), (.mv 13 (.t 5)), (.ia 14 (.t 12) (.t 13) 1), (.ld 15 (.t 14) false 1), (.call (some 16) (.t 11) [(.t 15)])]) (.cond (.t 16) (.seq (.reg [(.mv 17 (.t 5)), (.mv 4 (.t 17))]) .ret) .skip)))) (.reg [(.bin 18 .add (.t 8) (.c (.int .i64 1))), (.mv 8 (.t 18))]))))
def c199 : SC := (.seq (.reg [(.mv 4 (.c (.int .i64 0)))]) (.seq (.seq (.reg [(.mv 6 (.t 0)), (.len 7 false (.t 6)), (.mv 8 (.c (.int .i64 0)))]) (.block 0 (.loop c199L1))) (.seq (.reg [(.mv 4 (.c (.int .i64 (-1))))]) .ret)))
theorem e199 : compC prog f199.ntmps (f199.body.getD .skip) = c199 := by kernel_rfl
def c5 : SC := (.seq (.reg [(.box 3 31 (.t 0)), (.box 5 48 (.t 2)), (.mv 6 (.c (.bool false)))]) (.seq (.seq (.reg [(.call (some 13) (.c (.func 18 [] [])) []), (.not 14 (.t 13))]) (.cond (.t 14) (.seq (.reg [(.mv 6 (.c (.bool false)))]) .ret) .skip)) (.seq (.seq (.reg [(.ld 15 (.t 3) true 14), (.call (some 16) (.c (.func 19 [] [])) [(.t 15)]), (.not 17 (.t 16)), (.mv 18 (.t 17)), (.g 18 false (some 19) (.fa 19 (.t 5) 2)), (.g 18 false (some 20) (.fa 20 (.t 19) 11)), (.g 18 false (some 21) (.ld 21 (.t 20) false 1)), (.g 18 false (some 22) (.bsl 22 9 1 [(.str (ByteArray.mk #[]))] 1 [(0, (.t 21))])), (.g 18 false (some 23) (.call (some 23) (.c (.func 27 [] [])) [(.t 22)])), (.g 18 false (some 24) (.not 24 (.t 23))), (.pick 25 (.t 18) (.c (.bool true)) (.t 24))]) (.cond (.t 25) (.seq (.reg [(.mv 6 (.c (.bool true)))]) .ret) .skip)) (.seq (.reg [(.ld 27 (.t 3) true 14), (.mv 28 (.t 1)), (.ld 29 (.t 5) true 15), (.call (some 30) (.c (.func 28 [] [])) [(.t 27), (.t 28), (.t 29)]), (.mv 26 (.t 30)), (.ext 31 (.t 26) 0), (.ext 32 (.t 26) 1), (.ext 33 (.t 26) 2), (.alc 7 31 [(.int .i64 0), (.int .i64 0), .nil, (.int .i64 0), .nil, .nil, .nil, (.int .i64 0), (.int .i64 0), (.int .i64 0), (.int .i64 0), (.int .i64 0), (.int .i64 0), (.int .i64 0)]), (.alc 8 51 [(.bool false), (.bool false), (.int .i64 0), (.int .i64 0), (.int .i64 0), (.int .i64 0), (.int .i64 0), (.int .i64 0), (.int .i64 0), (.int .i64 0), (.int .i64 0), (.int .i64 0), (.int .i64 0), (.str (ByteArray.mk #[]))]), (.st (.t 7) (.t 31) 14), (.st (.t 8) (.t 32) 14), (.mv 9 (.t 33))]) (.seq (.reg [(.ld 35 (.t 3) true 14), (.mv 36 (.t 1)), (.ld 37 (.t 5) true 15), (.call (some 38) (.c (.func 29 [] [])) [(.t 35), (.t 36), (.t 37)]), (.mv 34 (.t 38)), (.ext 39 (.t 34) 0), (.ext 40 (.t 34) 1), (.ext 41 (.t 34) 2), (.alc 10 31 [(.int .i64 0), (.int .i64 0), .nil, (.int .i64 0), .nil, .nil, .nil, (.int .i64 0), (.int .i64 0), (.int .i64 0), (.int .i64 0), (.int .i64 0), (.int .i64 0), (.int .i64 0)]), (.alc 11 51 [(.bool false), (.bool false), (.int .i64 0), (.int .i64 0), (.int .i64 0), (.int .i64 0), (.int .i64 0), (.int .i64 0), (.int .i64 0), (.int .i64 0), (.int .i64 0), (.int .i64 0), (.int .i64 0), (.str (ByteArray.mk #[]))]), (.st (.t 10) (.t 39) 14), (.st (.t 11) (.t 40) 14), (.mv 12 (.t 41))]) (.seq (.reg [(.mv 42 (.t 9)), (.mv 43 (.t 12)), (.bin 44 .eql (.t 42) (.t 43)), (.mv 45 (.t 44)), (.g 45 true (some 46) (.ld 46 (.t 8) true 14)), (.g 45 true (some 47) (.ld 47 (.t 11) true 14)), (.g 45 true (some 48) (.binA 48 false [2, 2, 1, 1, 1, 1, 1, 1, 1, 1, 1, 1, 1, 3] (.t 46) (.t 47))), (.pick 49 (.t 45) (.t 48) (.c (.bool false))), (.mv 50 (.t 49)), (.g 50 true (some 51) (.ld 51 (.t 7) true 14)), (.g 50 true (some 52) (.ld 52 (.t 10) true 14)), (.g 50 true (some 53) (.call (some 53) (.c (.func 24 [] [])) [(.t 51), (.t 52)])), (.pick 54 (.t 50) (.t 53) (.c (.bool false))), (.mv 6 (.t 54))]) .ret))))))
theorem e5 : compC prog f5.ntmps (f5.body.getD .skip) = c5 := by kernel_rfl
theorem c100_pf (d : ByteArray)  : ACalls prog 100 [.str d] [] (.bool (decide (200 < (d.size : Int)))) [] := by
  refine calls_of hmx func100 (by kernel_rfl) (c := f100.body.getD .skip) rfl e100 (rs := [(.t 2)]) (by kernel_rfl) (by simp [ntmps100]) ?_
  simp only [c100, argS]
  simp only [go_sem, seval]
  (refine Rt_pure ?_ rfl; simp only [retO, retO1, retOs, S, get_cons, Nat.reduceEqDiff, reduceIte, obj, getO_cons_zero, getO_cons_succ, List.getElem?_cons_zero, List.getElem?_cons_succ, List.drop_zero, List.drop_succ_cons, loadFrom_cell, loadFrom_agg, List.length_cons, List.length_nil, Nat.reduceAdd, Nat.reduceLeDiff, List.take_succ_cons, List.take_zero, List.take_nil])
theorem c100_ok {d : ByteArray}  : ACalls prog 100 [.str d] [] (.bool (decide (200 < (d.size : Int)))) [] := c100_pf d 

theorem l199 (l : List ByteArray) (hL : (l).length < 2 ^ 62) (k' : List It) (hk : ∀ zs, V prog f199.ntmps 0 (Ret [(.t 4)] 0 (.int .i64 (-1)) []) k' zs []) : ∀ (rest done : List ByteArray), l = done ++ rest →
    Lp prog f199.ntmps 0 (Ret [(.t 4)] 0 (.int .i64 (idxFrom (fun d => decide (200 < (d.size : Int))) done.length rest)) []) c199L1 (.blk 0 :: k') [(0, .sl 1 (l.map eS)), (1, .func 100 [] []), (7, .int .i64 l.length), (8, .int .i64 done.length)] [] := by
  intro rest
  induction rest with
  | nil =>
    intro done hd
    refine Lp.of_eq hmx c199L1.eq_1 ?_
    have h1 := rg_end hd
    simp only [go_sem, seval, h1, List.length_map]
    exact hk _
  | cons c rest ih =>
    intro done hd
    refine Lp.of_eq hmx c199L1.eq_1 ?_
    obtain ⟨h1, h2, h3, h4⟩ := rg_hd eS hd hL
    have ih' := ih _ h4
    rcases List.eq_nil_or_concat done with h0 | ⟨ds, p, h0⟩
    · obtain ⟨p1, hp⟩ := rg_first' h0
      repeat' first | (refine Lp.bkE0 ih' (by rfl) ?_) | (refine Rt_pure ?_ rfl; simp only [retO, retO1, retOs, S, get_cons, Nat.reduceEqDiff, reduceIte, obj, getO_cons_zero, getO_cons_succ, List.getElem?_cons_zero, List.getElem?_cons_succ, List.drop_zero, List.drop_succ_cons, loadFrom_cell, loadFrom_agg, List.length_cons, List.length_nil, Nat.reduceAdd, Nat.reduceLeDiff, List.take_succ_cons, List.take_zero, List.take_nil]) | refine CX_pure (c100_ok) rfl rfl rfl rfl ?_ | refine GX_call (fun _ => (c100_ok)) (by rfl) (by intro h; simp only [h]; rfl) (by rfl) (by rfl) ?_ | (with_reducible intro h; try simp only [h]) | (with_reducible refine And.intro ?_ ?_) | (change chk _ _ = true; rfl) | simp only [go_sem, seval, Vc_bool, h1, h2, h3, Int.toNat_natCast, Int.natCast_nonneg, List.length_map, p1] | refine (GX_split rfl).2 ?_
      all_goals (clear hk ih ih' h1 h2 h3 h4 hd hL)
      all_goals clear p1 h0
      all_goals (simp only [idxFrom]; grind)
    · rw [List.concat_eq_append] at h0
      obtain ⟨p1, p2, p3, hp⟩ := rg_prev' eS hd h0 hL
      repeat' first | (refine Lp.bkE0 ih' (by rfl) ?_) | (refine Rt_pure ?_ rfl; simp only [retO, retO1, retOs, S, get_cons, Nat.reduceEqDiff, reduceIte, obj, getO_cons_zero, getO_cons_succ, List.getElem?_cons_zero, List.getElem?_cons_succ, List.drop_zero, List.drop_succ_cons, loadFrom_cell, loadFrom_agg, List.length_cons, List.length_nil, Nat.reduceAdd, Nat.reduceLeDiff, List.take_succ_cons, List.take_zero, List.take_nil]) | refine CX_pure (c100_ok) rfl rfl rfl rfl ?_ | refine GX_call (fun _ => (c100_ok)) (by rfl) (by intro h; simp only [h]; rfl) (by rfl) (by rfl) ?_ | (with_reducible intro h; try simp only [h]) | (with_reducible refine And.intro ?_ ?_) | (change chk _ _ = true; rfl) | simp only [go_sem, seval, Vc_bool, h1, h2, h3, Int.toNat_natCast, Int.natCast_nonneg, List.length_map, p1, p2, p3] | refine (GX_split rfl).2 ?_
      all_goals (clear hk ih ih' h1 h2 h3 h4 hd hL)
      all_goals clear p1 p2 p3 h0
      all_goals (simp only [idxFrom]; grind)

def strFew (l : List ByteArray) : Bool := !(l.any fun d => decide (200 < (d.size : Int)))
theorem c199_ok {l : List ByteArray} (hL : l.length < 2 ^ 62) : ACalls prog 199 [.sl 1 (l.map eS), .func 100 [] []] [] (.int .i64 (idxFrom (fun d => decide (200 < (d.size : Int))) 0 l)) [] := by
  refine calls_of hmx func199 (by kernel_rfl) (c := f199.body.getD .skip) rfl e199 (rs := [(.t 4)]) (by kernel_rfl) (by simp [ntmps199]) ?_
  simp only [c199, argS]
  simp only [go_sem, seval, List.length_map]
  refine Lp.bkE0 (l199 l hL _ (fun s => ?_) l [] rfl) (by rfl) rfl
  simp only [go_sem, seval]
  (refine Rt_pure ?_ rfl; simp only [retO, retO1, retOs, S, get_cons, Nat.reduceEqDiff, reduceIte, obj, getO_cons_zero, getO_cons_succ, List.getElem?_cons_zero, List.getElem?_cons_succ, List.drop_zero, List.drop_succ_cons, loadFrom_cell, loadFrom_agg, List.length_cons, List.length_nil, Nat.reduceAdd, Nat.reduceLeDiff, List.take_succ_cons, List.take_zero, List.take_nil])
theorem c99_ok {l : List ByteArray} (hL : l.length < 2 ^ 62) : ACalls prog 99 [.sl 1 (l.map eS), .func 100 [] []] [] (.bool (l.any fun d => decide (200 < (d.size : Int)))) [] := by
  refine calls_of hmx func99 (by kernel_rfl) (c := f99.body.getD .skip) rfl e99 (rs := [(.t 4)]) (by kernel_rfl) (by simp [ntmps99]) ?_
  simp only [c99, argS]
  simp only [go_sem, seval]
  repeat' first | (refine Rt_pure ?_ rfl; simp only [retO, retO1, retOs, S, get_cons, Nat.reduceEqDiff, reduceIte, obj, getO_cons_zero, getO_cons_succ, List.getElem?_cons_zero, List.getElem?_cons_succ, List.drop_zero, List.drop_succ_cons, loadFrom_cell, loadFrom_agg, List.length_cons, List.length_nil, Nat.reduceAdd, Nat.reduceLeDiff, List.take_succ_cons, List.take_zero, List.take_nil]) | refine CX_pure (c199_ok hL) rfl rfl rfl rfl ?_ | refine GX_call (fun _ => (c199_ok hL)) (by rfl) (by intro h; simp only [h]; rfl) (by rfl) (by rfl) ?_ | (with_reducible intro h; try simp only [h]) | (with_reducible refine And.intro ?_ ?_) | (change chk _ _ = true; rfl) | simp only [go_sem, seval, Vc_bool, idxFrom_any] | refine (GX_split rfl).2 ?_
theorem c27_ok {l : List ByteArray} (hL : l.length < 2 ^ 62) : ACalls prog 27 [.sl 1 (l.map eS)] [] (.bool (strFew l)) [] := by
  refine calls_of hmx func27 (by kernel_rfl) (c := f27.body.getD .skip) rfl e27 (rs := [(.t 2)]) (by kernel_rfl) (by simp [ntmps27]) ?_
  simp only [c27, argS]
  simp only [go_sem, seval]
  repeat' first | (refine Rt_pure ?_ rfl; simp only [retO, retO1, retOs, S, get_cons, Nat.reduceEqDiff, reduceIte, obj, getO_cons_zero, getO_cons_succ, List.getElem?_cons_zero, List.getElem?_cons_succ, List.drop_zero, List.drop_succ_cons, loadFrom_cell, loadFrom_agg, List.length_cons, List.length_nil, Nat.reduceAdd, Nat.reduceLeDiff, List.take_succ_cons, List.take_zero, List.take_nil]) | refine CX_pure (c99_ok hL) rfl rfl rfl rfl ?_ | refine GX_call (fun _ => (c99_ok hL)) (by rfl) (by intro h; simp only [h]; rfl) (by rfl) (by rfl) ?_ | (with_reducible intro h; try simp only [h]) | (with_reducible refine And.intro ?_ ?_) | (change chk _ _ = true; rfl) | simp only [go_sem, seval, Vc_bool] | refine (GX_split rfl).2 ?_
  rfl
/-- A station no larger than another one, but for one acknowledgement and one neighbour. -/
structure Sm (s s' : Station) : Prop where
  t : s'.tab = s.tab
  q : s'.q.pk.length ≤ s.q.pk.length
  h : s'.held.length = s.held.length
  a : ∀ h ∈ s'.held, ∃ h0 ∈ s.held, h.acked.length ≤ h0.acked.length + 1
  n : s'.seen.length ≤ s.seen.length + 1
theorem Sm.rfl' (s : Station) : Sm s s := ⟨rfl, Nat.le_refl _, rfl, fun h hh => ⟨h, hh, Nat.le_succ _⟩, Nat.le_succ _⟩
theorem see_len (l : List Seen) (x : Seen) : (see l x).length ≤ l.length + 1 := by
  have h := congrArg List.length (List.takeWhile_append_dropWhile (p := fun y : Seen => decide (y.node < x.node)) (l := l))
  rw [List.length_append] at h
  have h2 := List.length_filter_le (fun y : Seen => !decide (y.node = x.node)) (l.dropWhile fun y : Seen => decide (y.node < x.node))
  simp only [see, List.length_append, List.length_cons]
  omega
theorem insI_len (l : List Int) (n : Int) : (insertInt l n).length = l.length + 1 := by
  have h := congrArg List.length (List.takeWhile_append_dropWhile (p := fun y : Int => decide (y < n)) (l := l))
  rw [List.length_append] at h
  simp only [insertInt, List.length_append, List.length_cons]
  omega
theorem leave_sm (s : Station) (id : Int) : Sm s (leave s id) := ⟨rfl, List.length_filter_le _ _, rfl, fun h hh => ⟨h, hh, Nat.le_succ _⟩, Nat.le_succ _⟩
theorem sent_sm (s : Station) (b : Bool) (p : Packet) (acked : Bool) : Sm s (sentPk s b p acked) := by
  have hl := leave_sm s p.id
  unfold sentPk
  dsimp only
  repeat' split
  all_goals first | exact hl | exact ⟨hl.t, hl.q, hl.h, hl.a, hl.n⟩ | exact ⟨rfl, Nat.le_refl _, rfl, fun h hh => ⟨h, hh, Nat.le_succ _⟩, Nat.le_succ _⟩
theorem got_sm (s : Station) (f : Sp.Frame) : Sm s (gotFr s f).1 := by
  unfold gotFr
  split
  · exact Sm.rfl' s
  · split
    · exact Sm.rfl' s
    · split
      · exact ⟨rfl, Nat.le_refl _, rfl, fun h hh => ⟨h, hh, Nat.le_succ _⟩, see_len _ _⟩
      · exact Sm.rfl' s
theorem ack_sm (s : Station) (flow peer : Int) : Sm s { s with held := ackH s.held flow peer } := by
  have hx : ∀ l : List Held, (ackH l flow peer).length = l.length ∧ ∀ h ∈ ackH l flow peer, ∃ h0 ∈ l, h.acked.length ≤ h0.acked.length + 1 := by
    intro l
    unfold ackH
    cases hh : heldOf l flow with
    | none => exact ⟨rfl, fun h hm => ⟨h, hm, Nat.le_succ _⟩⟩
    | some x =>
      refine ⟨List.length_set, fun h hm => ?_⟩
      rcases List.mem_or_eq_of_mem_set hm with hm | hm
      · exact ⟨h, hm, Nat.le_succ _⟩
      · exact ⟨x, List.mem_of_find?_eq_some hh, by rw [hm, insI_len]; exact Nat.le_refl _⟩
  exact ⟨rfl, Nat.le_refl _, (hx _).1, (hx _).2, Nat.le_succ _⟩
theorem done_sm (s : Station) (slot : Int) (r : Sp.Result) : Sm s (doneP s slot r).1 := by
  have hw : Sm s { s with wait := s.wait - 1 } := ⟨rfl, Nat.le_refl _, rfl, fun h hh => ⟨h, hh, Nat.le_succ _⟩, Nat.le_succ _⟩
  have h := got_sm { s with wait := s.wait - 1 } r.fr
  unfold doneP
  dsimp only
  repeat' split
  all_goals first | exact sent_sm _ _ _ _ | exact ack_sm _ _ _ | exact Sm.rfl' s | exact hw | exact got_sm s r.fr | exact ⟨h.t, h.q, h.h, h.a, h.n⟩
theorem few_dn {s : Station} (h : stFew s = true) : DnBd s ∧ ∀ slot r, StBd (doneE s slot r).1 := by
  have hc := few_cl h
  simp only [stFew, tabFew, qFew, heldFew, fewCells, Bool.and_eq_true, Bool.or_eq_true, decide_eq_true_eq, List.all_eq_true] at h
  obtain ⟨⟨⟨h1, h2⟩, h3⟩, h4⟩ := h
  refine ⟨⟨hc, by omega, fun x hx => by have := (h3.2 x hx).2; omega⟩, fun slot r => ?_⟩
  unfold doneE
  split
  · show StBd Station.zero
    exact ⟨by decide, by decide, by decide, (by intro h hh; cases hh), by decide⟩
  · have hm := done_sm s slot r
    refine ⟨by rw [hm.t]; omega, by have := hm.q; dsimp only; omega, by have := hm.h; dsimp only; omega, fun x hx => ?_, by have := hm.n; dsimp only; omega⟩
    obtain ⟨x0, hx0, hle⟩ := hm.a x hx
    have := (h3.2 x0 hx0).2
    omega
theorem c5_ok {s : Station} {slot : Int} {r : Sp.Result} (hB2 : s.q.pk.length < 2 ^ 63) (hB3 : s.held.length < 2 ^ 63) : ACalls prog 5 [.agg s.enc, .int .i64 slot, .agg r.enc] [] (.bool true) [] := by
  refine calls_of hmx func5 (by kernel_rfl) (c := f5.body.getD .skip) rfl e5 (rs := [(.t 6)]) (by kernel_rfl) (by simp [ntmps5]) ?_
  simp only [c5, argS]
  cases hf : stFew s
  · repeat' first | (refine Rt_pure ?_ rfl; simp only [retO, retO1, retOs, S, get_cons, Nat.reduceEqDiff, reduceIte, obj, getO_cons_zero, getO_cons_succ, List.getElem?_cons_zero, List.getElem?_cons_succ, List.drop_zero, List.drop_succ_cons, loadFrom_cell, loadFrom_agg, List.length_cons, List.length_nil, Nat.reduceAdd, Nat.reduceLeDiff, List.take_succ_cons, List.take_zero, List.take_nil]) | refine CX_pure (c18_ok) rfl rfl rfl rfl ?_ | refine CX_pure (c19w_pf s hB2 hB3) rfl rfl rfl rfl ?_ | refine GX_call (fun _ => (c18_ok)) (by rfl) (by intro h; simp only [h]; rfl) (by rfl) (by rfl) ?_ | refine GX_call (fun _ => (c19w_pf s hB2 hB3)) (by rfl) (by intro h; simp only [h]; rfl) (by rfl) (by rfl) ?_ | (with_reducible intro h; try simp only [h]) | (with_reducible refine And.intro ?_ ?_) | (change chk _ _ = true; rfl) | simp only [go_sem, seval, Vc_bool, hf] | refine (GX_split rfl).2 ?_
  · obtain ⟨hd, hb⟩ := few_dn hf
    repeat' first | refine CX_pure (c18_ok) rfl rfl rfl rfl ?_ | refine CX_pure (c19w_pf s hB2 hB3) rfl rfl rfl rfl ?_ | refine GX_call (fun _ => (c18_ok)) (by rfl) (by intro h; simp only [h]; rfl) (by rfl) (by rfl) ?_ | refine GX_call (fun _ => (c19w_pf s hB2 hB3)) (by rfl) (by intro h; simp only [h]; rfl) (by rfl) (by rfl) ?_ | (with_reducible intro h; try simp only [h]) | (with_reducible refine And.intro ?_ ?_) | (change chk _ _ = true; rfl) | simp only [go_sem, seval, Vc_bool, hf] | refine (GX_split rfl).2 ?_
    refine CX.gs (Gs_freeze 2 (s' := [(22, .sl 1 ([r.fr.data].map eS)), (18, .bool false), (3, .ptr 0 0 0 0), (5, .ptr 1 0 0 0), (1, .int .i64 slot)]) (H' := [.cells 0 14 31 true [s.enc], .cells 0 15 48 true [r.enc], .dead]) rfl ?_ ?_) ?_
    · repeat' (first | exact FzL.nil | refine FzL.cons ?_ ?_ | exact Fz.wk (Wk.refl _) | exact Fz.wk (Wk.nil _) | exact Fz.wk (Wk.emp _) | exact Fz.row0 _ _ _ _ | exact FzH.nil _ | exact FzO.refl _ | refine FzO.one ?_ | refine FzH.cons (by decide) ?_ ?_ | refine FzH.this rfl ?_ | exact FzO.dead (by simp) | (simp only [List.forall_mem_cons, List.not_mem_nil, false_implies, implies_true, and_true, go_sem, seval]) | refine And.intro ?_ ?_)
      exact Fz.row 0 1 rfl (cloE_map (f := eS) (xs := [r.fr.data]) fun _ => by rfl)
    · repeat' (first | exact FzL.nil | refine FzL.cons ?_ ?_ | exact Fz.wk (Wk.refl _) | exact Fz.wk (Wk.nil _) | exact Fz.wk (Wk.emp _) | exact Fz.row0 _ _ _ _ | exact FzH.nil _ | exact FzO.refl _ | refine FzO.one ?_ | refine FzH.cons (by decide) ?_ ?_ | refine FzH.this rfl ?_ | exact FzO.dead (by simp) | (simp only [List.forall_mem_cons, List.not_mem_nil, false_implies, implies_true, and_true, go_sem, seval]) | refine And.intro ?_ ?_)
    refine CX_pure (c27_ok (l := [r.fr.data]) (show 1 < 2 ^ 62 by decide)) rfl rfl rfl rfl ?_
    cases hr : strFew [r.fr.data]
    · repeat' first | (with_reducible intro h; try simp only [h]) | (with_reducible refine And.intro ?_ ?_) | (change chk _ _ = true; rfl) | simp only [go_sem, seval, Vc_bool] | refine (GX_split rfl).2 ?_
      exact Rt_pure (by rfl) (by rfl)
    · repeat' first | refine CX_pure (c28_ok (s := s) (slot := slot) (r := r) hd) rfl rfl rfl rfl ?_ | refine CX_pure (c29_ok (s := s) (slot := slot) (r := r) hd) rfl rfl rfl rfl ?_ | refine CX_pure (c24_ok (s := (doneE s slot r).1) (hb slot r)) rfl rfl rfl rfl ?_ | refine GX_call (fun _ => (c28_ok (s := s) (slot := slot) (r := r) hd)) (by rfl) (by intro h; simp only [h]; rfl) (by rfl) (by rfl) ?_ | refine GX_call (fun _ => (c29_ok (s := s) (slot := slot) (r := r) hd)) (by rfl) (by intro h; simp only [h]; rfl) (by rfl) (by rfl) ?_ | refine GX_call (fun _ => (c24_ok (s := (doneE s slot r).1) (hb slot r))) (by rfl) (by intro h; simp only [h]; rfl) (by rfl) (by rfl) ?_ | (with_reducible intro h; try simp only [h]) | (with_reducible refine And.intro ?_ ?_) | (change chk _ _ = true; rfl) | simp only [go_sem, seval, Vc_bool, dec_self, bytes_self, beq_self_eq_true] | refine (GX_split rfl).2 ?_
      exact Rt_pure (by rfl) (by rfl)

end Go.Av.T
/- The row of a law, part 1: from a contract to the row's call; arguments that are read again. -/
set_option linter.unusedVariables false
set_option linter.unusedSimpArgs false
set_option maxRecDepth 100000
namespace Go.Av.T
open Go Go.Av Go.Av.Sp Go.Proofs.YtmhchaedhmnofaaGreat Go.ChangeShapes Go.WideShapes Go.ChangeAt Go.RowKit

section
variable {H : Type} {enc : TypeId × Value → H} {P : Program}
/-- Nothing that was there has changed. -/
structure Old (W W' : World) : Prop where
  os : W'.os = W.os
  output : W'.output = W.output
  same : ∀ b, b < W.heap.size → W'.heap[b]? = W.heap[b]?

theorem Old.kept {W W' : World} (h : Old W W') (may : MemPlace → Prop) : W.keptBut W' may := by
  refine ⟨h.os, h.output, fun i hi => ?_⟩
  rw [h.same i hi]
  cases W.heap[i]? with
  | none => rfl
  | some o =>
    cases o <;> first | exact ⟨rfl, rfl, rfl, fun _ _ => rfl⟩ | exact .inr ⟨rfl, rfl⟩ | rfl

theorem Old.sameAt {W W' : World} (h : Old W W') {p : MemPlace} (hp : p.block < W.heap.size) : W.sameAt W' p := by
  cases p <;> (simp only [World.sameAt, MemPlace.block, World.cell?] at hp ⊢; rw [h.same _ hp])

theorem Old.trod {W W' : World} (h : Old W W') {base : Nat} {sp : Nat → Bool} {held : Bool} : ∀ {ts : List TypeId} {vs : List Value} {ds : List (DataW H)} {ps : List MemPlace}, DataW.TrodAll enc P W base sp held ts vs ds ps → (∀ p ∈ ps, p.block < W.heap.size) → DataW.TrodAll enc P W' base sp held ts vs ds ps
  | [], [], [], _, h', _ => h'
  | _ :: _, _ :: _, _ :: _, _, ⟨p, q, ⟨n, h1⟩, h2, e⟩, hs => ⟨p, q, ⟨n, DataW.trod_carry n _ _ _ h1 fun x hx => h.sameAt (hs x (by rw [e]; exact List.mem_append_left _ hx))⟩, h.trod h2 (fun x hx => hs x (by rw [e]; exact List.mem_append_right _ hx)), e⟩

/-- The answer of a law that writes nothing that was there. -/
theorem post_old {f : Func} {s : ChangeSpec} {apart fresh handsOn again : Bool} {W W' : World} {args : Array Value} {v : Value} {ds gs : List (DataW H)} {before : List MemPlace}
    (K : Kids P (· < P.types.size)) (hz : ∀ t e, t < P.types.size → P.underlying t = some (.slice e) → 0 < P.cellsOf e) (hts : ∀ t ∈ f.params.toList, t < P.types.size) (hvs : s.vars = [])
    (hW : DataW.Whole enc P f.params.toList s.vars apart W args.toList ds gs before) (hO : Old W W')
    (hres : ∀ (b : Nat) (sp : Nat → Bool) (hd : Bool), DataW.TrodAll enc P W' b sp hd f.resultTypes.toList (v.resultList f.resultTypes.size) (s.fn H (ds ++ gs)).results [])
    (hargs : (s.fn H (ds ++ gs)).args = ds) (hvars : (s.fn H (ds ++ gs)).vars = [])
    (hok : ∀ (j : Nat) (t : TypeId) (r : Value), f.resultTypes[j]? = some t → (v.resultList f.resultTypes.size)[j]? = some r → Value.okWide P W' .any 0 t r) :
    s.post enc P f apart fresh handsOn again W args v W' := by
  have hW0 := hW
  obtain ⟨p, q, hp, hq, he, hfz, hn⟩ := hW
  rw [hvs] at hq
  obtain ⟨rfl, rfl⟩ : gs = [] ∧ q = [] := trodVars_none hq
  rw [List.append_nil] at he
  subst he
  have hlt : ∀ x ∈ before, x.block < W.heap.size := fun x hx => hW0.lt x hx
  have ha : ∀ sp : Nat → Bool, (∀ x ∈ before, sp x.block = true) → DataW.TrodAll enc P W' 0 sp true f.params.toList args.toList (s.fn H (ds ++ [])).args before := fun sp hsp => by
    rw [hargs]
    exact hO.trod (DataW.TrodAll.respare K hz hts hp hsp) hlt
  have hv : ∀ sp : Nat → Bool, DataW.TrodVars enc P W' sp s.vars (s.fn H (ds ++ [])).vars [] := fun sp => by rw [hvs, hvars]; rfl
  refine ⟨ds, [], before, [], before, [], hW0, hres _ _ _, ha _ (fun x hx => by simpa using hlt x hx), hv _, World.keptBut_mono (fun x hx => ⟨hx, .inr (.inl hx)⟩) (hO.kept _), fun _ => ?_⟩
  refine ⟨hok, _, _, ([] ++ before) ++ [], ⟨[] ++ before, [], trodAll_append (ha _ (fun _ _ => rfl)) (hres _ _ _), hv _, rfl, ?_, ?_⟩, ?_⟩
  · intro b off hp'
    have hp2 : MemPlace.cell b off ∈ before := by simpa using hp'
    have hb := hlt _ hp2
    have e : W'.frozen? ⟨b, off, none⟩ = W.frozen? ⟨b, off, none⟩ := by
      simp only [World.frozen?]
      rw [hO.same b hb]
    rw [e]
    exact hfz b off hp2
  · intro h
    simpa using hn h
  · intro x hx _
    simpa using hx
end
end Go.Av.T
/- The row of a law, part 3: contracts as calls. -/
set_option linter.unusedVariables false
set_option linter.unusedSimpArgs false
set_option maxRecDepth 100000
namespace Go.Av.T
open Go Go.Av Go.Av.Sp Go.Proofs.Tryz Go.Proofs.YtmhchaedhmnofaaGreat Go.ChangeShapes Go.WideShapes Go.ChangeAt Go.RowKit
/-- A world in which nothing is owned. -/
def G0 (W : World) : Gh := ⟨fun b => b < W.heap.size, fun _ => none⟩
theorem hr0 (W : World) : HR W (G0 W) (getO []) := by
  have e : ∀ id, getO [] id = .free := fun id => getO_free (Nat.zero_le _)
  refine ⟨fun id => (by rw [e id]; trivial), fun id id' b C C' h => (by rw [e id] at h; cases h), fun b h => h⟩
theorem tr0 {W W' : World} {G' : Gh} (h : Tr W (G0 W) (getO []) W' G' (getO [])) : Old W W' := by
  refine ⟨h.os, h.output, fun b hb => h.keep b hb ?_⟩
  rintro ⟨id, C, h1, h2⟩
  exact absurd (show (none : Option (Nat × Nat)) = some (b, C) from h2) (by simp)
/-- A contract as a call. -/
theorem calls_law {f : FuncId} {fn : Func} {args : List AVal} {vs : Array Value} {W : World} (hf : prog.funcs[f]? = some fn) (hnm : (fn.name == "runtime.NumGoroutine") = false) (hb : fn.body.isSome = true) (hA : ACalls prog f args [] (.bool true) [])
    (hs : vs.size = args.length) (hv : ∀ (j : Nat) c v, args[j]? = some c → vs[j]? = some v → CR W (fun b => b < W.heap.size) c v ∨ VR W (G0 W) (getO []) c v) :
    Calls prog f vs W fun e W' => e = .returned (.bool true) ∧ Old W W' := by
  obtain ⟨nx, w1, h1, h2⟩ := hA W (G0 W) vs (hr0 W) hs (fun j c v a b => (hv j c v a b).elim (fun h => .cl c v h) id)
  obtain ⟨c, hc⟩ := Option.isSome_iff_exists.1 hb
  have hnm' : ¬ fn.name = "runtime.NumGoroutine" := by simpa using hnm
  have h3 : (callFunc f vs).run prog W = .ok (.enter f vs) W := by simp [callFunc, hf, hnm', hc]
  rw [h3] at h1
  injection h1 with e1 e2
  subst e1 e2
  refine h2.mono fun e W' h => ?_
  cases e with
  | returned v =>
    obtain ⟨G', hv', _, ht⟩ := h
    cases hv' with
    | cl _ _ hc =>
      cases hc
      exact ⟨rfl, tr0 ht⟩
  | _ => exact h.elim
theorem kids : Kids prog (· < prog.types.size) := kids_rows (by kernel_rfl) (by kernel_rfl)
theorem full : ∀ t e, t < prog.types.size → prog.underlying t = some (.slice e) → 0 < prog.cellsOf e := slices_full_of prog (by kernel_rfl)
theorem ownK : ownKnob prog.godebug = none := by kernel_rfl
end Go.Av.T
/- The row of a law, part 2: what the arguments read as. -/
set_option linter.unusedVariables false
set_option linter.unusedSimpArgs false
set_option maxRecDepth 100000
namespace Go.Av.T
open Go Go.Av Go.Av.Sp Go.Proofs.Tryz Go.Proofs.YtmhchaedhmnofaaGreat Go.ChangeShapes Go.WideShapes Go.ChangeAt Go.RowKit
theorem rd3 : Rd prog 3 eI (fun n => (Lit.int .i64 n).wf = true) := Rd.int underlying3 (by kernel_rfl)
theorem rd4 : Rd prog 4 eB (fun _ => True) := Rd.bool underlying4 (by kernel_rfl)
theorem rd9 : Rd prog 9 eS (fun s => s.size ≤ maxLen) := Rd.str underlying9 (by kernel_rfl)
theorem rd57 : Rd prog 57 TCell.enc (fun _ => True) :=
  Rd.map (Rd.struct underlying57 (by kernel_rfl) (@RdF.cons prog _ _ 0 1 _ _ _ _ _ _ rfl (by kernel_rfl) @rd3 (@RdF.cons prog _ _ 1 2 _ _ _ _ _ _ rfl (by kernel_rfl) @rd3 (@RdF.cons prog _ _ 2 3 _ _ _ _ _ _ rfl (by kernel_rfl) @rd3 (@RdF.cons prog _ _ 3 4 _ _ _ _ _ _ rfl (by kernel_rfl) @rd4 (@RdF.cons prog _ _ 4 5 _ _ _ _ _ _ rfl (by kernel_rfl) @rd3 (@RdF.cons prog _ _ 5 6 _ _ _ _ _ _ rfl (by kernel_rfl) @rd3 (@RdF.nil prog 6)))))))) (fun p : Int × Int × Int × Bool × Int × Int × Unit => (⟨p.1, p.2.1, p.2.2.1, p.2.2.2.1, p.2.2.2.2.1, p.2.2.2.2.2.1⟩ : TCell)) (fun _ => by rfl) (fun _ _ => trivial)
theorem rd22 : Rd prog 22 (fun l : List TCell => [.sl 6 (l.map TCell.enc)]) (fun l => (∀ v ∈ l, True) ∧ l.length ≤ maxLen) := Rd.slice underlying22 (by kernel_rfl) (by kernel_rfl) (by decide) rd57
theorem rd24 : Rd prog 24 Table.enc (fun _ => True) :=
  Rd.map (Rd.struct underlying24 (by kernel_rfl) (@RdF.cons prog _ _ 0 1 _ _ _ _ _ _ rfl (by kernel_rfl) @rd3 (@RdF.cons prog _ _ 1 2 _ _ _ _ _ _ rfl (by kernel_rfl) @rd3 (@RdF.cons prog _ _ 2 3 _ _ _ _ _ _ rfl (by kernel_rfl) @rd22 (@RdF.nil prog 3))))) (fun p : Int × Int × List TCell × Unit => (⟨p.1, p.2.1, p.2.2.1⟩ : Table)) (fun _ => by rfl) (fun _ _ => trivial)
theorem rd104 : Rd prog 104 Packet.enc (fun _ => True) :=
  Rd.map (Rd.struct underlying104 (by kernel_rfl) (@RdF.cons prog _ _ 0 1 _ _ _ _ _ _ rfl (by kernel_rfl) @rd3 (@RdF.cons prog _ _ 1 2 _ _ _ _ _ _ rfl (by kernel_rfl) @rd3 (@RdF.cons prog _ _ 2 3 _ _ _ _ _ _ rfl (by kernel_rfl) @rd3 (@RdF.cons prog _ _ 3 4 _ _ _ _ _ _ rfl (by kernel_rfl) @rd3 (@RdF.cons prog _ _ 4 5 _ _ _ _ _ _ rfl (by kernel_rfl) @rd3 (@RdF.cons prog _ _ 5 6 _ _ _ _ _ _ rfl (by kernel_rfl) @rd9 (@RdF.nil prog 6)))))))) (fun p : Int × Int × Int × Int × Int × ByteArray × Unit => (⟨p.1, p.2.1, p.2.2.1, p.2.2.2.1, p.2.2.2.2.1, p.2.2.2.2.2.1⟩ : Packet)) (fun _ => by rfl) (fun _ _ => trivial)
theorem rd25 : Rd prog 25 (fun l : List Packet => [.sl 6 (l.map Packet.enc)]) (fun l => (∀ v ∈ l, True) ∧ l.length ≤ maxLen) := Rd.slice underlying25 (by kernel_rfl) (by kernel_rfl) (by decide) rd104
theorem rd27 : Rd prog 27 Queue.enc (fun q => q.pk.length ≤ maxLen) :=
  Rd.map (Rd.struct underlying27 (by kernel_rfl) (@RdF.cons prog _ _ 0 1 _ _ _ _ _ _ rfl (by kernel_rfl) @rd3 (@RdF.cons prog _ _ 1 2 _ _ _ _ _ _ rfl (by kernel_rfl) @rd25 (@RdF.nil prog 2)))) (fun p : Int × List Packet × Unit => (⟨p.1, p.2.1⟩ : Queue)) (fun _ => by rfl) (fun p h => h.2.1.2)
theorem rd76 : Rd prog 76 (fun l : List Int => [.sl 1 (l.map eI)]) (fun l => (∀ v ∈ l, (Lit.int .i64 v).wf = true) ∧ l.length ≤ maxLen) := Rd.slice underlying76 (by kernel_rfl) (by kernel_rfl) (by decide) rd3
theorem rd100 : Rd prog 100 Held.enc (fun _ => True) :=
  Rd.map (Rd.struct underlying100 (by kernel_rfl) (@RdF.cons prog _ _ 0 1 _ _ _ _ _ _ rfl (by kernel_rfl) @rd3 (@RdF.cons prog _ _ 1 2 _ _ _ _ _ _ rfl (by kernel_rfl) @rd3 (@RdF.cons prog _ _ 2 3 _ _ _ _ _ _ rfl (by kernel_rfl) @rd3 (@RdF.cons prog _ _ 3 4 _ _ _ _ _ _ rfl (by kernel_rfl) @rd9 (@RdF.cons prog _ _ 4 5 _ _ _ _ _ _ rfl (by kernel_rfl) @rd76 (@RdF.nil prog 5))))))) (fun p : Int × Int × Int × ByteArray × List Int × Unit => (⟨p.1, p.2.1, p.2.2.1, p.2.2.2.1, p.2.2.2.2.1⟩ : Held)) (fun _ => by rfl) (fun _ _ => trivial)
theorem rd28 : Rd prog 28 (fun l : List Held => [.sl 5 (l.map Held.enc)]) (fun l => (∀ v ∈ l, True) ∧ l.length ≤ maxLen) := Rd.slice underlying28 (by kernel_rfl) (by kernel_rfl) (by decide) rd100
theorem rd160 : Rd prog 160 Seen.enc (fun _ => True) :=
  Rd.map (Rd.struct underlying160 (by kernel_rfl) (@RdF.cons prog _ _ 0 1 _ _ _ _ _ _ rfl (by kernel_rfl) @rd3 (@RdF.cons prog _ _ 1 2 _ _ _ _ _ _ rfl (by kernel_rfl) @rd3 (@RdF.nil prog 2)))) (fun p : Int × Int × Unit => (⟨p.1, p.2.1⟩ : Seen)) (fun _ => by rfl) (fun _ _ => trivial)
theorem rd29 : Rd prog 29 (fun l : List Seen => [.sl 2 (l.map Seen.enc)]) (fun l => (∀ v ∈ l, True) ∧ l.length ≤ maxLen) := Rd.slice underlying29 (by kernel_rfl) (by kernel_rfl) (by decide) rd160
theorem rd31 : Rd prog 31 Station.enc (fun s => s.q.pk.length ≤ maxLen ∧ s.held.length ≤ maxLen) :=
  Rd.map (Rd.struct underlying31 (by kernel_rfl) (@RdF.cons prog _ _ 0 3 _ _ _ _ _ _ rfl (by kernel_rfl) @rd24 (@RdF.cons prog _ _ 3 5 _ _ _ _ _ _ rfl (by kernel_rfl) @rd27 (@RdF.cons prog _ _ 5 6 _ _ _ _ _ _ rfl (by kernel_rfl) @rd28 (@RdF.cons prog _ _ 6 7 _ _ _ _ _ _ rfl (by kernel_rfl) @rd29 (@RdF.cons prog _ _ 7 8 _ _ _ _ _ _ rfl (by kernel_rfl) @rd3 (@RdF.cons prog _ _ 8 9 _ _ _ _ _ _ rfl (by kernel_rfl) @rd3 (@RdF.cons prog _ _ 9 10 _ _ _ _ _ _ rfl (by kernel_rfl) @rd3 (@RdF.cons prog _ _ 10 11 _ _ _ _ _ _ rfl (by kernel_rfl) @rd3 (@RdF.cons prog _ _ 11 12 _ _ _ _ _ _ rfl (by kernel_rfl) @rd3 (@RdF.cons prog _ _ 12 13 _ _ _ _ _ _ rfl (by kernel_rfl) @rd3 (@RdF.cons prog _ _ 13 14 _ _ _ _ _ _ rfl (by kernel_rfl) @rd3 (@RdF.nil prog 14))))))))))))) (fun p : Table × Queue × List Held × List Seen × Int × Int × Int × Int × Int × Int × Int × Unit => (⟨p.1, p.2.1, p.2.2.1, p.2.2.2.1, p.2.2.2.2.1, p.2.2.2.2.2.1, p.2.2.2.2.2.2.1, p.2.2.2.2.2.2.2.1, p.2.2.2.2.2.2.2.2.1, p.2.2.2.2.2.2.2.2.2.1, p.2.2.2.2.2.2.2.2.2.2.1⟩ : Station)) (fun _ => by rfl) (fun p h => ⟨h.2.1, h.2.2.1.2⟩)

end Go.Av.T
