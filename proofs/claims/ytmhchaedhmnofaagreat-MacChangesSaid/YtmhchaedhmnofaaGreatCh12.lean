/- The seat: part Ch12. -/
import Derived.Test.YtmhchaedhmnofaaGreatCh11
import Derived.KernelRfl
import Derived.Test.YtmhchaedhmnofaaGreatCh5
set_option maxRecDepth 100000
set_option maxHeartbeats 1000000
set_option linter.unusedSimpArgs false
set_option linter.unusedVariables false
namespace Go.Av.T
open Go Go.Av Go.Av.Sp Go.Proofs.Tryz
def c160 : SC := (.seq (.reg [(.box 2 100 (.t 0)), (.mv 3 (.c (.bool false)))]) (.seq (.reg [(.fa 4 (.t 2) 2), (.ld 5 (.t 4) false 1), (.ld 6 (.t 1) false 1), (.bin 7 .lss (.t 5) (.t 6)), (.mv 3 (.t 7))]) .ret))
theorem e160 : compC prog f160.ntmps (f160.body.getD .skip) = c160 := by kernel_rfl
def c159L1 : SC := (.seq (.seq (.reg [(.mv 16 (.t 6)), (.mv 17 (.t 0)), (.len 18 false (.t 17)), (.bin 19 .lss (.t 16) (.t 18))]) (.cond (.t 19) .skip (.exit 0))) (.seq (.block 1 (.seq (.reg [(.mv 22 (.t 0)), (.mv 23 (.t 6)), (.ia 24 (.t 22) (.t 23) 5), (.ld 25 (.t 24) true 5), (.alc 7 100 [(.int .i64 0), (.int .i64 0), (.int .i64 0), (.str (ByteArray.mk #[])), .nil]), (.st (.t 7) (.t 25) 5)]) (.seq (.reg [(.mv 26 (.t 1)), (.ld 27 (.t 7) true 5), (.call (some 28) (.t 26) [(.t 27)]), (.not 29 (.t 28))]) (.cond (.t 29) (.seq (.reg [(.mv 30 (.t 0)), (.mv 31 (.t 5)), (.ld 32 (.t 7) true 5), (.ia 33 (.t 30) (.t 31) 5), (.st (.t 33) (.t 32) 5)]) (.reg [(.mv 34 (.t 5)), (.bin 35 .add (.t 34) (.c (.int .i64 1))), (.mv 5 (.t 35))])) .skip)))) (.reg [(.mv 20 (.t 6)), (.bin 21 .add (.t 20) (.c (.int .i64 1))), (.mv 6 (.t 21))])))
def c159 : SC := (.seq (.reg [(.mv 4 (.c .nil))]) (.seq (.reg [(.mv 8 (.t 0)), (.mv 9 (.t 1)), (.call (some 10) (.c (.func 200 [] [])) [(.t 8), (.t 9)]), (.mv 5 (.t 10))]) (.seq (.seq (.reg [(.mv 11 (.t 5)), (.bin 12 .eql (.t 11) (.c (.int .i64 (-1))))]) (.cond (.t 12) (.seq (.reg [(.mv 13 (.t 0)), (.mv 4 (.t 13))]) .ret) .skip)) (.seq (.seq (.reg [(.mv 14 (.t 5)), (.bin 15 .add (.t 14) (.c (.int .i64 1))), (.mv 6 (.t 15))]) (.block 0 (.loop c159L1))) (.seq (.reg [(.mv 36 (.t 0)), (.mv 37 (.t 5)), (.slc 38 5 (.t 36) (some (.t 37)) none none), (.clr none [(.int .i64 0), (.int .i64 0), (.int .i64 0), (.str (ByteArray.mk #[])), .nil] (.t 38))]) (.seq (.reg [(.mv 39 (.t 0)), (.mv 40 (.t 5)), (.slc 41 5 (.t 39) none (some (.t 40)) none), (.mv 4 (.t 41))]) .ret))))))
theorem e159 : compC prog f159.ntmps (f159.body.getD .skip) = c159 := by kernel_rfl
def c270 : SC := (.seq (.reg [(.box 2 104 (.t 0)), (.mv 4 (.c (.bool false)))]) (.seq (.reg [(.mv 5 (.t 1)), (.bin 6 .geq (.t 5) (.c (.int .i64 0))), (.mv 7 (.t 6)), (.g 7 true (some 8) (.mv 8 (.t 1))), (.g 7 true (some 9) (.fa 9 (.t 2) 3)), (.g 7 true (some 10) (.ld 10 (.t 9) false 1)), (.g 7 true (some 11) (.bin 11 .sub (.t 8) (.t 10))), (.g 7 true (some 12) (.fa 12 (.t 2) 4)), (.g 7 true (some 13) (.ld 13 (.t 12) false 1)), (.g 7 true (some 14) (.bin 14 .geq (.t 11) (.t 13))), (.pick 15 (.t 7) (.t 14) (.c (.bool false))), (.mv 4 (.t 15))]) .ret))
theorem e270 : compC prog f270.ntmps (f270.body.getD .skip) = c270 := by kernel_rfl
def c269 : SC := (.seq (.reg [(.box 2 104 (.t 0)), (.mv 3 (.c (.bool false)))]) (.seq (.reg [(.ld 4 (.t 2) true 6), (.ld 5 (.t 1) false 1), (.call (some 6) (.c (.func 270 [] [])) [(.t 4), (.t 5)]), (.mv 3 (.t 6))]) .ret))
theorem e269 : compC prog f269.ntmps (f269.body.getD .skip) = c269 := by kernel_rfl
def c271 : SC := (.seq (.reg [(.box 2 104 (.t 0)), (.mv 3 (.c (.bool false)))]) (.seq (.reg [(.ld 4 (.t 2) true 6), (.ld 5 (.t 1) false 1), (.call (some 6) (.c (.func 270 [] [])) [(.t 4), (.t 5)]), (.not 7 (.t 6)), (.mv 3 (.t 7))]) .ret))
theorem e271 : compC prog f271.ntmps (f271.body.getD .skip) = c271 := by kernel_rfl
def c272L1 : SC := (.seq (.seq (.reg [(.mv 16 (.t 6)), (.mv 17 (.t 0)), (.len 18 false (.t 17)), (.bin 19 .lss (.t 16) (.t 18))]) (.cond (.t 19) .skip (.exit 0))) (.seq (.block 1 (.seq (.reg [(.mv 22 (.t 0)), (.mv 23 (.t 6)), (.ia 24 (.t 22) (.t 23) 6), (.ld 25 (.t 24) true 6), (.alc 7 104 [(.int .i64 0), (.int .i64 0), (.int .i64 0), (.int .i64 0), (.int .i64 0), (.str (ByteArray.mk #[]))]), (.st (.t 7) (.t 25) 6)]) (.seq (.reg [(.mv 26 (.t 1)), (.ld 27 (.t 7) true 6), (.call (some 28) (.t 26) [(.t 27)]), (.not 29 (.t 28))]) (.cond (.t 29) (.seq (.reg [(.mv 30 (.t 0)), (.mv 31 (.t 5)), (.ld 32 (.t 7) true 6), (.ia 33 (.t 30) (.t 31) 6), (.st (.t 33) (.t 32) 6)]) (.reg [(.mv 34 (.t 5)), (.bin 35 .add (.t 34) (.c (.int .i64 1))), (.mv 5 (.t 35))])) .skip)))) (.reg [(.mv 20 (.t 6)), (.bin 21 .add (.t 20) (.c (.int .i64 1))), (.mv 6 (.t 21))])))
def c272 : SC := (.seq (.reg [(.mv 4 (.c .nil))]) (.seq (.reg [(.mv 8 (.t 0)), (.mv 9 (.t 1)), (.call (some 10) (.c (.func 206 [] [])) [(.t 8), (.t 9)]), (.mv 5 (.t 10))]) (.seq (.seq (.reg [(.mv 11 (.t 5)), (.bin 12 .eql (.t 11) (.c (.int .i64 (-1))))]) (.cond (.t 12) (.seq (.reg [(.mv 13 (.t 0)), (.mv 4 (.t 13))]) .ret) .skip)) (.seq (.seq (.reg [(.mv 14 (.t 5)), (.bin 15 .add (.t 14) (.c (.int .i64 1))), (.mv 6 (.t 15))]) (.block 0 (.loop c272L1))) (.seq (.reg [(.mv 36 (.t 0)), (.mv 37 (.t 5)), (.slc 38 6 (.t 36) (some (.t 37)) none none), (.clr none [(.int .i64 0), (.int .i64 0), (.int .i64 0), (.int .i64 0), (.int .i64 0), (.str (ByteArray.mk #[]))] (.t 38))]) (.seq (.reg [(.mv 39 (.t 0)), (.mv 40 (.t 5)), (.slc 41 6 (.t 39) none (some (.t 40)) none), (.mv 4 (.t 41))]) .ret))))))
theorem e272 : compC prog f272.ntmps (f272.body.getD .skip) = c272 := by kernel_rfl
def c161 : SC := (.seq (.reg [(.box 2 27 (.t 0)), (.box 3 3 (.t 1)), (.alc 4 27 [(.int .i64 0), .nil]), (.mv 5 (.c .nil))]) (.seq (.seq (.reg [(.ld 8 (.t 2) true 2), (.call (some 9) (.c (.func 188 [] [])) [(.t 8)]), (.bin 10 .neq (.t 9) (.c (.int .i64 0)))]) (.cond (.t 10) (.seq (.reg [(.ld 11 (.t 2) true 2), (.st (.t 4) (.t 11) 2), (.mv 5 (.c .nil))]) .ret) .skip)) (.seq (.reg [(.mkf 12 269 [] [(.t 3)]), (.mv 6 (.t 12))]) (.seq (.reg [(.mkf 13 271 [] [(.t 3)]), (.mv 7 (.t 13))]) (.seq (.regD [(.fa 14 (.t 2) 0), (.ld 15 (.t 14) false 1), (.fa 16 (.t 2) 1), (.ld 17 (.t 16) false 1), (.call (some 18) (.c (.func 260 [] [])) [(.t 17)]), (.mv 19 (.t 6)), (.call (some 20) (.c (.func 272 [] [])) [(.t 18), (.t 19)]), (.bld 21 [(.int .i64 0), .nil] [(0, 1, (.t 15)), (1, 1, (.t 20))]), (.fa 22 (.t 2) 1), (.ld 23 (.t 22) false 1), (.call (some 24) (.c (.func 260 [] [])) [(.t 23)]), (.mv 25 (.t 7)), (.call (some 26) (.c (.func 272 [] [])) [(.t 24), (.t 25)]), (.st (.t 4) (.t 21) 2), (.mv 5 (.t 26))] [(1, 4), (1, 6), (4, 9), (6, 9), (1, 10), (1, 12)]) .ret)))))
theorem e161 : compC prog f161.ntmps (f161.body.getD .skip) = c161 := by kernel_rfl
theorem lt_box {slot : Int} {m : Nat} : ltO m (.cells 0 1 3 true [[.int .i64 slot]]) = true := by rfl
theorem c160_ok {h : Held} {slot : Int} : ACalls prog 160 [.agg h.enc, .ptr 0 0 0 0] [.cells 0 1 3 true [[.int .i64 slot]]] (.bool (decide (h.upto < slot))) [.cells 0 1 3 true [[.int .i64 slot]]] := by
  refine calls_of hmx func160 (by kernel_rfl) (c := f160.body.getD .skip) rfl e160 (rs := [(.t 3)]) (by kernel_rfl) (by simp [ntmps160]) ?_
  simp only [c160, argS]
  repeat' first | (with_reducible intro h; try simp only [h]) | (with_reducible refine And.intro ?_ ?_) | (change chk _ _ = true; rfl) | simp only [go_sem, seval, Vc_bool] | refine (GX_split rfl).2 ?_
  exact Rt_T (H := [_]) _ (by rfl) (by rfl) (by rfl) (Nat.le_refl _)
theorem c270_ok {p : Packet} {slot : Int} (hb : 0 ≤ p.born ∧ p.born ≤ 1099511627776) (hs : slot ≤ 9223372036854775807) : ACalls prog 270 [.agg p.enc, .int .i64 slot] [] (.bool (stale p slot)) [] := by
  refine calls_of hmx func270 (by kernel_rfl) (c := f270.body.getD .skip) rfl e270 (rs := [(.t 4)]) (by kernel_rfl) (by simp [ntmps270]) ?_
  simp only [c270, argS]
  cases h0 : decide (0 ≤ slot) with
  | false =>
    have e : stale p slot = false := by simp [stale, h0]
    rw [e]
    repeat' first | (refine Rt_pure ?_ rfl; simp only [retO, retO1, retOs, S, get_cons, Nat.reduceEqDiff, reduceIte, obj, getO_cons_zero, getO_cons_succ, List.getElem?_cons_zero, List.getElem?_cons_succ, List.drop_zero, List.drop_succ_cons, loadFrom_cell, loadFrom_agg, List.length_cons, List.length_nil, Nat.reduceAdd, Nat.reduceLeDiff, List.take_succ_cons, List.take_zero, List.take_nil]) | (with_reducible intro h; try simp only [h]) | (with_reducible refine And.intro ?_ ?_) | (change chk _ _ = true; rfl) | simp only [go_sem, seval, Vc_bool, h0] | refine (GX_split rfl).2 ?_
  | true =>
    have g : 0 ≤ slot := of_decide_eq_true h0
    have w : IntKind.i64.wrap (slot - p.born) = slot - p.born := wrap_ok (by omega) (by omega)
    have e : stale p slot = decide (p.life ≤ slot - p.born) := by simp [stale, h0]
    rw [e]
    repeat' first | (refine Rt_pure ?_ rfl; simp only [retO, retO1, retOs, S, get_cons, Nat.reduceEqDiff, reduceIte, obj, getO_cons_zero, getO_cons_succ, List.getElem?_cons_zero, List.getElem?_cons_succ, List.drop_zero, List.drop_succ_cons, loadFrom_cell, loadFrom_agg, List.length_cons, List.length_nil, Nat.reduceAdd, Nat.reduceLeDiff, List.take_succ_cons, List.take_zero, List.take_nil]) | (with_reducible intro h; try simp only [h]) | (with_reducible refine And.intro ?_ ?_) | (change chk _ _ = true; rfl) | simp only [go_sem, seval, Vc_bool, h0, w] | refine (GX_split rfl).2 ?_
theorem c269_ok {p : Packet} {slot : Int} (hb : 0 ≤ p.born ∧ p.born ≤ 1099511627776) (hs : slot ≤ 9223372036854775807) : ACalls prog 269 [.agg p.enc, .ptr 0 0 0 0] [.cells 0 1 3 true [[.int .i64 slot]]] (.bool (stale p slot)) [.cells 0 1 3 true [[.int .i64 slot]]] := by
  refine calls_of hmx func269 (by kernel_rfl) (c := f269.body.getD .skip) rfl e269 (rs := [(.t 3)]) (by kernel_rfl) (by simp [ntmps269]) ?_
  simp only [c269, argS]
  repeat' first | refine CX_pure (c270_ok (p := p) (slot := slot) hb hs) rfl rfl rfl rfl ?_ | refine GX_call (fun _ => (c270_ok (p := p) (slot := slot) hb hs)) (by rfl) (by intro h; simp only [h]; rfl) (by rfl) (by rfl) ?_ | (with_reducible intro h; try simp only [h]) | (with_reducible refine And.intro ?_ ?_) | (change chk _ _ = true; rfl) | simp only [go_sem, seval, Vc_bool] | refine (GX_split rfl).2 ?_
  exact Rt_T (H := [_]) _ (by rfl) (by rfl) (by rfl) (Nat.le_refl _)
def fresh (p : Packet) (slot : Int) : Bool := !stale p slot
theorem c271_ok {p : Packet} {slot : Int} (hb : 0 ≤ p.born ∧ p.born ≤ 1099511627776) (hs : slot ≤ 9223372036854775807) : ACalls prog 271 [.agg p.enc, .ptr 0 0 0 0] [.cells 0 1 3 true [[.int .i64 slot]]] (.bool (fresh p slot)) [.cells 0 1 3 true [[.int .i64 slot]]] := by
  refine calls_of hmx func271 (by kernel_rfl) (c := f271.body.getD .skip) rfl e271 (rs := [(.t 3)]) (by kernel_rfl) (by simp [ntmps271]) ?_
  simp only [c271, argS]
  repeat' first | refine CX_pure (c270_ok (p := p) (slot := slot) hb hs) rfl rfl rfl rfl ?_ | refine GX_call (fun _ => (c270_ok (p := p) (slot := slot) hb hs)) (by rfl) (by intro h; simp only [h]; rfl) (by rfl) (by rfl) ?_ | (with_reducible intro h; try simp only [h]) | (with_reducible refine And.intro ?_ ?_) | (change chk _ _ = true; rfl) | simp only [go_sem, seval, Vc_bool] | refine (GX_split rfl).2 ?_
  exact Rt_T (H := [_]) _ (by rfl) (by rfl) (by rfl) (Nat.le_refl _)
theorem set_mid {A J R : List (List AVal)} {v : List AVal} (hJ : 1 ≤ J.length) : (A ++ J ++ R).set A.length v = A ++ [v] ++ J.drop 1 ++ R := by
  cases J with
  | nil => simp at hJ
  | cons x J => simp
theorem cloE_app {A B : List (List AVal)} (ha : cloE A) (hb : cloE B) : cloE (A ++ B) := by
  intro e he
  rcases List.mem_append.1 he with h | h
  · exact ha e h
  · exact hb e h
theorem lIh (xs : List Held) (slot : Int) (q : Nat) (hL : xs.length < 2 ^ 62) (k' : List It) (hk : ∀ zs, V prog f200.ntmps 2 (Ret [.t 4] 2 (.int .i64 (-1)) [.cells q 5 100 false (xs.map Held.enc), .cells 0 1 3 true [[.int .i64 slot]]]) k' zs [.cells q 5 100 false (xs.map Held.enc), .cells 0 1 3 true [[.int .i64 slot]]]) : ∀ (rest done : List Held), xs = done ++ rest →
    Lp prog f200.ntmps 2 (Ret [.t 4] 2 (.int .i64 (idxFrom (fun x : Held => decide (x.upto < slot)) done.length rest)) [.cells q 5 100 false (xs.map Held.enc), .cells 0 1 3 true [[.int .i64 slot]]]) (cIdxL 5) (.blk 0 :: k') [(0, .row 0 q 0 xs.length), (1, .func 160 [] [.ptr 1 0 0 0]), (7, .int .i64 xs.length), (8, .int .i64 done.length)] [.cells q 5 100 false (xs.map Held.enc), .cells 0 1 3 true [[.int .i64 slot]]] := by
  have hal : ([.cells q 5 100 false (xs.map Held.enc), .cells 0 1 3 true [[.int .i64 slot]]] : Heap).all (ltO 2) = true := by rw [List.all_cons, List.all_cons, List.all_nil, Bool.and_true, lt_held, lt_box]; rfl
  intro rest
  induction rest with
  | nil =>
    intro done hd
    refine Lp.of_eq hmx (cIdxL.eq_1 5) ?_
    have h1 := rg_end hd
    simp only [go_sem, seval, h1]
    exact hk _
  | cons x rest ih =>
    intro done hd
    refine Lp.of_eq hmx (cIdxL.eq_1 5) ?_
    obtain ⟨h1, h2, h3, h4⟩ := rg_hd Held.enc hd hL
    have ih' := ih _ h4
    have hm : x ∈ xs := by rw [hd]; simp
    have hlt : ((done.length : Int) < (xs.length : Int)) = True := eq_true (by have := congrArg List.length hd; simp at this; omega)
    repeat' first | refine CX_rd [1] (c160_ok (h := x) (slot := slot)) (by rfl) (by rfl) (by rfl) (by rfl) (by rfl) (by decide) (by rfl) (by rfl) (by rfl) ?_ | (with_reducible intro h; try simp only [h]) | (with_reducible refine And.intro ?_ ?_) | (change chk _ _ = true; rfl) | simp only [go_sem, seval, Vc_bool, h1, h2, h3, hlt, Int.toNat_natCast, Int.natCast_nonneg, Nat.zero_add] | refine (GX_split rfl).2 ?_
    · have e : idxFrom (fun x : Held => decide (x.upto < slot)) done.length (x :: rest) = done.length := by rw [idxFrom, if_pos (by simpa using h)]
      rw [e]
      exact Rt_all (by rfl) (by rfl) hal (Nat.le_refl _)
    · have e : idxFrom (fun x : Held => decide (x.upto < slot)) done.length (x :: rest) = idxFrom (fun x : Held => decide (x.upto < slot)) (done ++ [x]).length rest := by rw [idxFrom, if_neg (by simpa using h)]; simp
      rw [e]
      exact Lp.bkE0 ih' (by rfl) rfl
theorem cIh {xs : List Held} {slot : Int} {q : Nat} (hL : xs.length < 2 ^ 62) : ACalls prog 200 [.row 0 q 0 xs.length, .func 160 [] [.ptr 1 0 0 0]] [.cells q 5 100 false (xs.map Held.enc), .cells 0 1 3 true [[.int .i64 slot]]] (.int .i64 (idxFrom (fun x : Held => decide (x.upto < slot)) 0 xs)) [.cells q 5 100 false (xs.map Held.enc), .cells 0 1 3 true [[.int .i64 slot]]] := by
  have hal : ([.cells q 5 100 false (xs.map Held.enc), .cells 0 1 3 true [[.int .i64 slot]]] : Heap).all (ltO 2) = true := by rw [List.all_cons, List.all_cons, List.all_nil, Bool.and_true, lt_held, lt_box]; rfl
  refine calls_of hmx func200 (by kernel_rfl) (c := f200.body.getD .skip) rfl e200 (rs := [(.t 4)]) (by kernel_rfl) (by simp [ntmps200]) ?_
  simp only [cIdx, argS]
  simp only [go_sem, seval, List.length_map]
  refine Lp.bkE0 (lIh xs slot q hL _ (fun s => ?_) xs [] rfl) (by rfl) rfl
  simp only [go_sem, seval]
  exact Rt_all (by rfl) (by rfl) hal (Nat.le_refl _)
theorem lFh (xs : List Held) (slot : Int) (q : Nat) (hL : xs.length < 2 ^ 40) (r : AVal) (H' : Heap) (k' : List It) (hk : ∀ zs (J : List (List AVal)), (xs.filter (fun x : Held => !(decide (x.upto < slot)))).length + J.length = xs.length → get zs 0 = .row 0 q 0 xs.length → get zs 5 = .int .i64 (xs.filter (fun x : Held => !(decide (x.upto < slot)))).length → V prog f159.ntmps 2 (Ret [.t 4] 2 r H') k' zs [.cells q 5 100 false ((xs.filter (fun x : Held => !(decide (x.upto < slot)))).map Held.enc ++ J), .cells 0 1 3 true [[.int .i64 slot]]]) :
    ∀ (rest done : List Held) (J : List (List AVal)), xs = done ++ rest → 1 ≤ J.length → (done.filter (fun x : Held => !(decide (x.upto < slot)))).length + J.length = done.length → cloE J → (∀ a ∈ J, a.length = 5) →
    Lp prog f159.ntmps 2 (Ret [.t 4] 2 r H') c159L1 (.blk 0 :: k') [(0, .row 0 q 0 xs.length), (1, .func 160 [] [.ptr 1 0 0 0]), (5, .int .i64 (done.filter (fun x : Held => !(decide (x.upto < slot)))).length), (6, .int .i64 done.length)] [.cells q 5 100 false ((done.filter (fun x : Held => !(decide (x.upto < slot)))).map Held.enc ++ J ++ rest.map Held.enc), .cells 0 1 3 true [[.int .i64 slot]]] := by
  intro rest
  induction rest with
  | nil =>
    intro done J hd hJ hl hc hk5
    refine Lp.of_eq hmx c159L1.eq_1 ?_
    have h1 := rg_end hd
    rw [List.append_nil] at hd
    subst hd
    rw [List.map_nil, List.append_nil]
    simp only [go_sem, seval, h1]
    exact hk _ J hl (by rfl) (by rfl)
  | cons x rest ih =>
    intro done J hd hJ hl hc hk5
    refine Lp.of_eq hmx c159L1.eq_1 ?_
    obtain ⟨h1, h2, h3, h4⟩ := rg_hd Held.enc hd (by omega)
    have hm : x ∈ xs := by rw [hd]; simp
    have hdl : done.length < xs.length := by rw [hd]; simp
    have hlt : ((done.length : Int) < (xs.length : Int)) = True := eq_true (by omega)
    have hA : ((done.filter (fun x : Held => !(decide (x.upto < slot)))).map Held.enc ++ J).length = done.length := by rw [List.length_append, List.length_map, hl]
    have h2' : ((done.filter (fun x : Held => !(decide (x.upto < slot)))).map Held.enc ++ J ++ (x :: rest).map Held.enc)[done.length]? = some (Held.enc x) := by
      rw [List.getElem?_append_right (by omega), hA, Nat.sub_self]; rfl
    cases hp : (decide (x.upto < slot)) with
    | true =>
      have e : (done ++ [x]).filter (fun x : Held => !(decide (x.upto < slot))) = done.filter (fun x : Held => !(decide (x.upto < slot))) := by simp [hp]
      have ih' := ih (done ++ [x]) (J ++ [Held.enc x]) h4 (by simp only [List.length_append, List.length_cons, List.length_nil]; omega) (by rw [e]; simp only [List.length_append, List.length_cons, List.length_nil]; omega) (by
        intro a ha
        rcases List.mem_append.1 ha with h | h
        · exact hc a h
        · exact cloE_map (f := Held.enc) (xs := [x]) (fun _ => by rfl) a h) (by
        intro a ha
        rcases List.mem_append.1 ha with h | h
        · exact hk5 a h
        · rw [List.mem_singleton.1 h]; rfl)
      rw [e, ← List.append_assoc, List.append_assoc _ [Held.enc x]] at ih'
      repeat' first | refine CX_rd [1] (c160_ok (h := x) (slot := slot)) (by rfl) (by rfl) (by rfl) (by rfl) (by rfl) (by decide) (by rfl) (by rfl) (by rfl) ?_ | (with_reducible intro h; try simp only [h]) | (with_reducible refine And.intro ?_ ?_) | (change chk _ _ = true; rfl) | simp only [go_sem, seval, Vc_bool, h1, h2', h3, hlt, hp, Int.toNat_natCast, Int.natCast_nonneg, Nat.zero_add] | refine (GX_split rfl).2 ?_
      refine Lp.bkE [_] ih' (by rfl) (by rfl) ?_ (Nat.le_refl _) rfl
      rw [List.all_cons, List.all_cons, List.all_nil, Bool.and_true, lt_box, Bool.and_true]
      exact ltO_mono (Nat.zero_le _) (show _ = true from clo_lt (es := (done.filter (fun x : Held => !(decide (x.upto < slot)))).map Held.enc ++ J ++ ([Held.enc x] ++ rest.map Held.enc)) (cloE_app (cloE_app (cloE_map fun _ => by rfl) hc) (cloE_map (f := Held.enc) (xs := x :: rest) fun _ => by rfl)))
    | false =>
      have e : (done ++ [x]).filter (fun x : Held => !(decide (x.upto < slot))) = done.filter (fun x : Held => !(decide (x.upto < slot))) ++ [x] := by simp [hp]
      have hwi : IntKind.i64.wrap (((done.filter (fun x : Held => !(decide (x.upto < slot)))).length : Int) + 1) = (((done.filter (fun x : Held => !(decide (x.upto < slot)))).length + 1 : Nat) : Int) := by rw [wrap_ok (by omega) (by omega)]; omega
      have hil : (((done.filter (fun x : Held => !(decide (x.upto < slot)))).length : Int) < (xs.length : Int)) = True := eq_true (by omega)
      have hget : ∃ y, ((done.filter (fun x : Held => !(decide (x.upto < slot)))).map Held.enc ++ J ++ (x :: rest).map Held.enc)[(done.filter (fun x : Held => !(decide (x.upto < slot)))).length]? = some y ∧ y.length = 5 := by
        cases J with
        | nil => simp at hJ
        | cons j0 J =>
          refine ⟨j0, ?_, hk5 j0 (by simp)⟩
          rw [List.append_assoc, List.getElem?_append_right (by simp), List.length_map, Nat.sub_self]
          rfl
      obtain ⟨y, hy, hyl⟩ := hget
      have hyd : List.drop 5 y = [] := List.drop_eq_nil_of_le (by omega)
      have hset := set_mid (A := (done.filter (fun x : Held => !(decide (x.upto < slot)))).map Held.enc) (J := J) (R := (x :: rest).map Held.enc) (v := Held.enc x) hJ
      rw [List.length_map] at hset
      have hset' : ((done.filter (fun x : Held => !(decide (x.upto < slot)))).map Held.enc ++ J ++ (x :: rest).map Held.enc).set (done.filter (fun x : Held => !(decide (x.upto < slot)))).length [.int .i64 x.flow, .int .i64 x.frame, .int .i64 x.upto, .str x.data, .sl 1 (x.acked.map eI)] = (done.filter (fun x : Held => !(decide (x.upto < slot)))).map Held.enc ++ [Held.enc x] ++ J.drop 1 ++ (x :: rest).map Held.enc := hset
      have ih' := ih (done ++ [x]) (J.drop 1 ++ [Held.enc x]) h4 (by simp) (by rw [e]; simp only [List.length_append, List.length_cons, List.length_nil, List.length_drop]; omega) (by
        intro a ha
        rcases List.mem_append.1 ha with h | h
        · exact hc a (List.mem_of_mem_drop h)
        · exact cloE_map (f := Held.enc) (xs := [x]) (fun _ => by rfl) a h) (by
        intro a ha
        rcases List.mem_append.1 ha with h | h
        · exact hk5 a (List.mem_of_mem_drop h)
        · rw [List.mem_singleton.1 h]; rfl)
      rw [e] at ih'
      repeat' first | refine CX_rd [1] (c160_ok (h := x) (slot := slot)) (by rfl) (by rfl) (by rfl) (by rfl) (by rfl) (by decide) (by rfl) (by rfl) (by rfl) ?_ | (with_reducible intro h; try simp only [h]) | (with_reducible refine And.intro ?_ ?_) | (change chk _ _ = true; rfl) | simp only [go_sem, seval, Vc_bool, h1, h2', h3, hlt, hil, hp, hy, hyl, hyd, hset', hwi, Int.toNat_natCast, Int.natCast_nonneg, Nat.zero_add] | refine (GX_split rfl).2 ?_
      rw [show ((done.filter (fun x : Held => !(decide (x.upto < slot))) ++ [x]).map Held.enc ++ (J.drop 1 ++ [Held.enc x]) ++ rest.map Held.enc) = (done.filter (fun x : Held => !(decide (x.upto < slot)))).map Held.enc ++ [Held.enc x] ++ J.drop 1 ++ (x :: rest).map Held.enc by simp, show (done.filter (fun x : Held => !(decide (x.upto < slot))) ++ [x]).length = (done.filter (fun x : Held => !(decide (x.upto < slot)))).length + 1 by simp] at ih'
      refine Lp.bkE [_] ih' (by rfl) (by rfl) ?_ (Nat.le_refl _) rfl
      rw [List.all_cons, List.all_cons, List.all_nil, Bool.and_true, lt_box, Bool.and_true]
      exact ltO_mono (Nat.zero_le _) (show _ = true from clo_lt (cloE_app (cloE_app (cloE_app (cloE_map fun _ => by rfl) (cloE_map (f := Held.enc) (xs := [x]) fun _ => by rfl)) (fun a ha => hc a (List.mem_of_mem_drop ha))) (cloE_map (f := Held.enc) (xs := x :: rest) fun _ => by rfl)))
theorem c159h_ok {xs : List Held} {slot : Int} {q : Nat} (hL : xs.length < 2 ^ 40) : ACalls prog 159 [.row 0 q 0 xs.length, .func 160 [] [.ptr 1 0 0 0]] [.cells q 5 100 false (xs.map Held.enc), .cells 0 1 3 true [[.int .i64 slot]]] (.sl 5 ((xs.filter (fun x : Held => !(decide (x.upto < slot)))).map Held.enc)) [.dead, .cells 0 1 3 true [[.int .i64 slot]]] := by
  have hal : ([.cells q 5 100 false (xs.map Held.enc), .cells 0 1 3 true [[.int .i64 slot]]] : Heap).all (ltO 2) = true := by rw [List.all_cons, List.all_cons, List.all_nil, Bool.and_true, lt_held, lt_box]; rfl
  have hI := cIh (xs := xs) (slot := slot) (q := q) (by omega)
  refine calls_of hmx func159 (by kernel_rfl) (c := f159.body.getD .skip) rfl e159 (rs := [(.t 4)]) (by kernel_rfl) (by simp [ntmps159]) ?_
  simp only [c159, argS]
  repeat' first | (with_reducible intro h; try simp only [h]) | (with_reducible refine And.intro ?_ ?_) | (change chk _ _ = true; rfl) | simp only [go_sem, seval, Vc_bool] | refine (GX_split rfl).2 ?_
  refine CX_rd [0, 1] hI (by rfl) (by rfl) (by rfl) hal (by rfl) (by decide) (by rfl) (by rw [List.map_cons, List.map_cons, List.map_nil, List.map_cons, List.map_cons, List.map_nil, ren_held]; rfl) (by rfl) ?_
  rcases idxFrom_range (fun x : Held => decide (x.upto < slot)) xs 0 with ⟨h1, h2⟩ | ⟨i, x, h1, h2, h3, h4⟩
  · have e : xs.filter (fun x : Held => !(decide (x.upto < slot))) = xs := List.filter_eq_self.2 fun y hy => by have := h2 y hy; simpa using this
    rw [h1, e]
    repeat' first | (with_reducible intro h; try simp only [h]) | (with_reducible refine And.intro ?_ ?_) | (change chk _ _ = true; rfl) | simp only [go_sem, seval, Vc_bool] | refine (GX_split rfl).2 ?_
    refine Rt.gs (Gs_freeze 0 (s' := [(4, .sl 5 (xs.map Held.enc))]) (H' := [.dead, .cells 0 1 3 true [[.int .i64 slot]]]) rfl ?_ ?_) (Rt_all (by rfl) (by rfl) (by rfl) (Nat.le_refl _))
    · repeat' (first | exact FzL.nil | refine FzL.cons ?_ ?_ | exact Fz.wk (Wk.refl _) | exact Fz.wk (Wk.nil _) | exact Fz.wk (Wk.emp _) | exact Fz.row0 _ _ _ _ | exact FzH.nil _ | exact FzO.refl _ | refine FzO.one ?_ | refine FzH.cons (by decide) ?_ ?_ | refine FzH.this rfl ?_ | exact FzO.dead (by simp) | (simp only [List.forall_mem_cons, List.not_mem_nil, false_implies, implies_true, and_true, go_sem, seval]) | refine And.intro ?_ ?_)
      exact Fz.row 0 _ (by rw [List.drop_zero]; exact List.take_of_length_le (by simp)) (cloE_map fun _ => by rfl)
    · repeat' (first | exact FzL.nil | refine FzL.cons ?_ ?_ | exact Fz.wk (Wk.refl _) | exact Fz.wk (Wk.nil _) | exact Fz.wk (Wk.emp _) | exact Fz.row0 _ _ _ _ | exact FzH.nil _ | exact FzO.refl _ | refine FzO.one ?_ | refine FzH.cons (by decide) ?_ ?_ | refine FzH.this rfl ?_ | exact FzO.dead (by simp) | (simp only [List.forall_mem_cons, List.not_mem_nil, false_implies, implies_true, and_true, go_sem, seval]) | refine And.intro ?_ ?_)
  · obtain ⟨hil, hix⟩ := List.getElem?_eq_some_iff.1 h1
    have hi1 : decide ((i : Int) = -1) = false := decide_eq_false (by omega)
    have hwi : IntKind.i64.wrap ((i : Int) + 1) = ((i + 1 : Nat) : Int) := by rw [wrap_ok (by omega) (by omega)]; omega
    have hsp : xs = xs.take (i + 1) ++ xs.drop (i + 1) := (List.take_append_drop _ _).symm
    have ht : xs.take (i + 1) = xs.take i ++ [x] := by rw [List.take_add_one, h1]; rfl
    have hpx : (decide (x.upto < slot)) = true := h2
    have hfi : (xs.take i).filter (fun x : Held => !(decide (x.upto < slot))) = xs.take i := List.filter_eq_self.2 fun y hy => by
      obtain ⟨j, hj⟩ := List.mem_iff_getElem?.1 hy
      rw [List.getElem?_take] at hj
      split at hj
      · rename_i hji; have := h4 j y hji hj; simpa using this
      · cases hj
    have hf : (xs.take (i + 1)).filter (fun x : Held => !(decide (x.upto < slot))) = xs.take i := by rw [ht, List.filter_append, hfi]; simp [hpx]
    have hli : (xs.take i).length = i := List.length_take_of_le (by omega)
    have hll : (xs.take (i + 1)).length = i + 1 := List.length_take_of_le (by omega)
    have hmap : xs.map Held.enc = (xs.take i).map Held.enc ++ [Held.enc x] ++ (xs.drop (i + 1)).map Held.enc := by
      conv => lhs; rw [hsp, ht]
      simp
    have h3' : idxFrom (fun x : Held => decide (x.upto < slot)) 0 xs = (i : Int) := by rw [h3, Nat.zero_add]
    have l2 := fun r H' k' hk => lFh xs slot q hL r H' k' hk (xs.drop (i + 1)) (xs.take (i + 1)) [Held.enc x] hsp (Nat.le_refl _) (by rw [hf, hli, hll]; rfl) (cloE_map (f := Held.enc) (xs := [x]) fun _ => by rfl) (by intro a ha; rw [List.mem_singleton.1 ha]; rfl)
    rw [hf, hli, hll, ← hmap] at l2
    rw [h3']
    repeat' first | (with_reducible intro h; try simp only [h]) | (with_reducible refine And.intro ?_ ?_) | (change chk _ _ = true; rfl) | simp only [go_sem, seval, Vc_bool, hi1, hwi] | refine (GX_split rfl).2 ?_
    refine Lp.bkE0 (l2 _ _ _ (fun zs J hJ z0 z5 => ?_)) (by rfl) rfl
    have hle : (xs.filter (fun x : Held => !(decide (x.upto < slot)))).length ≤ xs.length := List.length_filter_le _ _
    generalize hK : xs.filter (fun x : Held => !(decide (x.upto < slot))) = K at *
    have hlen : (K.map Held.enc ++ J).length = xs.length := by rw [List.length_append, List.length_map, hJ]
    have a1 : ((K.length : Int)).toNat = K.length := by omega
    have a2 : ((xs.length : Int)).toNat = xs.length := by omega
    have htk : List.take K.length (K.map Held.enc ++ J) = K.map Held.enc := by
      have h := List.take_left (l₁ := K.map Held.enc) (l₂ := J)
      rwa [List.length_map] at h
    repeat' first | (with_reducible intro h; try simp only [h]) | (with_reducible refine And.intro ?_ ?_) | (change chk _ _ = true; rfl) | simp only [go_sem, seval, Vc_bool, z0, z5, hlen, a1, a2, htk, Nat.zero_add, Nat.sub_zero] | refine (GX_split rfl).2 ?_
    all_goals first | (clear z0 z5; omega) | (clear z0 z5; simp only [List.length_append, List.length_map, List.length_replicate, List.length_drop]; omega) | skip
    refine Rt.gs (Gs_freeze 0 (s' := [(4, .sl 5 (K.map Held.enc))]) (H' := [.dead, .cells 0 1 3 true [[.int .i64 slot]]]) rfl ?_ ?_) (Rt_all (by rfl) (by rfl) (by rfl) (Nat.le_refl _))
    · refine List.forall_mem_cons.2 ⟨?_, by simp⟩
      refine Fz.row 0 K.length ?_ (cloE_map fun _ => by rfl)
      rw [List.drop_zero, List.append_assoc]
      have h := List.take_left (l₁ := K.map Held.enc) (l₂ := List.replicate (xs.length - K.length) [(.int .i64 0), (.int .i64 0), (.int .i64 0), (.str (ByteArray.mk #[])), .nil] ++ List.drop (K.length + (xs.length - K.length)) (K.map Held.enc ++ J))
      rwa [List.length_map] at h
    · repeat' (first | exact FzL.nil | refine FzL.cons ?_ ?_ | exact Fz.wk (Wk.refl _) | exact Fz.wk (Wk.nil _) | exact Fz.wk (Wk.emp _) | exact Fz.row0 _ _ _ _ | exact FzH.nil _ | exact FzO.refl _ | refine FzO.one ?_ | refine FzH.cons (by decide) ?_ ?_ | refine FzH.this rfl ?_ | exact FzO.dead (by simp) | (simp only [List.forall_mem_cons, List.not_mem_nil, false_implies, implies_true, and_true, go_sem, seval]) | refine And.intro ?_ ?_)
theorem lIp (xs : List Packet) (slot : Int) (q : Nat) (hB : ∀ x ∈ xs, 0 ≤ x.born ∧ x.born ≤ 1099511627776) (hs : slot ≤ 9223372036854775807) (hL : xs.length < 2 ^ 62) (k' : List It) (hk : ∀ zs, V prog f206.ntmps 2 (Ret [.t 4] 2 (.int .i64 (-1)) [.cells q 6 104 false (xs.map Packet.enc), .cells 0 1 3 true [[.int .i64 slot]]]) k' zs [.cells q 6 104 false (xs.map Packet.enc), .cells 0 1 3 true [[.int .i64 slot]]]) : ∀ (rest done : List Packet), xs = done ++ rest →
    Lp prog f206.ntmps 2 (Ret [.t 4] 2 (.int .i64 (idxFrom (fun x : Packet => stale x slot) done.length rest)) [.cells q 6 104 false (xs.map Packet.enc), .cells 0 1 3 true [[.int .i64 slot]]]) (cIdxL 6) (.blk 0 :: k') [(0, .row 0 q 0 xs.length), (1, .func 269 [] [.ptr 1 0 0 0]), (7, .int .i64 xs.length), (8, .int .i64 done.length)] [.cells q 6 104 false (xs.map Packet.enc), .cells 0 1 3 true [[.int .i64 slot]]] := by
  have hal : ([.cells q 6 104 false (xs.map Packet.enc), .cells 0 1 3 true [[.int .i64 slot]]] : Heap).all (ltO 2) = true := by rw [List.all_cons, List.all_cons, List.all_nil, Bool.and_true, lt_pk, lt_box]; rfl
  intro rest
  induction rest with
  | nil =>
    intro done hd
    refine Lp.of_eq hmx (cIdxL.eq_1 6) ?_
    have h1 := rg_end hd
    simp only [go_sem, seval, h1]
    exact hk _
  | cons x rest ih =>
    intro done hd
    refine Lp.of_eq hmx (cIdxL.eq_1 6) ?_
    obtain ⟨h1, h2, h3, h4⟩ := rg_hd Packet.enc hd hL
    have ih' := ih _ h4
    have hm : x ∈ xs := by rw [hd]; simp
    have hlt : ((done.length : Int) < (xs.length : Int)) = True := eq_true (by have := congrArg List.length hd; simp at this; omega)
    repeat' first | refine CX_rd [1] (c269_ok (p := x) (slot := slot) (hB x hm) hs) (by rfl) (by rfl) (by rfl) (by rfl) (by rfl) (by decide) (by rfl) (by rfl) (by rfl) ?_ | (with_reducible intro h; try simp only [h]) | (with_reducible refine And.intro ?_ ?_) | (change chk _ _ = true; rfl) | simp only [go_sem, seval, Vc_bool, h1, h2, h3, hlt, Int.toNat_natCast, Int.natCast_nonneg, Nat.zero_add] | refine (GX_split rfl).2 ?_
    · have e : idxFrom (fun x : Packet => stale x slot) done.length (x :: rest) = done.length := by rw [idxFrom, if_pos (by simpa using h)]
      rw [e]
      exact Rt_all (by rfl) (by rfl) hal (Nat.le_refl _)
    · have e : idxFrom (fun x : Packet => stale x slot) done.length (x :: rest) = idxFrom (fun x : Packet => stale x slot) (done ++ [x]).length rest := by rw [idxFrom, if_neg (by simpa using h)]; simp
      rw [e]
      exact Lp.bkE0 ih' (by rfl) rfl
theorem cIp {xs : List Packet} {slot : Int} {q : Nat} (hB : ∀ x ∈ xs, 0 ≤ x.born ∧ x.born ≤ 1099511627776) (hs : slot ≤ 9223372036854775807) (hL : xs.length < 2 ^ 62) : ACalls prog 206 [.row 0 q 0 xs.length, .func 269 [] [.ptr 1 0 0 0]] [.cells q 6 104 false (xs.map Packet.enc), .cells 0 1 3 true [[.int .i64 slot]]] (.int .i64 (idxFrom (fun x : Packet => stale x slot) 0 xs)) [.cells q 6 104 false (xs.map Packet.enc), .cells 0 1 3 true [[.int .i64 slot]]] := by
  have hal : ([.cells q 6 104 false (xs.map Packet.enc), .cells 0 1 3 true [[.int .i64 slot]]] : Heap).all (ltO 2) = true := by rw [List.all_cons, List.all_cons, List.all_nil, Bool.and_true, lt_pk, lt_box]; rfl
  refine calls_of hmx func206 (by kernel_rfl) (c := f206.body.getD .skip) rfl e206 (rs := [(.t 4)]) (by kernel_rfl) (by simp [ntmps206]) ?_
  simp only [cIdx, argS]
  simp only [go_sem, seval, List.length_map]
  refine Lp.bkE0 (lIp xs slot q hB hs hL _ (fun s => ?_) xs [] rfl) (by rfl) rfl
  simp only [go_sem, seval]
  exact Rt_all (by rfl) (by rfl) hal (Nat.le_refl _)
theorem lFp (xs : List Packet) (slot : Int) (q : Nat) (hB : ∀ x ∈ xs, 0 ≤ x.born ∧ x.born ≤ 1099511627776) (hs : slot ≤ 9223372036854775807) (hL : xs.length < 2 ^ 40) (r : AVal) (H' : Heap) (k' : List It) (hk : ∀ zs (J : List (List AVal)), (xs.filter (fun x : Packet => !(stale x slot))).length + J.length = xs.length → get zs 0 = .row 0 q 0 xs.length → get zs 5 = .int .i64 (xs.filter (fun x : Packet => !(stale x slot))).length → V prog f272.ntmps 2 (Ret [.t 4] 2 r H') k' zs [.cells q 6 104 false ((xs.filter (fun x : Packet => !(stale x slot))).map Packet.enc ++ J), .cells 0 1 3 true [[.int .i64 slot]]]) :
    ∀ (rest done : List Packet) (J : List (List AVal)), xs = done ++ rest → 1 ≤ J.length → (done.filter (fun x : Packet => !(stale x slot))).length + J.length = done.length → cloE J → (∀ a ∈ J, a.length = 6) →
    Lp prog f272.ntmps 2 (Ret [.t 4] 2 r H') c272L1 (.blk 0 :: k') [(0, .row 0 q 0 xs.length), (1, .func 269 [] [.ptr 1 0 0 0]), (5, .int .i64 (done.filter (fun x : Packet => !(stale x slot))).length), (6, .int .i64 done.length)] [.cells q 6 104 false ((done.filter (fun x : Packet => !(stale x slot))).map Packet.enc ++ J ++ rest.map Packet.enc), .cells 0 1 3 true [[.int .i64 slot]]] := by
  intro rest
  induction rest with
  | nil =>
    intro done J hd hJ hl hc hk5
    refine Lp.of_eq hmx c272L1.eq_1 ?_
    have h1 := rg_end hd
    rw [List.append_nil] at hd
    subst hd
    rw [List.map_nil, List.append_nil]
    simp only [go_sem, seval, h1]
    exact hk _ J hl (by rfl) (by rfl)
  | cons x rest ih =>
    intro done J hd hJ hl hc hk5
    refine Lp.of_eq hmx c272L1.eq_1 ?_
    obtain ⟨h1, h2, h3, h4⟩ := rg_hd Packet.enc hd (by omega)
    have hm : x ∈ xs := by rw [hd]; simp
    have hdl : done.length < xs.length := by rw [hd]; simp
    have hlt : ((done.length : Int) < (xs.length : Int)) = True := eq_true (by omega)
    have hA : ((done.filter (fun x : Packet => !(stale x slot))).map Packet.enc ++ J).length = done.length := by rw [List.length_append, List.length_map, hl]
    have h2' : ((done.filter (fun x : Packet => !(stale x slot))).map Packet.enc ++ J ++ (x :: rest).map Packet.enc)[done.length]? = some (Packet.enc x) := by
      rw [List.getElem?_append_right (by omega), hA, Nat.sub_self]; rfl
    cases hp : (stale x slot) with
    | true =>
      have e : (done ++ [x]).filter (fun x : Packet => !(stale x slot)) = done.filter (fun x : Packet => !(stale x slot)) := by simp [hp]
      have ih' := ih (done ++ [x]) (J ++ [Packet.enc x]) h4 (by simp only [List.length_append, List.length_cons, List.length_nil]; omega) (by rw [e]; simp only [List.length_append, List.length_cons, List.length_nil]; omega) (by
        intro a ha
        rcases List.mem_append.1 ha with h | h
        · exact hc a h
        · exact cloE_map (f := Packet.enc) (xs := [x]) (fun _ => by rfl) a h) (by
        intro a ha
        rcases List.mem_append.1 ha with h | h
        · exact hk5 a h
        · rw [List.mem_singleton.1 h]; rfl)
      rw [e, ← List.append_assoc, List.append_assoc _ [Packet.enc x]] at ih'
      repeat' first | refine CX_rd [1] (c269_ok (p := x) (slot := slot) (hB x hm) hs) (by rfl) (by rfl) (by rfl) (by rfl) (by rfl) (by decide) (by rfl) (by rfl) (by rfl) ?_ | (with_reducible intro h; try simp only [h]) | (with_reducible refine And.intro ?_ ?_) | (change chk _ _ = true; rfl) | simp only [go_sem, seval, Vc_bool, h1, h2', h3, hlt, hp, Int.toNat_natCast, Int.natCast_nonneg, Nat.zero_add] | refine (GX_split rfl).2 ?_
      refine Lp.bkE [_] ih' (by rfl) (by rfl) ?_ (Nat.le_refl _) rfl
      rw [List.all_cons, List.all_cons, List.all_nil, Bool.and_true, lt_box, Bool.and_true]
      exact ltO_mono (Nat.zero_le _) (show _ = true from clo_lt (es := (done.filter (fun x : Packet => !(stale x slot))).map Packet.enc ++ J ++ ([Packet.enc x] ++ rest.map Packet.enc)) (cloE_app (cloE_app (cloE_map fun _ => by rfl) hc) (cloE_map (f := Packet.enc) (xs := x :: rest) fun _ => by rfl)))
    | false =>
      have e : (done ++ [x]).filter (fun x : Packet => !(stale x slot)) = done.filter (fun x : Packet => !(stale x slot)) ++ [x] := by simp [hp]
      have hwi : IntKind.i64.wrap (((done.filter (fun x : Packet => !(stale x slot))).length : Int) + 1) = (((done.filter (fun x : Packet => !(stale x slot))).length + 1 : Nat) : Int) := by rw [wrap_ok (by omega) (by omega)]; omega
      have hil : (((done.filter (fun x : Packet => !(stale x slot))).length : Int) < (xs.length : Int)) = True := eq_true (by omega)
      have hget : ∃ y, ((done.filter (fun x : Packet => !(stale x slot))).map Packet.enc ++ J ++ (x :: rest).map Packet.enc)[(done.filter (fun x : Packet => !(stale x slot))).length]? = some y ∧ y.length = 6 := by
        cases J with
        | nil => simp at hJ
        | cons j0 J =>
          refine ⟨j0, ?_, hk5 j0 (by simp)⟩
          rw [List.append_assoc, List.getElem?_append_right (by simp), List.length_map, Nat.sub_self]
          rfl
      obtain ⟨y, hy, hyl⟩ := hget
      have hyd : List.drop 6 y = [] := List.drop_eq_nil_of_le (by omega)
      have hset := set_mid (A := (done.filter (fun x : Packet => !(stale x slot))).map Packet.enc) (J := J) (R := (x :: rest).map Packet.enc) (v := Packet.enc x) hJ
      rw [List.length_map] at hset
      have hset' : ((done.filter (fun x : Packet => !(stale x slot))).map Packet.enc ++ J ++ (x :: rest).map Packet.enc).set (done.filter (fun x : Packet => !(stale x slot))).length [.int .i64 x.id, .int .i64 x.to, .int .i64 x.pri, .int .i64 x.born, .int .i64 x.life, .str x.data] = (done.filter (fun x : Packet => !(stale x slot))).map Packet.enc ++ [Packet.enc x] ++ J.drop 1 ++ (x :: rest).map Packet.enc := hset
      have ih' := ih (done ++ [x]) (J.drop 1 ++ [Packet.enc x]) h4 (by simp) (by rw [e]; simp only [List.length_append, List.length_cons, List.length_nil, List.length_drop]; omega) (by
        intro a ha
        rcases List.mem_append.1 ha with h | h
        · exact hc a (List.mem_of_mem_drop h)
        · exact cloE_map (f := Packet.enc) (xs := [x]) (fun _ => by rfl) a h) (by
        intro a ha
        rcases List.mem_append.1 ha with h | h
        · exact hk5 a (List.mem_of_mem_drop h)
        · rw [List.mem_singleton.1 h]; rfl)
      rw [e] at ih'
      repeat' first | refine CX_rd [1] (c269_ok (p := x) (slot := slot) (hB x hm) hs) (by rfl) (by rfl) (by rfl) (by rfl) (by rfl) (by decide) (by rfl) (by rfl) (by rfl) ?_ | (with_reducible intro h; try simp only [h]) | (with_reducible refine And.intro ?_ ?_) | (change chk _ _ = true; rfl) | simp only [go_sem, seval, Vc_bool, h1, h2', h3, hlt, hil, hp, hy, hyl, hyd, hset', hwi, Int.toNat_natCast, Int.natCast_nonneg, Nat.zero_add] | refine (GX_split rfl).2 ?_
      rw [show ((done.filter (fun x : Packet => !(stale x slot)) ++ [x]).map Packet.enc ++ (J.drop 1 ++ [Packet.enc x]) ++ rest.map Packet.enc) = (done.filter (fun x : Packet => !(stale x slot))).map Packet.enc ++ [Packet.enc x] ++ J.drop 1 ++ (x :: rest).map Packet.enc by simp, show (done.filter (fun x : Packet => !(stale x slot)) ++ [x]).length = (done.filter (fun x : Packet => !(stale x slot))).length + 1 by simp] at ih'
      refine Lp.bkE [_] ih' (by rfl) (by rfl) ?_ (Nat.le_refl _) rfl
      rw [List.all_cons, List.all_cons, List.all_nil, Bool.and_true, lt_box, Bool.and_true]
      exact ltO_mono (Nat.zero_le _) (show _ = true from clo_lt (cloE_app (cloE_app (cloE_app (cloE_map fun _ => by rfl) (cloE_map (f := Packet.enc) (xs := [x]) fun _ => by rfl)) (fun a ha => hc a (List.mem_of_mem_drop ha))) (cloE_map (f := Packet.enc) (xs := x :: rest) fun _ => by rfl)))
theorem c272p_ok {xs : List Packet} {slot : Int} {q : Nat} (hB : ∀ x ∈ xs, 0 ≤ x.born ∧ x.born ≤ 1099511627776) (hs : slot ≤ 9223372036854775807) (hL : xs.length < 2 ^ 40) : ACalls prog 272 [.row 0 q 0 xs.length, .func 269 [] [.ptr 1 0 0 0]] [.cells q 6 104 false (xs.map Packet.enc), .cells 0 1 3 true [[.int .i64 slot]]] (.sl 6 ((xs.filter (fun x : Packet => !(stale x slot))).map Packet.enc)) [.dead, .cells 0 1 3 true [[.int .i64 slot]]] := by
  have hal : ([.cells q 6 104 false (xs.map Packet.enc), .cells 0 1 3 true [[.int .i64 slot]]] : Heap).all (ltO 2) = true := by rw [List.all_cons, List.all_cons, List.all_nil, Bool.and_true, lt_pk, lt_box]; rfl
  have hI := cIp (xs := xs) (slot := slot) (q := q) hB hs (by omega)
  refine calls_of hmx func272 (by kernel_rfl) (c := f272.body.getD .skip) rfl e272 (rs := [(.t 4)]) (by kernel_rfl) (by simp [ntmps272]) ?_
  simp only [c272, argS]
  repeat' first | (with_reducible intro h; try simp only [h]) | (with_reducible refine And.intro ?_ ?_) | (change chk _ _ = true; rfl) | simp only [go_sem, seval, Vc_bool] | refine (GX_split rfl).2 ?_
  refine CX_rd [0, 1] hI (by rfl) (by rfl) (by rfl) hal (by rfl) (by decide) (by rfl) (by rw [List.map_cons, List.map_cons, List.map_nil, List.map_cons, List.map_cons, List.map_nil, ren_pk]; rfl) (by rfl) ?_
  rcases idxFrom_range (fun x : Packet => stale x slot) xs 0 with ⟨h1, h2⟩ | ⟨i, x, h1, h2, h3, h4⟩
  · have e : xs.filter (fun x : Packet => !(stale x slot)) = xs := List.filter_eq_self.2 fun y hy => by have := h2 y hy; simpa using this
    rw [h1, e]
    repeat' first | (with_reducible intro h; try simp only [h]) | (with_reducible refine And.intro ?_ ?_) | (change chk _ _ = true; rfl) | simp only [go_sem, seval, Vc_bool] | refine (GX_split rfl).2 ?_
    refine Rt.gs (Gs_freeze 0 (s' := [(4, .sl 6 (xs.map Packet.enc))]) (H' := [.dead, .cells 0 1 3 true [[.int .i64 slot]]]) rfl ?_ ?_) (Rt_all (by rfl) (by rfl) (by rfl) (Nat.le_refl _))
    · repeat' (first | exact FzL.nil | refine FzL.cons ?_ ?_ | exact Fz.wk (Wk.refl _) | exact Fz.wk (Wk.nil _) | exact Fz.wk (Wk.emp _) | exact Fz.row0 _ _ _ _ | exact FzH.nil _ | exact FzO.refl _ | refine FzO.one ?_ | refine FzH.cons (by decide) ?_ ?_ | refine FzH.this rfl ?_ | exact FzO.dead (by simp) | (simp only [List.forall_mem_cons, List.not_mem_nil, false_implies, implies_true, and_true, go_sem, seval]) | refine And.intro ?_ ?_)
      exact Fz.row 0 _ (by rw [List.drop_zero]; exact List.take_of_length_le (by simp)) (cloE_map fun _ => by rfl)
    · repeat' (first | exact FzL.nil | refine FzL.cons ?_ ?_ | exact Fz.wk (Wk.refl _) | exact Fz.wk (Wk.nil _) | exact Fz.wk (Wk.emp _) | exact Fz.row0 _ _ _ _ | exact FzH.nil _ | exact FzO.refl _ | refine FzO.one ?_ | refine FzH.cons (by decide) ?_ ?_ | refine FzH.this rfl ?_ | exact FzO.dead (by simp) | (simp only [List.forall_mem_cons, List.not_mem_nil, false_implies, implies_true, and_true, go_sem, seval]) | refine And.intro ?_ ?_)
  · obtain ⟨hil, hix⟩ := List.getElem?_eq_some_iff.1 h1
    have hi1 : decide ((i : Int) = -1) = false := decide_eq_false (by omega)
    have hwi : IntKind.i64.wrap ((i : Int) + 1) = ((i + 1 : Nat) : Int) := by rw [wrap_ok (by omega) (by omega)]; omega
    have hsp : xs = xs.take (i + 1) ++ xs.drop (i + 1) := (List.take_append_drop _ _).symm
    have ht : xs.take (i + 1) = xs.take i ++ [x] := by rw [List.take_add_one, h1]; rfl
    have hpx : (stale x slot) = true := h2
    have hfi : (xs.take i).filter (fun x : Packet => !(stale x slot)) = xs.take i := List.filter_eq_self.2 fun y hy => by
      obtain ⟨j, hj⟩ := List.mem_iff_getElem?.1 hy
      rw [List.getElem?_take] at hj
      split at hj
      · rename_i hji; have := h4 j y hji hj; simpa using this
      · cases hj
    have hf : (xs.take (i + 1)).filter (fun x : Packet => !(stale x slot)) = xs.take i := by rw [ht, List.filter_append, hfi]; simp [hpx]
    have hli : (xs.take i).length = i := List.length_take_of_le (by omega)
    have hll : (xs.take (i + 1)).length = i + 1 := List.length_take_of_le (by omega)
    have hmap : xs.map Packet.enc = (xs.take i).map Packet.enc ++ [Packet.enc x] ++ (xs.drop (i + 1)).map Packet.enc := by
      conv => lhs; rw [hsp, ht]
      simp
    have h3' : idxFrom (fun x : Packet => stale x slot) 0 xs = (i : Int) := by rw [h3, Nat.zero_add]
    have l2 := fun r H' k' hk => lFp xs slot q hB hs hL r H' k' hk (xs.drop (i + 1)) (xs.take (i + 1)) [Packet.enc x] hsp (Nat.le_refl _) (by rw [hf, hli, hll]; rfl) (cloE_map (f := Packet.enc) (xs := [x]) fun _ => by rfl) (by intro a ha; rw [List.mem_singleton.1 ha]; rfl)
    rw [hf, hli, hll, ← hmap] at l2
    rw [h3']
    repeat' first | (with_reducible intro h; try simp only [h]) | (with_reducible refine And.intro ?_ ?_) | (change chk _ _ = true; rfl) | simp only [go_sem, seval, Vc_bool, hi1, hwi] | refine (GX_split rfl).2 ?_
    refine Lp.bkE0 (l2 _ _ _ (fun zs J hJ z0 z5 => ?_)) (by rfl) rfl
    have hle : (xs.filter (fun x : Packet => !(stale x slot))).length ≤ xs.length := List.length_filter_le _ _
    generalize hK : xs.filter (fun x : Packet => !(stale x slot)) = K at *
    have hlen : (K.map Packet.enc ++ J).length = xs.length := by rw [List.length_append, List.length_map, hJ]
    have a1 : ((K.length : Int)).toNat = K.length := by omega
    have a2 : ((xs.length : Int)).toNat = xs.length := by omega
    have htk : List.take K.length (K.map Packet.enc ++ J) = K.map Packet.enc := by
      have h := List.take_left (l₁ := K.map Packet.enc) (l₂ := J)
      rwa [List.length_map] at h
    repeat' first | (with_reducible intro h; try simp only [h]) | (with_reducible refine And.intro ?_ ?_) | (change chk _ _ = true; rfl) | simp only [go_sem, seval, Vc_bool, z0, z5, hlen, a1, a2, htk, Nat.zero_add, Nat.sub_zero] | refine (GX_split rfl).2 ?_
    all_goals first | (clear z0 z5; omega) | (clear z0 z5; simp only [List.length_append, List.length_map, List.length_replicate, List.length_drop]; omega) | skip
    refine Rt.gs (Gs_freeze 0 (s' := [(4, .sl 6 (K.map Packet.enc))]) (H' := [.dead, .cells 0 1 3 true [[.int .i64 slot]]]) rfl ?_ ?_) (Rt_all (by rfl) (by rfl) (by rfl) (Nat.le_refl _))
    · refine List.forall_mem_cons.2 ⟨?_, by simp⟩
      refine Fz.row 0 K.length ?_ (cloE_map fun _ => by rfl)
      rw [List.drop_zero, List.append_assoc]
      have h := List.take_left (l₁ := K.map Packet.enc) (l₂ := List.replicate (xs.length - K.length) [(.int .i64 0), (.int .i64 0), (.int .i64 0), (.int .i64 0), (.int .i64 0), (.str (ByteArray.mk #[]))] ++ List.drop (K.length + (xs.length - K.length)) (K.map Packet.enc ++ J))
      rwa [List.length_map] at h
    · repeat' (first | exact FzL.nil | refine FzL.cons ?_ ?_ | exact Fz.wk (Wk.refl _) | exact Fz.wk (Wk.nil _) | exact Fz.wk (Wk.emp _) | exact Fz.row0 _ _ _ _ | exact FzH.nil _ | exact FzO.refl _ | refine FzO.one ?_ | refine FzH.cons (by decide) ?_ ?_ | refine FzH.this rfl ?_ | exact FzO.dead (by simp) | (simp only [List.forall_mem_cons, List.not_mem_nil, false_implies, implies_true, and_true, go_sem, seval]) | refine And.intro ?_ ?_)
theorem lIf (xs : List Packet) (slot : Int) (q : Nat) (hB : ∀ x ∈ xs, 0 ≤ x.born ∧ x.born ≤ 1099511627776) (hs : slot ≤ 9223372036854775807) (hL : xs.length < 2 ^ 62) (k' : List It) (hk : ∀ zs, V prog f206.ntmps 2 (Ret [.t 4] 2 (.int .i64 (-1)) [.cells q 6 104 false (xs.map Packet.enc), .cells 0 1 3 true [[.int .i64 slot]]]) k' zs [.cells q 6 104 false (xs.map Packet.enc), .cells 0 1 3 true [[.int .i64 slot]]]) : ∀ (rest done : List Packet), xs = done ++ rest →
    Lp prog f206.ntmps 2 (Ret [.t 4] 2 (.int .i64 (idxFrom (fun x : Packet => fresh x slot) done.length rest)) [.cells q 6 104 false (xs.map Packet.enc), .cells 0 1 3 true [[.int .i64 slot]]]) (cIdxL 6) (.blk 0 :: k') [(0, .row 0 q 0 xs.length), (1, .func 271 [] [.ptr 1 0 0 0]), (7, .int .i64 xs.length), (8, .int .i64 done.length)] [.cells q 6 104 false (xs.map Packet.enc), .cells 0 1 3 true [[.int .i64 slot]]] := by
  have hal : ([.cells q 6 104 false (xs.map Packet.enc), .cells 0 1 3 true [[.int .i64 slot]]] : Heap).all (ltO 2) = true := by rw [List.all_cons, List.all_cons, List.all_nil, Bool.and_true, lt_pk, lt_box]; rfl
  intro rest
  induction rest with
  | nil =>
    intro done hd
    refine Lp.of_eq hmx (cIdxL.eq_1 6) ?_
    have h1 := rg_end hd
    simp only [go_sem, seval, h1]
    exact hk _
  | cons x rest ih =>
    intro done hd
    refine Lp.of_eq hmx (cIdxL.eq_1 6) ?_
    obtain ⟨h1, h2, h3, h4⟩ := rg_hd Packet.enc hd hL
    have ih' := ih _ h4
    have hm : x ∈ xs := by rw [hd]; simp
    have hlt : ((done.length : Int) < (xs.length : Int)) = True := eq_true (by have := congrArg List.length hd; simp at this; omega)
    repeat' first | refine CX_rd [1] (c271_ok (p := x) (slot := slot) (hB x hm) hs) (by rfl) (by rfl) (by rfl) (by rfl) (by rfl) (by decide) (by rfl) (by rfl) (by rfl) ?_ | (with_reducible intro h; try simp only [h]) | (with_reducible refine And.intro ?_ ?_) | (change chk _ _ = true; rfl) | simp only [go_sem, seval, Vc_bool, h1, h2, h3, hlt, Int.toNat_natCast, Int.natCast_nonneg, Nat.zero_add] | refine (GX_split rfl).2 ?_
    · have e : idxFrom (fun x : Packet => fresh x slot) done.length (x :: rest) = done.length := by rw [idxFrom, if_pos (by simpa using h)]
      rw [e]
      exact Rt_all (by rfl) (by rfl) hal (Nat.le_refl _)
    · have e : idxFrom (fun x : Packet => fresh x slot) done.length (x :: rest) = idxFrom (fun x : Packet => fresh x slot) (done ++ [x]).length rest := by rw [idxFrom, if_neg (by simpa using h)]; simp
      rw [e]
      exact Lp.bkE0 ih' (by rfl) rfl
theorem cIf {xs : List Packet} {slot : Int} {q : Nat} (hB : ∀ x ∈ xs, 0 ≤ x.born ∧ x.born ≤ 1099511627776) (hs : slot ≤ 9223372036854775807) (hL : xs.length < 2 ^ 62) : ACalls prog 206 [.row 0 q 0 xs.length, .func 271 [] [.ptr 1 0 0 0]] [.cells q 6 104 false (xs.map Packet.enc), .cells 0 1 3 true [[.int .i64 slot]]] (.int .i64 (idxFrom (fun x : Packet => fresh x slot) 0 xs)) [.cells q 6 104 false (xs.map Packet.enc), .cells 0 1 3 true [[.int .i64 slot]]] := by
  have hal : ([.cells q 6 104 false (xs.map Packet.enc), .cells 0 1 3 true [[.int .i64 slot]]] : Heap).all (ltO 2) = true := by rw [List.all_cons, List.all_cons, List.all_nil, Bool.and_true, lt_pk, lt_box]; rfl
  refine calls_of hmx func206 (by kernel_rfl) (c := f206.body.getD .skip) rfl e206 (rs := [(.t 4)]) (by kernel_rfl) (by simp [ntmps206]) ?_
  simp only [cIdx, argS]
  simp only [go_sem, seval, List.length_map]
  refine Lp.bkE0 (lIf xs slot q hB hs hL _ (fun s => ?_) xs [] rfl) (by rfl) rfl
  simp only [go_sem, seval]
  exact Rt_all (by rfl) (by rfl) hal (Nat.le_refl _)
theorem lFf (xs : List Packet) (slot : Int) (q : Nat) (hB : ∀ x ∈ xs, 0 ≤ x.born ∧ x.born ≤ 1099511627776) (hs : slot ≤ 9223372036854775807) (hL : xs.length < 2 ^ 40) (r : AVal) (H' : Heap) (k' : List It) (hk : ∀ zs (J : List (List AVal)), (xs.filter (fun x : Packet => !(fresh x slot))).length + J.length = xs.length → get zs 0 = .row 0 q 0 xs.length → get zs 5 = .int .i64 (xs.filter (fun x : Packet => !(fresh x slot))).length → V prog f272.ntmps 2 (Ret [.t 4] 2 r H') k' zs [.cells q 6 104 false ((xs.filter (fun x : Packet => !(fresh x slot))).map Packet.enc ++ J), .cells 0 1 3 true [[.int .i64 slot]]]) :
    ∀ (rest done : List Packet) (J : List (List AVal)), xs = done ++ rest → 1 ≤ J.length → (done.filter (fun x : Packet => !(fresh x slot))).length + J.length = done.length → cloE J → (∀ a ∈ J, a.length = 6) →
    Lp prog f272.ntmps 2 (Ret [.t 4] 2 r H') c272L1 (.blk 0 :: k') [(0, .row 0 q 0 xs.length), (1, .func 271 [] [.ptr 1 0 0 0]), (5, .int .i64 (done.filter (fun x : Packet => !(fresh x slot))).length), (6, .int .i64 done.length)] [.cells q 6 104 false ((done.filter (fun x : Packet => !(fresh x slot))).map Packet.enc ++ J ++ rest.map Packet.enc), .cells 0 1 3 true [[.int .i64 slot]]] := by
  intro rest
  induction rest with
  | nil =>
    intro done J hd hJ hl hc hk5
    refine Lp.of_eq hmx c272L1.eq_1 ?_
    have h1 := rg_end hd
    rw [List.append_nil] at hd
    subst hd
    rw [List.map_nil, List.append_nil]
    simp only [go_sem, seval, h1]
    exact hk _ J hl (by rfl) (by rfl)
  | cons x rest ih =>
    intro done J hd hJ hl hc hk5
    refine Lp.of_eq hmx c272L1.eq_1 ?_
    obtain ⟨h1, h2, h3, h4⟩ := rg_hd Packet.enc hd (by omega)
    have hm : x ∈ xs := by rw [hd]; simp
    have hdl : done.length < xs.length := by rw [hd]; simp
    have hlt : ((done.length : Int) < (xs.length : Int)) = True := eq_true (by omega)
    have hA : ((done.filter (fun x : Packet => !(fresh x slot))).map Packet.enc ++ J).length = done.length := by rw [List.length_append, List.length_map, hl]
    have h2' : ((done.filter (fun x : Packet => !(fresh x slot))).map Packet.enc ++ J ++ (x :: rest).map Packet.enc)[done.length]? = some (Packet.enc x) := by
      rw [List.getElem?_append_right (by omega), hA, Nat.sub_self]; rfl
    cases hp : (fresh x slot) with
    | true =>
      have e : (done ++ [x]).filter (fun x : Packet => !(fresh x slot)) = done.filter (fun x : Packet => !(fresh x slot)) := by simp [hp]
      have ih' := ih (done ++ [x]) (J ++ [Packet.enc x]) h4 (by simp only [List.length_append, List.length_cons, List.length_nil]; omega) (by rw [e]; simp only [List.length_append, List.length_cons, List.length_nil]; omega) (by
        intro a ha
        rcases List.mem_append.1 ha with h | h
        · exact hc a h
        · exact cloE_map (f := Packet.enc) (xs := [x]) (fun _ => by rfl) a h) (by
        intro a ha
        rcases List.mem_append.1 ha with h | h
        · exact hk5 a h
        · rw [List.mem_singleton.1 h]; rfl)
      rw [e, ← List.append_assoc, List.append_assoc _ [Packet.enc x]] at ih'
      repeat' first | refine CX_rd [1] (c271_ok (p := x) (slot := slot) (hB x hm) hs) (by rfl) (by rfl) (by rfl) (by rfl) (by rfl) (by decide) (by rfl) (by rfl) (by rfl) ?_ | (with_reducible intro h; try simp only [h]) | (with_reducible refine And.intro ?_ ?_) | (change chk _ _ = true; rfl) | simp only [go_sem, seval, Vc_bool, h1, h2', h3, hlt, hp, Int.toNat_natCast, Int.natCast_nonneg, Nat.zero_add] | refine (GX_split rfl).2 ?_
      refine Lp.bkE [_] ih' (by rfl) (by rfl) ?_ (Nat.le_refl _) rfl
      rw [List.all_cons, List.all_cons, List.all_nil, Bool.and_true, lt_box, Bool.and_true]
      exact ltO_mono (Nat.zero_le _) (show _ = true from clo_lt (es := (done.filter (fun x : Packet => !(fresh x slot))).map Packet.enc ++ J ++ ([Packet.enc x] ++ rest.map Packet.enc)) (cloE_app (cloE_app (cloE_map fun _ => by rfl) hc) (cloE_map (f := Packet.enc) (xs := x :: rest) fun _ => by rfl)))
    | false =>
      have e : (done ++ [x]).filter (fun x : Packet => !(fresh x slot)) = done.filter (fun x : Packet => !(fresh x slot)) ++ [x] := by simp [hp]
      have hwi : IntKind.i64.wrap (((done.filter (fun x : Packet => !(fresh x slot))).length : Int) + 1) = (((done.filter (fun x : Packet => !(fresh x slot))).length + 1 : Nat) : Int) := by rw [wrap_ok (by omega) (by omega)]; omega
      have hil : (((done.filter (fun x : Packet => !(fresh x slot))).length : Int) < (xs.length : Int)) = True := eq_true (by omega)
      have hget : ∃ y, ((done.filter (fun x : Packet => !(fresh x slot))).map Packet.enc ++ J ++ (x :: rest).map Packet.enc)[(done.filter (fun x : Packet => !(fresh x slot))).length]? = some y ∧ y.length = 6 := by
        cases J with
        | nil => simp at hJ
        | cons j0 J =>
          refine ⟨j0, ?_, hk5 j0 (by simp)⟩
          rw [List.append_assoc, List.getElem?_append_right (by simp), List.length_map, Nat.sub_self]
          rfl
      obtain ⟨y, hy, hyl⟩ := hget
      have hyd : List.drop 6 y = [] := List.drop_eq_nil_of_le (by omega)
      have hset := set_mid (A := (done.filter (fun x : Packet => !(fresh x slot))).map Packet.enc) (J := J) (R := (x :: rest).map Packet.enc) (v := Packet.enc x) hJ
      rw [List.length_map] at hset
      have hset' : ((done.filter (fun x : Packet => !(fresh x slot))).map Packet.enc ++ J ++ (x :: rest).map Packet.enc).set (done.filter (fun x : Packet => !(fresh x slot))).length [.int .i64 x.id, .int .i64 x.to, .int .i64 x.pri, .int .i64 x.born, .int .i64 x.life, .str x.data] = (done.filter (fun x : Packet => !(fresh x slot))).map Packet.enc ++ [Packet.enc x] ++ J.drop 1 ++ (x :: rest).map Packet.enc := hset
      have ih' := ih (done ++ [x]) (J.drop 1 ++ [Packet.enc x]) h4 (by simp) (by rw [e]; simp only [List.length_append, List.length_cons, List.length_nil, List.length_drop]; omega) (by
        intro a ha
        rcases List.mem_append.1 ha with h | h
        · exact hc a (List.mem_of_mem_drop h)
        · exact cloE_map (f := Packet.enc) (xs := [x]) (fun _ => by rfl) a h) (by
        intro a ha
        rcases List.mem_append.1 ha with h | h
        · exact hk5 a (List.mem_of_mem_drop h)
        · rw [List.mem_singleton.1 h]; rfl)
      rw [e] at ih'
      repeat' first | refine CX_rd [1] (c271_ok (p := x) (slot := slot) (hB x hm) hs) (by rfl) (by rfl) (by rfl) (by rfl) (by rfl) (by decide) (by rfl) (by rfl) (by rfl) ?_ | (with_reducible intro h; try simp only [h]) | (with_reducible refine And.intro ?_ ?_) | (change chk _ _ = true; rfl) | simp only [go_sem, seval, Vc_bool, h1, h2', h3, hlt, hil, hp, hy, hyl, hyd, hset', hwi, Int.toNat_natCast, Int.natCast_nonneg, Nat.zero_add] | refine (GX_split rfl).2 ?_
      rw [show ((done.filter (fun x : Packet => !(fresh x slot)) ++ [x]).map Packet.enc ++ (J.drop 1 ++ [Packet.enc x]) ++ rest.map Packet.enc) = (done.filter (fun x : Packet => !(fresh x slot))).map Packet.enc ++ [Packet.enc x] ++ J.drop 1 ++ (x :: rest).map Packet.enc by simp, show (done.filter (fun x : Packet => !(fresh x slot)) ++ [x]).length = (done.filter (fun x : Packet => !(fresh x slot))).length + 1 by simp] at ih'
      refine Lp.bkE [_] ih' (by rfl) (by rfl) ?_ (Nat.le_refl _) rfl
      rw [List.all_cons, List.all_cons, List.all_nil, Bool.and_true, lt_box, Bool.and_true]
      exact ltO_mono (Nat.zero_le _) (show _ = true from clo_lt (cloE_app (cloE_app (cloE_app (cloE_map fun _ => by rfl) (cloE_map (f := Packet.enc) (xs := [x]) fun _ => by rfl)) (fun a ha => hc a (List.mem_of_mem_drop ha))) (cloE_map (f := Packet.enc) (xs := x :: rest) fun _ => by rfl)))
theorem c272f_ok {xs : List Packet} {slot : Int} {q : Nat} (hB : ∀ x ∈ xs, 0 ≤ x.born ∧ x.born ≤ 1099511627776) (hs : slot ≤ 9223372036854775807) (hL : xs.length < 2 ^ 40) : ACalls prog 272 [.row 0 q 0 xs.length, .func 271 [] [.ptr 1 0 0 0]] [.cells q 6 104 false (xs.map Packet.enc), .cells 0 1 3 true [[.int .i64 slot]]] (.sl 6 ((xs.filter (fun x : Packet => !(fresh x slot))).map Packet.enc)) [.dead, .cells 0 1 3 true [[.int .i64 slot]]] := by
  have hal : ([.cells q 6 104 false (xs.map Packet.enc), .cells 0 1 3 true [[.int .i64 slot]]] : Heap).all (ltO 2) = true := by rw [List.all_cons, List.all_cons, List.all_nil, Bool.and_true, lt_pk, lt_box]; rfl
  have hI := cIf (xs := xs) (slot := slot) (q := q) hB hs (by omega)
  refine calls_of hmx func272 (by kernel_rfl) (c := f272.body.getD .skip) rfl e272 (rs := [(.t 4)]) (by kernel_rfl) (by simp [ntmps272]) ?_
  simp only [c272, argS]
  repeat' first | (with_reducible intro h; try simp only [h]) | (with_reducible refine And.intro ?_ ?_) | (change chk _ _ = true; rfl) | simp only [go_sem, seval, Vc_bool] | refine (GX_split rfl).2 ?_
  refine CX_rd [0, 1] hI (by rfl) (by rfl) (by rfl) hal (by rfl) (by decide) (by rfl) (by rw [List.map_cons, List.map_cons, List.map_nil, List.map_cons, List.map_cons, List.map_nil, ren_pk]; rfl) (by rfl) ?_
  rcases idxFrom_range (fun x : Packet => fresh x slot) xs 0 with ⟨h1, h2⟩ | ⟨i, x, h1, h2, h3, h4⟩
  · have e : xs.filter (fun x : Packet => !(fresh x slot)) = xs := List.filter_eq_self.2 fun y hy => by have := h2 y hy; simpa using this
    rw [h1, e]
    repeat' first | (with_reducible intro h; try simp only [h]) | (with_reducible refine And.intro ?_ ?_) | (change chk _ _ = true; rfl) | simp only [go_sem, seval, Vc_bool] | refine (GX_split rfl).2 ?_
    refine Rt.gs (Gs_freeze 0 (s' := [(4, .sl 6 (xs.map Packet.enc))]) (H' := [.dead, .cells 0 1 3 true [[.int .i64 slot]]]) rfl ?_ ?_) (Rt_all (by rfl) (by rfl) (by rfl) (Nat.le_refl _))
    · repeat' (first | exact FzL.nil | refine FzL.cons ?_ ?_ | exact Fz.wk (Wk.refl _) | exact Fz.wk (Wk.nil _) | exact Fz.wk (Wk.emp _) | exact Fz.row0 _ _ _ _ | exact FzH.nil _ | exact FzO.refl _ | refine FzO.one ?_ | refine FzH.cons (by decide) ?_ ?_ | refine FzH.this rfl ?_ | exact FzO.dead (by simp) | (simp only [List.forall_mem_cons, List.not_mem_nil, false_implies, implies_true, and_true, go_sem, seval]) | refine And.intro ?_ ?_)
      exact Fz.row 0 _ (by rw [List.drop_zero]; exact List.take_of_length_le (by simp)) (cloE_map fun _ => by rfl)
    · repeat' (first | exact FzL.nil | refine FzL.cons ?_ ?_ | exact Fz.wk (Wk.refl _) | exact Fz.wk (Wk.nil _) | exact Fz.wk (Wk.emp _) | exact Fz.row0 _ _ _ _ | exact FzH.nil _ | exact FzO.refl _ | refine FzO.one ?_ | refine FzH.cons (by decide) ?_ ?_ | refine FzH.this rfl ?_ | exact FzO.dead (by simp) | (simp only [List.forall_mem_cons, List.not_mem_nil, false_implies, implies_true, and_true, go_sem, seval]) | refine And.intro ?_ ?_)
  · obtain ⟨hil, hix⟩ := List.getElem?_eq_some_iff.1 h1
    have hi1 : decide ((i : Int) = -1) = false := decide_eq_false (by omega)
    have hwi : IntKind.i64.wrap ((i : Int) + 1) = ((i + 1 : Nat) : Int) := by rw [wrap_ok (by omega) (by omega)]; omega
    have hsp : xs = xs.take (i + 1) ++ xs.drop (i + 1) := (List.take_append_drop _ _).symm
    have ht : xs.take (i + 1) = xs.take i ++ [x] := by rw [List.take_add_one, h1]; rfl
    have hpx : (fresh x slot) = true := h2
    have hfi : (xs.take i).filter (fun x : Packet => !(fresh x slot)) = xs.take i := List.filter_eq_self.2 fun y hy => by
      obtain ⟨j, hj⟩ := List.mem_iff_getElem?.1 hy
      rw [List.getElem?_take] at hj
      split at hj
      · rename_i hji; have := h4 j y hji hj; simpa using this
      · cases hj
    have hf : (xs.take (i + 1)).filter (fun x : Packet => !(fresh x slot)) = xs.take i := by rw [ht, List.filter_append, hfi]; simp [hpx]
    have hli : (xs.take i).length = i := List.length_take_of_le (by omega)
    have hll : (xs.take (i + 1)).length = i + 1 := List.length_take_of_le (by omega)
    have hmap : xs.map Packet.enc = (xs.take i).map Packet.enc ++ [Packet.enc x] ++ (xs.drop (i + 1)).map Packet.enc := by
      conv => lhs; rw [hsp, ht]
      simp
    have h3' : idxFrom (fun x : Packet => fresh x slot) 0 xs = (i : Int) := by rw [h3, Nat.zero_add]
    have l2 := fun r H' k' hk => lFf xs slot q hB hs hL r H' k' hk (xs.drop (i + 1)) (xs.take (i + 1)) [Packet.enc x] hsp (Nat.le_refl _) (by rw [hf, hli, hll]; rfl) (cloE_map (f := Packet.enc) (xs := [x]) fun _ => by rfl) (by intro a ha; rw [List.mem_singleton.1 ha]; rfl)
    rw [hf, hli, hll, ← hmap] at l2
    rw [h3']
    repeat' first | (with_reducible intro h; try simp only [h]) | (with_reducible refine And.intro ?_ ?_) | (change chk _ _ = true; rfl) | simp only [go_sem, seval, Vc_bool, hi1, hwi] | refine (GX_split rfl).2 ?_
    refine Lp.bkE0 (l2 _ _ _ (fun zs J hJ z0 z5 => ?_)) (by rfl) rfl
    have hle : (xs.filter (fun x : Packet => !(fresh x slot))).length ≤ xs.length := List.length_filter_le _ _
    generalize hK : xs.filter (fun x : Packet => !(fresh x slot)) = K at *
    have hlen : (K.map Packet.enc ++ J).length = xs.length := by rw [List.length_append, List.length_map, hJ]
    have a1 : ((K.length : Int)).toNat = K.length := by omega
    have a2 : ((xs.length : Int)).toNat = xs.length := by omega
    have htk : List.take K.length (K.map Packet.enc ++ J) = K.map Packet.enc := by
      have h := List.take_left (l₁ := K.map Packet.enc) (l₂ := J)
      rwa [List.length_map] at h
    repeat' first | (with_reducible intro h; try simp only [h]) | (with_reducible refine And.intro ?_ ?_) | (change chk _ _ = true; rfl) | simp only [go_sem, seval, Vc_bool, z0, z5, hlen, a1, a2, htk, Nat.zero_add, Nat.sub_zero] | refine (GX_split rfl).2 ?_
    all_goals first | (clear z0 z5; omega) | (clear z0 z5; simp only [List.length_append, List.length_map, List.length_replicate, List.length_drop]; omega) | skip
    refine Rt.gs (Gs_freeze 0 (s' := [(4, .sl 6 (K.map Packet.enc))]) (H' := [.dead, .cells 0 1 3 true [[.int .i64 slot]]]) rfl ?_ ?_) (Rt_all (by rfl) (by rfl) (by rfl) (Nat.le_refl _))
    · refine List.forall_mem_cons.2 ⟨?_, by simp⟩
      refine Fz.row 0 K.length ?_ (cloE_map fun _ => by rfl)
      rw [List.drop_zero, List.append_assoc]
      have h := List.take_left (l₁ := K.map Packet.enc) (l₂ := List.replicate (xs.length - K.length) [(.int .i64 0), (.int .i64 0), (.int .i64 0), (.int .i64 0), (.int .i64 0), (.str (ByteArray.mk #[]))] ++ List.drop (K.length + (xs.length - K.length)) (K.map Packet.enc ++ J))
      rwa [List.length_map] at h
    · repeat' (first | exact FzL.nil | refine FzL.cons ?_ ?_ | exact Fz.wk (Wk.refl _) | exact Fz.wk (Wk.nil _) | exact Fz.wk (Wk.emp _) | exact Fz.row0 _ _ _ _ | exact FzH.nil _ | exact FzO.refl _ | refine FzO.one ?_ | refine FzH.cons (by decide) ?_ ?_ | refine FzH.this rfl ?_ | exact FzO.dead (by simp) | (simp only [List.forall_mem_cons, List.not_mem_nil, false_implies, implies_true, and_true, go_sem, seval]) | refine And.intro ?_ ?_)


def c50 : SC := (.seq (.reg [(.box 2 31 (.t 0)), (.box 3 3 (.t 1)), (.alc 4 31 [(.int .i64 0), (.int .i64 0), .nil, (.int .i64 0), .nil, .nil, .nil, (.int .i64 0), (.int .i64 0), (.int .i64 0), (.int .i64 0), (.int .i64 0), (.int .i64 0), (.int .i64 0)]), (.mv 5 (.c .nil)), (.mv 6 (.c (.int .i64 0)))]) (.seq (.seq (.reg [(.ld 9 (.t 2) true 14), (.call (some 10) (.c (.func 22 [] [])) [(.t 9)]), (.bin 11 .neq (.t 10) (.c (.int .i64 0)))]) (.cond (.t 11) (.seq (.reg [(.bld 12 [(.int .i64 0), (.int .i64 0), .nil, (.int .i64 0), .nil, .nil, .nil, (.int .i64 0), (.int .i64 0), (.int .i64 0), (.int .i64 0), (.int .i64 0), (.int .i64 0), (.int .i64 0)] []), (.st (.t 4) (.t 12) 14), (.mv 5 (.c .nil)), (.mv 6 (.c (.int .i64 1)))]) .ret) .skip)) (.seq (.seq (.reg [(.ld 13 (.t 3) false 1), (.call (some 14) (.c (.func 81 [] [])) [(.t 13), (.c (.int .i64 109951162))]), (.not 15 (.t 14))]) (.cond (.t 15) (.seq (.reg [(.bld 16 [(.int .i64 0), (.int .i64 0), .nil, (.int .i64 0), .nil, .nil, .nil, (.int .i64 0), (.int .i64 0), (.int .i64 0), (.int .i64 0), (.int .i64 0), (.int .i64 0), (.int .i64 0)] []), (.st (.t 4) (.t 16) 14), (.mv 5 (.c .nil)), (.mv 6 (.c (.int .i64 2)))]) .ret) .skip)) (.seq (.reg [(.ld 17 (.t 2) true 14), (.call (some 18) (.c (.func 152 [] [])) [(.t 17)]), (.st (.t 2) (.t 18) 14)]) (.seq (.reg [(.fa 19 (.t 2) 5), (.ld 20 (.t 19) false 1), (.mkf 21 160 [] [(.t 3)]), (.call (some 22) (.c (.func 159 [] [])) [(.t 20), (.t 21)]), (.fa 23 (.t 2) 5), (.st (.t 23) (.t 22) 1)]) (.seq (.reg [(.fa 25 (.t 2) 3), (.ld 26 (.t 25) true 2), (.ld 27 (.t 3) false 1), (.call (some 28) (.c (.func 161 [] [])) [(.t 26), (.t 27)]), (.mv 24 (.t 28)), (.ext 29 (.t 24) 0), (.ext 30 (.t 24) 1), (.alc 7 27 [(.int .i64 0), .nil]), (.st (.t 7) (.t 29) 2), (.mv 8 (.t 30))]) (.seq (.reg [(.ld 31 (.t 7) true 2), (.fa 32 (.t 2) 3), (.st (.t 32) (.t 31) 2)]) (.seq (.reg [(.ld 33 (.t 2) true 14), (.call (some 34) (.c (.func 156 [] [])) [(.t 33)]), (.mv 35 (.t 8)), (.st (.t 4) (.t 34) 14), (.mv 5 (.t 35)), (.mv 6 (.c (.int .i64 0)))]) .ret))))))))
theorem e50 : compC prog f50.ntmps (f50.body.getD .skip) = c50 := by kernel_rfl
theorem qck_mem : ∀ (ps done : List Packet), qck done ps = 0 → ∀ x ∈ ps, pkErr x = 0
  | [], _, _, x, hx => by cases hx
  | p :: ps, done, h, x, hx => by
    simp only [qck] at h
    split at h
    · rename_i h1; exact absurd h h1
    · rename_i h0
      split at h
      · cases h
      · have h3 : qck (done ++ [p]) ps = 0 := by
          cases hl : done.getLast? with
          | none => simpa [hl] using h
          | some z =>
            rw [hl] at h
            by_cases hc : p.pri < z.pri
            · simp [hc] at h
            · simpa [hc] using h
        rcases List.mem_cons.1 hx with rfl | hx
        · simpa using h0
        · exact qck_mem ps _ h3 x hx
theorem q_born {q : Queue} (h : qErr q = 0) : (∀ x ∈ q.pk, 0 ≤ x.born ∧ x.born ≤ 1099511627776) ∧ q.pk.length ≤ 64 := by
  unfold qErr at h
  split at h
  · cases h
  · rename_i h0
    split at h
    · cases h
    · rename_i h1
      refine ⟨fun x hx => ?_, ?_⟩
      · have h2 := qck_mem _ _ h x hx
        unfold pkErr at h2
        split at h2
        · cases h2
        · rename_i h3
          simp only [wi3, Bool.or_eq_true, decide_eq_true_eq, Bool.not_eq_true', Bool.and_eq_false_iff, decide_eq_false_iff_not] at h3
          omega
      · simp only [wi3, Bool.not_eq_true', Bool.and_eq_false_iff, decide_eq_false_iff_not] at h0
        omega
def qExpE (q : Queue) (slot : Int) : Queue × List Packet := if qErr q ≠ 0 then (q, []) else (⟨q.limit, q.pk.filter fun p => !stale p slot⟩, q.pk.filter fun p => stale p slot)
theorem lt_pkO {l : List Packet} {q : Nat} : ([.cells q 6 104 false (l.map Packet.enc)] : Heap).all (ltO 0) = true := by rw [List.all_cons, List.all_nil, Bool.and_true]; exact lt_pk
theorem c161_ok {q : Queue} {slot : Int} (hq : qErr q = 0) (hs : slot ≤ 9223372036854775807) : ACalls prog 161 [.agg q.enc, .int .i64 slot] [] (.tup [.agg (qExpE q slot).1.enc, .sl 6 ((qExpE q slot).2.map Packet.enc)]) [] := by
  obtain ⟨hB, hl⟩ := q_born hq
  have h188 := c188_ok (q_limit := q.limit) (q_pk := q.pk) (by omega)
  have hp := c272p_ok (xs := q.pk) (slot := slot) (q := 1) hB hs (by omega)
  have hf := c272f_ok (xs := q.pk) (slot := slot) (q := 1) hB hs (by omega)
  have ef : q.pk.filter (fun x => !fresh x slot) = q.pk.filter fun p => stale p slot := by congr 1; funext x; simp [fresh]
  have e : qExpE q slot = (⟨q.limit, q.pk.filter fun p => !stale p slot⟩, q.pk.filter fun p => stale p slot) := by simp [qExpE, hq]
  rw [ef] at hf
  rw [e]
  refine calls_of hmx func161 (by kernel_rfl) (c := f161.body.getD .skip) rfl e161 (rs := [(.cell 4 true 2), (.t 5)]) (by kernel_rfl) (by simp [ntmps161]) ?_
  simp only [c161, argS]
  repeat' first | refine CX_pure (h188) rfl rfl rfl rfl ?_ | refine GX_call (fun _ => (h188)) (by rfl) (by intro h; simp only [h]; rfl) (by rfl) (by rfl) ?_ | (with_reducible intro h; try simp only [h]) | (with_reducible refine And.intro ?_ ?_) | (change chk _ _ = true; rfl) | simp only [go_sem, seval, Vc_bool, hq] | refine (GX_split rfl).2 ?_
  refine CX_new (r1 := .row 3 1 0 q.pk.length) (c260w_ok (xs := q.pk) (by omega)) rfl rfl rfl lt_pkO (by rfl) ?_
  repeat' first | (with_reducible intro h; try simp only [h]) | (with_reducible refine And.intro ?_ ?_) | (change chk _ _ = true; rfl) | simp only [go_sem, seval, Vc_bool] | refine (GX_split rfl).2 ?_
  refine CX_eat2 3 1 hp (by rfl) (by rfl) (by rfl) lt_pk (by rfl) (by decide) (by rfl) (by rfl) (by rfl) (by rfl) (by rfl) ?_
  repeat' first | (with_reducible intro h; try simp only [h]) | (with_reducible refine And.intro ?_ ?_) | (change chk _ _ = true; rfl) | simp only [go_sem, seval, Vc_bool] | refine (GX_split rfl).2 ?_
  refine CX_new (r1 := .row 4 1 0 q.pk.length) (c260w_ok (xs := q.pk) (by omega)) rfl rfl rfl lt_pkO (by rfl) ?_
  repeat' first | (with_reducible intro h; try simp only [h]) | (with_reducible refine And.intro ?_ ?_) | (change chk _ _ = true; rfl) | simp only [go_sem, seval, Vc_bool] | refine (GX_split rfl).2 ?_
  refine CX_eat2 4 1 hf (by rfl) (by rfl) (by rfl) lt_pk (by rfl) (by decide) (by rfl) (by rfl) (by rfl) (by rfl) (by rfl) ?_
  repeat' first | (with_reducible intro h; try simp only [h]) | (with_reducible refine And.intro ?_ ?_) | (change chk _ _ = true; rfl) | simp only [go_sem, seval, Vc_bool] | refine (GX_split rfl).2 ?_
  exact Rt_pure (by rfl) (by rfl)
/-- Expire, as both say it. -/
def expE (s : Station) (slot : Int) : Station × List Packet × Int :=
  if slotErr s slot ≠ 0 then (Station.zero, [], slotErr s slot)
  else (Sp.settle { s with q := ⟨s.q.limit, s.q.pk.filter fun p => !stale p slot⟩, held := s.held.filter fun h => !decide (h.upto < slot) }, s.q.pk.filter fun p => stale p slot, 0)
theorem c50_ok {s : Station} {slot : Int} (hB : ClBd s) : ACalls prog 50 [.agg s.enc, .int .i64 slot] [] (.tup [.agg (expE s slot).1.enc, .sl 6 ((expE s slot).2.1.map Packet.enc), .int .i64 (expE s slot).2.2]) [] := by
  have h22 := c22_pf s hB.st
  by_cases hE : slotErr s slot = 0
  · obtain ⟨g1, g2, g3, g4, g5⟩ := slot0 hE
    obtain ⟨hb, hl⟩ := q_born g5
    obtain ⟨hs, hh⟩ := held_srt g1
    have e1 : stErr s = 0 := by simp [stErr, g1]
    have e2 : wi slot 109951162 = true := by simp [wi, g2, g3]
    have h161 := c161_ok (q := s.q) (slot := slot) g5 (by omega)
    have e3 : qExpE s.q slot = (⟨s.q.limit, s.q.pk.filter fun p => !stale p slot⟩, s.q.pk.filter fun p => stale p slot) := by simp [qExpE, g5]
    rw [e3] at h161
    have h159 := c159h_ok (xs := s.held) (slot := slot) (q := 1) (by omega)
    have hq2 := List.length_filter_le (fun p => !stale p slot) s.q.pk
    have h156 := c156_pf { s with q := ⟨s.q.limit, s.q.pk.filter fun p => !stale p slot⟩, held := s.held.filter fun h => !decide (h.upto < slot) } (by show (s.q.pk.filter fun p => !stale p slot).length < 2 ^ 62; omega)
    have e : expE s slot = (settleG { s with q := ⟨s.q.limit, s.q.pk.filter fun p => !stale p slot⟩, held := s.held.filter fun h => !decide (h.upto < slot) }, s.q.pk.filter fun p => stale p slot, 0) := by
      rw [settle_eq g1]; simp [expE, hE]
    rw [e]
    rw [e1] at h22
    refine calls_of hmx func50 (by kernel_rfl) (c := f50.body.getD .skip) rfl e50 (rs := [(.cell 4 true 14), (.t 5), (.t 6)]) (by kernel_rfl) (by simp [ntmps50]) ?_
    simp only [c50, argS]
    repeat' first | refine CX_pure (h22) rfl rfl rfl rfl ?_ | refine CX_pure c81_ok rfl rfl rfl rfl ?_ | refine GX_call (fun _ => (h22)) (by rfl) (by intro h; simp only [h]; rfl) (by rfl) (by rfl) ?_ | refine GX_call (fun _ => c81_ok) (by rfl) (by intro h; simp only [h]; rfl) (by rfl) (by rfl) ?_ | (with_reducible intro h; try simp only [h]) | (with_reducible refine And.intro ?_ ?_) | (change chk _ _ = true; rfl) | simp only [go_sem, seval, Vc_bool, e2] | refine (GX_split rfl).2 ?_
    refine CX_new (r1 := .agg (Station.encH s 3 s.held.length)) (c152k_ok hB) rfl rfl rfl (by rw [List.all_cons, List.all_nil, Bool.and_true]; exact lt_held) (by rfl) ?_
    repeat' first | (with_reducible intro h; try simp only [h]) | (with_reducible refine And.intro ?_ ?_) | (change chk _ _ = true; rfl) | simp only [go_sem, seval, Vc_bool, Station.encH] | refine (GX_split rfl).2 ?_
    refine CX_eat2 3 1 h159 (by rfl) (by rfl) (by rfl) lt_held (by rfl) (by decide) (by rfl) (by rfl) (by rfl) (by rfl) (by rfl) ?_
    repeat' first | refine CX_pure (h161) rfl rfl rfl rfl ?_ | refine CX_pure (h156) rfl rfl rfl rfl ?_ | refine GX_call (fun _ => (h161)) (by rfl) (by intro h; simp only [h]; rfl) (by rfl) (by rfl) ?_ | refine GX_call (fun _ => (h156)) (by rfl) (by intro h; simp only [h]; rfl) (by rfl) (by rfl) ?_ | (with_reducible intro h; try simp only [h]) | (with_reducible refine And.intro ?_ ?_) | (change chk _ _ = true; rfl) | simp only [go_sem, seval, Vc_bool] | refine (GX_split rfl).2 ?_
    exact Rt_pure (by rfl) (by rfl)
  · have e : expE s slot = (Station.zero, [], slotErr s slot) := by simp [expE, hE]
    rw [e]
    refine calls_of hmx func50 (by kernel_rfl) (c := f50.body.getD .skip) rfl e50 (rs := [(.cell 4 true 14), (.t 5), (.t 6)]) (by kernel_rfl) (by simp [ntmps50]) ?_
    simp only [c50, argS]
    repeat' first | refine CX_pure (h22) rfl rfl rfl rfl ?_ | refine CX_pure c81_ok rfl rfl rfl rfl ?_ | refine GX_call (fun _ => (h22)) (by rfl) (by intro h; simp only [h]; rfl) (by rfl) (by rfl) ?_ | refine GX_call (fun _ => c81_ok) (by rfl) (by intro h; simp only [h]; rfl) (by rfl) (by rfl) ?_ | (with_reducible intro h; try simp only [h]) | (with_reducible refine And.intro ?_ ?_) | (change chk _ _ = true; rfl) | simp only [go_sem, seval, Vc_bool] | refine (GX_split rfl).2 ?_
    · have e1 : slotErr s slot = 1 := by grind [slotErr, stErr]
      rw [e1]
      refine Rt.gs (Gs_tell (s' := [(4, .ptr 2 0 0 0), (5, .sl 6 []), (6, .int .i64 1)]) (H' := [.dead, .dead, .cells 0 14 31 true [Station.zero.enc]]) ?_ ?_) (Rt_pure ?_ rfl)
      · repeat' (first | exact FzL.nil | refine FzL.cons ?_ ?_ | exact Fz.wk (Wk.refl _) | exact Fz.wk (Wk.nil _) | exact Fz.wk (Wk.emp _) | exact Fz.row0 _ _ _ _ | exact FzH.nil _ | exact FzO.refl _ | refine FzO.one ?_ | refine FzH.cons (by decide) ?_ ?_ | refine FzH.this rfl ?_ | exact FzO.dead (by simp) | (simp only [List.forall_mem_cons, List.not_mem_nil, false_implies, implies_true, and_true, go_sem, seval]) | refine And.intro ?_ ?_)
      · repeat' (first | exact FzL.nil | refine FzL.cons ?_ ?_ | exact Fz.wk (Wk.refl _) | exact Fz.wk (Wk.nil _) | exact Fz.wk (Wk.emp _) | exact Fz.row0 _ _ _ _ | exact FzH.nil _ | exact FzO.refl _ | refine FzO.one ?_ | refine FzH.cons (by decide) ?_ ?_ | refine FzH.this rfl ?_ | exact FzO.dead (by simp) | (simp only [List.forall_mem_cons, List.not_mem_nil, false_implies, implies_true, and_true, go_sem, seval]) | refine And.intro ?_ ?_)
      · rfl
    · have e1 : slotErr s slot = 2 := by grind [slotErr, stErr, wi]
      rw [e1]
      refine Rt.gs (Gs_tell (s' := [(4, .ptr 2 0 0 0), (5, .sl 6 []), (6, .int .i64 2)]) (H' := [.dead, .dead, .cells 0 14 31 true [Station.zero.enc]]) ?_ ?_) (Rt_pure ?_ rfl)
      · repeat' (first | exact FzL.nil | refine FzL.cons ?_ ?_ | exact Fz.wk (Wk.refl _) | exact Fz.wk (Wk.nil _) | exact Fz.wk (Wk.emp _) | exact Fz.row0 _ _ _ _ | exact FzH.nil _ | exact FzO.refl _ | refine FzO.one ?_ | refine FzH.cons (by decide) ?_ ?_ | refine FzH.this rfl ?_ | exact FzO.dead (by simp) | (simp only [List.forall_mem_cons, List.not_mem_nil, false_implies, implies_true, and_true, go_sem, seval]) | refine And.intro ?_ ?_)
      · repeat' (first | exact FzL.nil | refine FzL.cons ?_ ?_ | exact Fz.wk (Wk.refl _) | exact Fz.wk (Wk.nil _) | exact Fz.wk (Wk.emp _) | exact Fz.row0 _ _ _ _ | exact FzH.nil _ | exact FzO.refl _ | refine FzO.one ?_ | refine FzH.cons (by decide) ?_ ?_ | refine FzH.this rfl ?_ | exact FzO.dead (by simp) | (simp only [List.forall_mem_cons, List.not_mem_nil, false_implies, implies_true, and_true, go_sem, seval]) | refine And.intro ?_ ?_)
      · rfl
    · exact absurd (by grind [slotErr, stErr, wi]) hE

def c45 : SC := (.seq (.reg [(.box 2 31 (.t 0)), (.box 3 100 (.t 1)), (.alc 4 31 [(.int .i64 0), (.int .i64 0), .nil, (.int .i64 0), .nil, .nil, .nil, (.int .i64 0), (.int .i64 0), (.int .i64 0), (.int .i64 0), (.int .i64 0), (.int .i64 0), (.int .i64 0)]), (.mv 5 (.c (.int .i64 0)))]) (.seq (.seq (.reg [(.ld 8 (.t 2) true 14), (.call (some 9) (.c (.func 22 [] [])) [(.t 8)]), (.bin 10 .neq (.t 9) (.c (.int .i64 0)))]) (.cond (.t 10) (.seq (.reg [(.bld 11 [(.int .i64 0), (.int .i64 0), .nil, (.int .i64 0), .nil, .nil, .nil, (.int .i64 0), (.int .i64 0), (.int .i64 0), (.int .i64 0), (.int .i64 0), (.int .i64 0), (.int .i64 0)] []), (.st (.t 4) (.t 11) 14), (.mv 5 (.c (.int .i64 1)))]) .ret) .skip)) (.seq (.seq (.reg [(.ld 12 (.t 3) true 5), (.call (some 13) (.c (.func 148 [] [])) [(.t 12)]), (.not 14 (.t 13))]) (.cond (.t 14) (.seq (.reg [(.bld 15 [(.int .i64 0), (.int .i64 0), .nil, (.int .i64 0), .nil, .nil, .nil, (.int .i64 0), (.int .i64 0), (.int .i64 0), (.int .i64 0), (.int .i64 0), (.int .i64 0), (.int .i64 0)] []), (.st (.t 4) (.t 15) 14), (.mv 5 (.c (.int .i64 2)))]) .ret) .skip)) (.seq (.reg [(.fa 17 (.t 2) 5), (.ld 18 (.t 17) false 1), (.ld 19 (.t 3) true 5), (.call (some 20) (.c (.func 149 [] [])) [(.t 18), (.t 19), (.c (.func 150 [] []))]), (.mv 16 (.t 20)), (.ext 21 (.t 16) 0), (.ext 22 (.t 16) 1), (.mv 6 (.t 21)), (.mv 7 (.t 22))]) (.seq (.seq (.reg [(.fa 23 (.t 3) 3), (.ld 24 (.t 23) false 1), (.len 25 true (.t 24)), (.bin 26 .gtr (.t 25) (.c (.int .i64 100))), (.mv 27 (.t 26)), (.g 27 false (some 28) (.mv 28 (.t 7))), (.g 27 false (some 29) (.not 29 (.t 28))), (.g 27 false (some 30) (.mv 30 (.t 29))), (.g 30 true (some 31) (.fa 31 (.t 2) 5)), (.g 30 true (some 32) (.ld 32 (.t 31) false 1)), (.g 30 true (some 33) (.len 33 false (.t 32))), (.g 30 true (some 34) (.bin 34 .eql (.t 33) (.c (.int .i64 16)))), (.g 27 false (some 35) (.pick 35 (.t 30) (.t 34) (.c (.bool false)))), (.pick 36 (.t 27) (.c (.bool true)) (.t 35))]) (.cond (.t 36) (.seq (.reg [(.bld 37 [(.int .i64 0), (.int .i64 0), .nil, (.int .i64 0), .nil, .nil, .nil, (.int .i64 0), (.int .i64 0), (.int .i64 0), (.int .i64 0), (.int .i64 0), (.int .i64 0), (.int .i64 0)] []), (.st (.t 4) (.t 37) 14), (.mv 5 (.c (.int .i64 8)))]) .ret) .skip)) (.seq (.reg [(.ld 38 (.t 2) true 14), (.call (some 39) (.c (.func 152 [] [])) [(.t 38)]), (.st (.t 2) (.t 39) 14)]) (.seq (.reg [(.fa 40 (.t 3) 4), (.ld 41 (.t 40) false 1), (.call (some 42) (.c (.func 153 [] [])) [(.t 41)]), (.fa 43 (.t 3) 4), (.st (.t 43) (.t 42) 1)]) (.seq (.seq (.reg [(.mv 44 (.t 7))]) (.cond (.t 44) (.reg [(.fa 45 (.t 2) 5), (.ld 46 (.t 45) false 1), (.mv 47 (.t 6)), (.ld 48 (.t 3) true 5), (.ia 49 (.t 46) (.t 47) 5), (.st (.t 49) (.t 48) 5)]) (.reg [(.fa 50 (.t 2) 5), (.ld 51 (.t 50) false 1), (.mv 52 (.t 6)), (.ld 53 (.t 3) true 5), (.bsl 54 100 5 [(.int .i64 0), (.int .i64 0), (.int .i64 0), (.str (ByteArray.mk #[])), .nil] 1 [(0, (.t 53))]), (.call (some 55) (.c (.func 154 [] [])) [(.t 51), (.t 52), (.t 54)]), (.fa 56 (.t 2) 5), (.st (.t 56) (.t 55) 1)]))) (.seq (.reg [(.ld 57 (.t 2) true 14), (.st (.t 4) (.t 57) 14), (.mv 5 (.c (.int .i64 0)))]) .ret)))))))))
theorem e45 : compC prog f45.ntmps (f45.body.getD .skip) = c45 := by kernel_rfl
attribute [go_sem] Station.encH
theorem c45_ok {s : Station} {h : Held} (hB : ClBd s) (hL : h.acked.length * 8 ≤ 140737488355328) (hH : (s.held.length + 1) * 64 ≤ 140737488355328) : ACalls prog 45 [.agg s.enc, .agg h.enc] [] (.tup [.agg (holdE s h).1.enc, .int .i64 (holdE s h).2]) [] := by
  have hst := hB.st
  have h22 := c22_pf s hst
  have h148 := c148_pf h (by omega)
  refine calls_of hmx func45 (by kernel_rfl) (c := f45.body.getD .skip) rfl e45 (rs := [(.cell 4 true 14), (.t 5)]) (by kernel_rfl) (by simp [ntmps45]) ?_
  simp only [c45, argS]
  cases h0 : stOk s with
  | false =>
    have e : holdE s h = (Station.zero, 1) := by simp [holdE, h0]
    have e1 : stErr s = 1 := by simp [stErr, h0]
    rw [e]
    rw [e1] at h22
    repeat' first | refine CX_pure (h22) rfl rfl rfl rfl ?_ | refine GX_call (fun _ => (h22)) (by rfl) (by intro h; simp only [h]; rfl) (by rfl) (by rfl) ?_ | (with_reducible intro h; try simp only [h]) | (with_reducible refine And.intro ?_ ?_) | (change chk _ _ = true; rfl) | simp only [go_sem, seval, Vc_bool] | refine (GX_split rfl).2 ?_
    refine Rt.gs (Gs_tell (s' := [(4, .ptr 2 0 0 0), (5, .int .i64 1)]) (H' := [.dead, .dead, .cells 0 14 31 true [Station.zero.enc]]) ?_ ?_) (Rt_pure ?_ rfl)
    · repeat' (first | exact FzL.nil | refine FzL.cons ?_ ?_ | exact Fz.wk (Wk.refl _) | exact Fz.wk (Wk.nil _) | exact Fz.wk (Wk.emp _) | exact Fz.row0 _ _ _ _ | exact FzH.nil _ | exact FzO.refl _ | refine FzO.one ?_ | refine FzH.cons (by decide) ?_ ?_ | refine FzH.this rfl ?_ | exact FzO.dead (by simp) | (simp only [List.forall_mem_cons, List.not_mem_nil, false_implies, implies_true, and_true, go_sem, seval]) | refine And.intro ?_ ?_)
    · repeat' (first | exact FzL.nil | refine FzL.cons ?_ ?_ | exact Fz.wk (Wk.refl _) | exact Fz.wk (Wk.nil _) | exact Fz.wk (Wk.emp _) | exact Fz.row0 _ _ _ _ | exact FzH.nil _ | exact FzO.refl _ | refine FzO.one ?_ | refine FzH.cons (by decide) ?_ ?_ | refine FzH.this rfl ?_ | exact FzO.dead (by simp) | (simp only [List.forall_mem_cons, List.not_mem_nil, false_implies, implies_true, and_true, go_sem, seval]) | refine And.intro ?_ ?_)
    · rfl
  | true =>
    have e1 : stErr s = 0 := by simp [stErr, h0]
    rw [e1] at h22
    cases h1 : hRange h with
    | false =>
      have e : holdE s h = (Station.zero, 2) := by simp [holdE, h0, h1]
      rw [e]
      repeat' first | refine CX_pure (h22) rfl rfl rfl rfl ?_ | refine CX_pure (h148) rfl rfl rfl rfl ?_ | refine GX_call (fun _ => (h22)) (by rfl) (by intro h; simp only [h]; rfl) (by rfl) (by rfl) ?_ | refine GX_call (fun _ => (h148)) (by rfl) (by intro h; simp only [h]; rfl) (by rfl) (by rfl) ?_ | (with_reducible intro h; try simp only [h]) | (with_reducible refine And.intro ?_ ?_) | (change chk _ _ = true; rfl) | simp only [go_sem, seval, Vc_bool, h1] | refine (GX_split rfl).2 ?_
      refine Rt.gs (Gs_tell (s' := [(4, .ptr 2 0 0 0), (5, .int .i64 2)]) (H' := [.dead, .dead, .cells 0 14 31 true [Station.zero.enc]]) ?_ ?_) (Rt_pure ?_ rfl)
      · repeat' (first | exact FzL.nil | refine FzL.cons ?_ ?_ | exact Fz.wk (Wk.refl _) | exact Fz.wk (Wk.nil _) | exact Fz.wk (Wk.emp _) | exact Fz.row0 _ _ _ _ | exact FzH.nil _ | exact FzO.refl _ | refine FzO.one ?_ | refine FzH.cons (by decide) ?_ ?_ | refine FzH.this rfl ?_ | exact FzO.dead (by simp) | (simp only [List.forall_mem_cons, List.not_mem_nil, false_implies, implies_true, and_true, go_sem, seval]) | refine And.intro ?_ ?_)
      · repeat' (first | exact FzL.nil | refine FzL.cons ?_ ?_ | exact Fz.wk (Wk.refl _) | exact Fz.wk (Wk.nil _) | exact Fz.wk (Wk.emp _) | exact Fz.row0 _ _ _ _ | exact FzH.nil _ | exact FzO.refl _ | refine FzO.one ?_ | refine FzH.cons (by decide) ?_ ?_ | refine FzH.this rfl ?_ | exact FzO.dead (by simp) | (simp only [List.forall_mem_cons, List.not_mem_nil, false_implies, implies_true, and_true, go_sem, seval]) | refine And.intro ?_ ?_)
      · rfl
    | true =>
      obtain ⟨hs, hl⟩ := held_srt h0
      have h149 := c149_ok (xs := s.held) (t := h) (by omega) (bs_srt (f := fun y : Held => y.flow) (hs.imp fun h => Int.le_of_lt h))
      have h152 := c152k_ok hB
      have h153 := c153_ok (xs := h.acked) hL
      have hle := bsLo_le (c := fun y : Held => cmp y.flow h.flow) s.held
      cases h2 : decide (100 < (h.data.size : Int)) with
      | true =>
        have e : holdE s h = (Station.zero, 8) := by simp [holdE, h0, h1, of_decide_eq_true h2]
        rw [e]
        repeat' first | refine CX_pure (h22) rfl rfl rfl rfl ?_ | refine CX_pure (h148) rfl rfl rfl rfl ?_ | refine CX_pure (h149) rfl rfl rfl rfl ?_ | refine GX_call (fun _ => (h22)) (by rfl) (by intro h; simp only [h]; rfl) (by rfl) (by rfl) ?_ | refine GX_call (fun _ => (h148)) (by rfl) (by intro h; simp only [h]; rfl) (by rfl) (by rfl) ?_ | refine GX_call (fun _ => (h149)) (by rfl) (by intro h; simp only [h]; rfl) (by rfl) (by rfl) ?_ | (with_reducible intro h; try simp only [h]) | (with_reducible refine And.intro ?_ ?_) | (change chk _ _ = true; rfl) | simp only [go_sem, seval, Vc_bool, h1, h2] | refine (GX_split rfl).2 ?_
        refine Rt.gs (Gs_tell (s' := [(4, .ptr 2 0 0 0), (5, .int .i64 8)]) (H' := [.dead, .dead, .cells 0 14 31 true [Station.zero.enc]]) ?_ ?_) (Rt_pure ?_ rfl)
        · repeat' (first | exact FzL.nil | refine FzL.cons ?_ ?_ | exact Fz.wk (Wk.refl _) | exact Fz.wk (Wk.nil _) | exact Fz.wk (Wk.emp _) | exact Fz.row0 _ _ _ _ | exact FzH.nil _ | exact FzO.refl _ | refine FzO.one ?_ | refine FzH.cons (by decide) ?_ ?_ | refine FzH.this rfl ?_ | exact FzO.dead (by simp) | (simp only [List.forall_mem_cons, List.not_mem_nil, false_implies, implies_true, and_true, go_sem, seval]) | refine And.intro ?_ ?_)
        · repeat' (first | exact FzL.nil | refine FzL.cons ?_ ?_ | exact Fz.wk (Wk.refl _) | exact Fz.wk (Wk.nil _) | exact Fz.wk (Wk.emp _) | exact Fz.row0 _ _ _ _ | exact FzH.nil _ | exact FzO.refl _ | refine FzO.one ?_ | refine FzH.cons (by decide) ?_ ?_ | refine FzH.this rfl ?_ | exact FzO.dead (by simp) | (simp only [List.forall_mem_cons, List.not_mem_nil, false_implies, implies_true, and_true, go_sem, seval]) | refine And.intro ?_ ?_)
        · rfl
      | false =>
        have g2 : ¬ 100 < (h.data.size : Int) := of_decide_eq_false h2
        cases h3 : heldHit s.held h with
        | true =>
          have h3' : bsHit (fun y : Held => cmp y.flow h.flow) s.held = true := h3
          have hlt : bsLo (fun y : Held => cmp y.flow h.flow) s.held < s.held.length := by
            rcases Nat.lt_or_ge (bsLo (fun y : Held => cmp y.flow h.flow) s.held) s.held.length with h4 | h4
            · exact h4
            · rw [bsHit, List.getElem?_eq_none h4] at h3'; cases h3'
          have e : holdE s h = ({ s with held := s.held.set (bsLo (fun y : Held => cmp y.flow h.flow) s.held) h }, 0) := by
            unfold holdE
            rw [if_neg (by simp [h0]), if_neg (by simp [h1]), if_neg (by simp [g2, h3]), putSrt, if_pos h3']
          rw [e]
          rw [h3] at h149
          generalize bsLo (fun y : Held => cmp y.flow h.flow) s.held = lo at *
          have e2 : (s.held.map Held.enc)[lo]? = some (Held.enc s.held[lo]) := by rw [List.getElem?_map, List.getElem?_eq_getElem hlt]; rfl
          have hset : (s.held.map Held.enc).set lo [.int .i64 h.flow, .int .i64 h.frame, .int .i64 h.upto, .str h.data, .sl 1 (h.acked.map eI)] = (s.held.set lo h).map Held.enc := by rw [List.map_set]; rfl
          have hltI : ((lo : Int) < (s.held.length : Int)) = True := eq_true (by omega)
          repeat' first | refine CX_pure (h22) rfl rfl rfl rfl ?_ | refine CX_pure (h148) rfl rfl rfl rfl ?_ | refine CX_pure (h149) rfl rfl rfl rfl ?_ | refine GX_call (fun _ => (h22)) (by rfl) (by intro h; simp only [h]; rfl) (by rfl) (by rfl) ?_ | refine GX_call (fun _ => (h148)) (by rfl) (by intro h; simp only [h]; rfl) (by rfl) (by rfl) ?_ | refine GX_call (fun _ => (h149)) (by rfl) (by intro h; simp only [h]; rfl) (by rfl) (by rfl) ?_ | (with_reducible intro h; try simp only [h]) | (with_reducible refine And.intro ?_ ?_) | (change chk _ _ = true; rfl) | simp only [go_sem, seval, Vc_bool, h1, h2] | refine (GX_split rfl).2 ?_
          refine CX_new (r1 := .agg (Station.encH s 3 s.held.length)) h152 rfl rfl rfl (by rw [List.all_cons, List.all_nil, Bool.and_true]; exact lt_held) (by rfl) ?_
          repeat' first | refine CX_pure (h153) rfl rfl rfl rfl ?_ | refine GX_call (fun _ => (h153)) (by rfl) (by intro h; simp only [h]; rfl) (by rfl) (by rfl) ?_ | (with_reducible intro h; try simp only [h]) | (with_reducible refine And.intro ?_ ?_) | (change chk _ _ = true; rfl) | simp only [go_sem, seval, Vc_bool, h1, h2, hltI, e2, hset, Int.toNat_natCast, Int.natCast_nonneg, Nat.zero_add] | refine (GX_split rfl).2 ?_
          refine Rt.gs (Gs_freeze 3 (s' := [(4, .ptr 2 0 0 0), (5, .int .i64 0)]) (H' := [.dead, .dead, .cells 0 14 31 true [Station.enc { s with held := s.held.set lo h }], .dead]) rfl ?_ ?_) (Rt_pure (by rfl) (by rfl))
          · repeat' (first | exact FzL.nil | refine FzL.cons ?_ ?_ | exact Fz.wk (Wk.refl _) | exact Fz.wk (Wk.nil _) | exact Fz.wk (Wk.emp _) | exact Fz.row0 _ _ _ _ | exact FzH.nil _ | exact FzO.refl _ | refine FzO.one ?_ | refine FzH.cons (by decide) ?_ ?_ | refine FzH.this rfl ?_ | exact FzO.dead (by simp) | (simp only [List.forall_mem_cons, List.not_mem_nil, false_implies, implies_true, and_true, go_sem, seval]) | refine And.intro ?_ ?_)
          · repeat' (first | exact FzL.nil | refine FzL.cons ?_ ?_ | exact Fz.wk (Wk.refl _) | exact Fz.wk (Wk.nil _) | exact Fz.wk (Wk.emp _) | exact Fz.row0 _ _ _ _ | exact FzH.nil _ | exact FzO.refl _ | refine FzO.one ?_ | refine FzH.cons (by decide) ?_ ?_ | refine FzH.this rfl ?_ | exact FzO.dead (by simp) | (simp only [List.forall_mem_cons, List.not_mem_nil, false_implies, implies_true, and_true, go_sem, seval]) | refine And.intro ?_ ?_)
            all_goals first | exact Fz.wk (Wk.refl _) | exact Fz.row 0 _ (by rw [List.drop_zero]; exact List.take_of_length_le (by simp)) (cloE_map fun _ => by rfl)
        | false =>
          have h3' : ¬ bsHit (fun y : Held => cmp y.flow h.flow) s.held = true := by intro h4; rw [heldHit, h4] at h3; cases h3
          rw [h3] at h149
          cases h4 : decide ((s.held.length : Int) = 16) with
          | true =>
            have e : holdE s h = (Station.zero, 8) := by
              unfold holdE
              rw [if_neg (by simp [h0]), if_neg (by simp [h1]), if_pos (.inr ⟨h3, of_decide_eq_true h4⟩)]
            rw [e]
            repeat' first | refine CX_pure (h22) rfl rfl rfl rfl ?_ | refine CX_pure (h148) rfl rfl rfl rfl ?_ | refine CX_pure (h149) rfl rfl rfl rfl ?_ | refine GX_call (fun _ => (h22)) (by rfl) (by intro h; simp only [h]; rfl) (by rfl) (by rfl) ?_ | refine GX_call (fun _ => (h148)) (by rfl) (by intro h; simp only [h]; rfl) (by rfl) (by rfl) ?_ | refine GX_call (fun _ => (h149)) (by rfl) (by intro h; simp only [h]; rfl) (by rfl) (by rfl) ?_ | (with_reducible intro h; try simp only [h]) | (with_reducible refine And.intro ?_ ?_) | (change chk _ _ = true; rfl) | simp only [go_sem, seval, Vc_bool, h1, h2, h4, List.length_map] | refine (GX_split rfl).2 ?_
            refine Rt.gs (Gs_tell (s' := [(4, .ptr 2 0 0 0), (5, .int .i64 8)]) (H' := [.dead, .dead, .cells 0 14 31 true [Station.zero.enc]]) ?_ ?_) (Rt_pure ?_ rfl)
            · repeat' (first | exact FzL.nil | refine FzL.cons ?_ ?_ | exact Fz.wk (Wk.refl _) | exact Fz.wk (Wk.nil _) | exact Fz.wk (Wk.emp _) | exact Fz.row0 _ _ _ _ | exact FzH.nil _ | exact FzO.refl _ | refine FzO.one ?_ | refine FzH.cons (by decide) ?_ ?_ | refine FzH.this rfl ?_ | exact FzO.dead (by simp) | (simp only [List.forall_mem_cons, List.not_mem_nil, false_implies, implies_true, and_true, go_sem, seval]) | refine And.intro ?_ ?_)
            · repeat' (first | exact FzL.nil | refine FzL.cons ?_ ?_ | exact Fz.wk (Wk.refl _) | exact Fz.wk (Wk.nil _) | exact Fz.wk (Wk.emp _) | exact Fz.row0 _ _ _ _ | exact FzH.nil _ | exact FzO.refl _ | refine FzO.one ?_ | refine FzH.cons (by decide) ?_ ?_ | refine FzH.this rfl ?_ | exact FzO.dead (by simp) | (simp only [List.forall_mem_cons, List.not_mem_nil, false_implies, implies_true, and_true, go_sem, seval]) | refine And.intro ?_ ?_)
            · rfl
          | false =>
            have g4 : ¬ (s.held.length : Int) = 16 := of_decide_eq_false h4
            have e : holdE s h = ({ s with held := s.held.take (bsLo (fun y : Held => cmp y.flow h.flow) s.held) ++ h :: s.held.drop (bsLo (fun y : Held => cmp y.flow h.flow) s.held) }, 0) := by
              unfold holdE
              rw [if_neg (by simp [h0]), if_neg (by simp [h1]), if_neg (by simp [g2, g4]), putSrt, if_neg h3']
            rw [e]
            generalize bsLo (fun y : Held => cmp y.flow h.flow) s.held = lo at *
            repeat' first | refine CX_pure (h22) rfl rfl rfl rfl ?_ | refine CX_pure (h148) rfl rfl rfl rfl ?_ | refine CX_pure (h149) rfl rfl rfl rfl ?_ | refine GX_call (fun _ => (h22)) (by rfl) (by intro h; simp only [h]; rfl) (by rfl) (by rfl) ?_ | refine GX_call (fun _ => (h148)) (by rfl) (by intro h; simp only [h]; rfl) (by rfl) (by rfl) ?_ | refine GX_call (fun _ => (h149)) (by rfl) (by intro h; simp only [h]; rfl) (by rfl) (by rfl) ?_ | (with_reducible intro h; try simp only [h]) | (with_reducible refine And.intro ?_ ?_) | (change chk _ _ = true; rfl) | simp only [go_sem, seval, Vc_bool, h1, h2, h4, List.length_map] | refine (GX_split rfl).2 ?_
            refine CX_new (r1 := .agg (Station.encH s 3 s.held.length)) h152 rfl rfl rfl (by rw [List.all_cons, List.all_nil, Bool.and_true]; exact lt_held) (by rfl) ?_
            repeat' first | refine CX_pure (h153) rfl rfl rfl rfl ?_ | refine GX_call (fun _ => (h153)) (by rfl) (by intro h; simp only [h]; rfl) (by rfl) (by rfl) ?_ | (with_reducible intro h; try simp only [h]) | (with_reducible refine And.intro ?_ ?_) | (change chk _ _ = true; rfl) | simp only [go_sem, seval, Vc_bool] | refine (GX_split rfl).2 ?_
            refine CX_eat2 3 4 (c154_ok (xs := s.held) (v := h) (i := lo) (q := 1) hle hH) (by rfl) (by rfl) (by rfl) lt_held (by rfl) (by decide) (by rfl) (by rfl) (by rfl) (by rfl) (by rfl) ?_
            repeat' first | (with_reducible intro h; try simp only [h]) | (with_reducible refine And.intro ?_ ?_) | (change chk _ _ = true; rfl) | simp only [go_sem, seval, Vc_bool] | refine (GX_split rfl).2 ?_
            exact Rt_pure (by rfl) (by rfl)

def c46L1 : SC := (.seq (.seq (.regD [(.mv 19 (.t 8)), (.fa 20 (.t 2) 5), (.ld 21 (.t 20) false 1), (.len 22 false (.t 21)), (.bin 23 .lss (.t 19) (.t 22)), (.mv 24 (.t 23)), (.g 24 true (some 25) (.fa 25 (.t 2) 5)), (.g 24 true (some 26) (.ld 26 (.t 25) false 1)), (.g 24 true (some 27) (.mv 27 (.t 8))), (.g 24 true (some 28) (.ia 28 (.t 26) (.t 27) 5)), (.g 24 true (some 29) (.fa 29 (.t 28) 0)), (.g 24 true (some 30) (.ld 30 (.t 29) false 1)), (.g 24 true (some 31) (.fa 31 (.t 3) 0)), (.g 24 true (some 32) (.ld 32 (.t 31) false 1)), (.g 24 true (some 33) (.bin 33 .lss (.t 30) (.t 32))), (.pick 34 (.t 24) (.t 33) (.c (.bool false)))] []) (.cond (.t 34) .skip (.exit 0))) (.seq (.block 1 (.reg [(.mv 37 (.t 7)), (.fa 38 (.t 2) 5), (.ld 39 (.t 38) false 1), (.mv 40 (.t 8)), (.ia 41 (.t 39) (.t 40) 5), (.ld 42 (.t 41) true 5), (.bsl 43 100 5 [(.int .i64 0), (.int .i64 0), (.int .i64 0), (.str (ByteArray.mk #[])), .nil] 1 [(0, (.t 42))]), (.app 44 100 5 64 (.t 37) (.t 43)), (.mv 7 (.t 44))])) (.reg [(.mv 35 (.t 8)), (.bin 36 .add (.t 35) (.c (.int .i64 1))), (.mv 8 (.t 36))])))
def c46L2 : SC := (.seq (.seq (.reg [(.mv 49 (.t 8)), (.fa 50 (.t 2) 5), (.ld 51 (.t 50) false 1), (.len 52 false (.t 51)), (.bin 53 .lss (.t 49) (.t 52))]) (.cond (.t 53) .skip (.exit 2))) (.seq (.block 3 (.seq (.regD [(.fa 56 (.t 2) 5), (.ld 57 (.t 56) false 1), (.mv 58 (.t 8)), (.ia 59 (.t 57) (.t 58) 5), (.fa 60 (.t 59) 0), (.ld 61 (.t 60) false 1), (.fa 62 (.t 3) 0), (.ld 63 (.t 62) false 1), (.bin 64 .neq (.t 61) (.t 63))] []) (.cond (.t 64) (.reg [(.mv 65 (.t 7)), (.fa 66 (.t 2) 5), (.ld 67 (.t 66) false 1), (.mv 68 (.t 8)), (.ia 69 (.t 67) (.t 68) 5), (.ld 70 (.t 69) true 5), (.bsl 71 100 5 [(.int .i64 0), (.int .i64 0), (.int .i64 0), (.str (ByteArray.mk #[])), .nil] 1 [(0, (.t 70))]), (.app 72 100 5 64 (.t 65) (.t 71)), (.mv 7 (.t 72))]) .skip))) (.reg [(.mv 54 (.t 8)), (.bin 55 .add (.t 54) (.c (.int .i64 1))), (.mv 8 (.t 55))])))
def c46 : SC := (.seq (.reg [(.box 2 31 (.t 0)), (.box 3 100 (.t 1)), (.alc 4 31 [(.int .i64 0), (.int .i64 0), .nil, (.int .i64 0), .nil, .nil, .nil, (.int .i64 0), (.int .i64 0), (.int .i64 0), (.int .i64 0), (.int .i64 0), (.int .i64 0), (.int .i64 0)]), (.mv 5 (.c (.int .i64 0)))]) (.seq (.seq (.reg [(.ld 9 (.t 2) true 14), (.call (some 10) (.c (.func 23 [] [])) [(.t 9)]), (.bin 11 .neq (.t 10) (.c (.int .i64 0)))]) (.cond (.t 11) (.seq (.reg [(.bld 12 [(.int .i64 0), (.int .i64 0), .nil, (.int .i64 0), .nil, .nil, .nil, (.int .i64 0), (.int .i64 0), (.int .i64 0), (.int .i64 0), (.int .i64 0), (.int .i64 0), (.int .i64 0)] []), (.st (.t 4) (.t 12) 14), (.mv 5 (.c (.int .i64 1)))]) .ret) .skip)) (.seq (.seq (.reg [(.ld 13 (.t 3) true 5), (.call (some 14) (.c (.func 89 [] [])) [(.t 13)]), (.mv 6 (.t 14))]) (.seq (.reg [(.mv 15 (.t 6)), (.bin 16 .neq (.t 15) (.c (.int .i64 0)))]) (.cond (.t 16) (.seq (.reg [(.bld 17 [(.int .i64 0), (.int .i64 0), .nil, (.int .i64 0), .nil, .nil, .nil, (.int .i64 0), (.int .i64 0), (.int .i64 0), (.int .i64 0), (.int .i64 0), (.int .i64 0), (.int .i64 0)] []), (.mv 18 (.t 6)), (.st (.t 4) (.t 17) 14), (.mv 5 (.t 18))]) .ret) .skip))) (.seq (.reg [(.mv 7 (.c .nil))]) (.seq (.reg [(.mv 8 (.c (.int .i64 0)))]) (.seq (.block 0 (.loop c46L1)) (.seq (.reg [(.mv 45 (.t 7)), (.ld 46 (.t 3) true 5), (.bsl 47 100 5 [(.int .i64 0), (.int .i64 0), (.int .i64 0), (.str (ByteArray.mk #[])), .nil] 1 [(0, (.t 46))]), (.app 48 100 5 64 (.t 45) (.t 47)), (.mv 7 (.t 48))]) (.seq (.block 2 (.loop c46L2)) (.seq (.seq (.reg [(.mv 73 (.t 7)), (.len 74 false (.t 73)), (.bin 75 .gtr (.t 74) (.c (.int .i64 16)))]) (.cond (.t 75) (.seq (.reg [(.bld 76 [(.int .i64 0), (.int .i64 0), .nil, (.int .i64 0), .nil, .nil, .nil, (.int .i64 0), (.int .i64 0), (.int .i64 0), (.int .i64 0), (.int .i64 0), (.int .i64 0), (.int .i64 0)] []), (.st (.t 4) (.t 76) 14), (.mv 5 (.c (.int .i64 8)))]) .ret) .skip)) (.seq (.reg [(.mv 77 (.t 7)), (.fa 78 (.t 2) 5), (.st (.t 78) (.t 77) 1)]) (.seq (.reg [(.ld 79 (.t 2) true 14), (.st (.t 4) (.t 79) 14), (.mv 5 (.c (.int .i64 0)))]) .ret)))))))))))
theorem e46 : compC prog f46.ntmps (f46.body.getD .skip) = c46 := by kernel_rfl
theorem held_snoc {l : List Held} {x : Held} {m q : Nat} {fu : Bool} : ltO m (.cells q 5 100 fu (l.map Held.enc ++ [x.enc])) = true := by
  have h := lt_held (l := l ++ [x]) (m := m) (q := q) (fu := fu)
  rwa [List.map_append, List.map_cons, List.map_nil] at h
def lowH (x : Held) (l : List Held) : List Held := l.takeWhile fun y => decide (y.flow < x.flow)
section
variable {s : Station} {x : Held}
theorem l46a (hL : (s.held.length + 1) * 64 ≤ 140737488355328) (r : AVal) (k' : List It) (hk : ∀ zs (st : Nat), get zs 2 = .ptr 0 0 0 0 → get zs 3 = .ptr 1 0 0 0 → get zs 4 = .ptr 2 0 0 0 → get zs 5 = .int .i64 0 → get zs 7 = .row 3 st 0 (lowH x s.held).length → get zs 8 = .int .i64 (lowH x s.held).length → V prog f46.ntmps 0 (Ret [.cell 4 true 14, .t 5] 0 r []) k' zs [.cells 0 14 31 true [s.enc], .cells 0 5 100 true [x.enc], .cells 0 14 31 true [zSt], .cells st 5 100 false ((lowH x s.held).map Held.enc)]) :
    ∀ (rest done : List Held) (st : Nat), s.held = done ++ rest → lowH x s.held = done ++ lowH x rest →
    Lp prog f46.ntmps 0 (Ret [.cell 4 true 14, .t 5] 0 r []) c46L1 (.blk 0 :: k') [(2, .ptr 0 0 0 0), (3, .ptr 1 0 0 0), (4, .ptr 2 0 0 0), (5, .int .i64 0), (7, .row 3 st 0 done.length), (8, .int .i64 done.length)] [.cells 0 14 31 true [s.enc], .cells 0 5 100 true [x.enc], .cells 0 14 31 true [zSt], .cells st 5 100 false (done.map Held.enc)] := by
  intro rest
  induction rest with
  | nil =>
    intro done st hd ht
    refine Lp.of_eq hmx c46L1.eq_1 ?_
    have h1 := rg_end hd
    have e : lowH x s.held = done := by rw [ht]; simp [lowH]
    rw [e] at hk
    simp only [go_sem, seval, h1, List.length_map]
    exact hk _ st (by rfl) (by rfl) (by rfl) (by rfl) (by rfl) (by rfl)
  | cons c rest ih =>
    intro done st hd ht
    refine Lp.of_eq hmx c46L1.eq_1 ?_
    obtain ⟨h1, h2, h3, h4⟩ := rg_hd Held.enc hd (by omega)
    have hlen : done.length + 1 ≤ s.held.length := by rw [hd]; simp
    cases hc : decide (c.flow < x.flow)
    · have e : lowH x s.held = done := by rw [ht]; simp [lowH, List.takeWhile_cons, hc]
      rw [e] at hk
      repeat' first | (with_reducible intro h; try simp only [h]) | (with_reducible refine And.intro ?_ ?_) | (change chk _ _ = true; rfl) | simp only [go_sem, seval, Vc_bool, h1, h2, hc, List.length_map, Int.toNat_natCast, Int.natCast_nonneg] | refine (GX_split rfl).2 ?_
      exact hk _ st (by rfl) (by rfl) (by rfl) (by rfl) (by rfl) (by rfl)
    · have e : lowH x s.held = done ++ [c] ++ lowH x rest := by rw [ht]; simp [lowH, List.takeWhile_cons, hc]
      have ih' := ih (done ++ [c]) (st + 1) h4 e
      simp only [List.map_append, List.map_cons, List.map_nil, List.length_append, List.length_cons, List.length_nil, Nat.zero_add] at ih' h3
      repeat' first | (with_reducible intro h; try simp only [h]) | (with_reducible refine And.intro ?_ ?_) | (change chk _ _ = true; rfl) | simp only [go_sem, seval, Vc_bool, h1, h2, h3, hc, List.length_map, Nat.le_refl, Int.toNat_natCast, Int.natCast_nonneg] | refine (GX_split rfl).2 ?_
      · omega
      · refine Lp.bkE [_] ih' (by rfl) (by rfl) ?_ (Nat.zero_le _) rfl
        rw [List.all_cons, List.all_cons, List.all_cons, List.all_cons, List.all_nil, Bool.and_true, held_snoc]
        rfl
theorem l46b (hL : (s.held.length + 1) * 64 ≤ 140737488355328) (r : List Held → AVal) (k' : List It) (hk : ∀ zs (st : Nat) (out : List Held), out.length ≤ s.held.length + 1 → get zs 2 = .ptr 0 0 0 0 → get zs 3 = .ptr 1 0 0 0 → get zs 4 = .ptr 2 0 0 0 → get zs 5 = .int .i64 0 → get zs 7 = .row 3 st 0 out.length → V prog f46.ntmps 0 (Ret [.cell 4 true 14, .t 5] 0 (r out) []) k' zs [.cells 0 14 31 true [s.enc], .cells 0 5 100 true [x.enc], .cells 0 14 31 true [zSt], .cells st 5 100 false (out.map Held.enc)]) :
    ∀ (rest done out : List Held) (st : Nat), s.held = done ++ rest → out.length ≤ done.length + 1 →
    Lp prog f46.ntmps 0 (Ret [.cell 4 true 14, .t 5] 0 (r (out ++ rest.filter fun y => !decide (y.flow = x.flow))) []) c46L2 (.blk 2 :: k') [(2, .ptr 0 0 0 0), (3, .ptr 1 0 0 0), (4, .ptr 2 0 0 0), (5, .int .i64 0), (7, .row 3 st 0 out.length), (8, .int .i64 done.length)] [.cells 0 14 31 true [s.enc], .cells 0 5 100 true [x.enc], .cells 0 14 31 true [zSt], .cells st 5 100 false (out.map Held.enc)] := by
  intro rest
  induction rest with
  | nil =>
    intro done out st hd ho
    refine Lp.of_eq hmx c46L2.eq_1 ?_
    have h1 := rg_end hd
    have e : (out ++ ([] : List Held).filter fun y => !decide (y.flow = x.flow)) = out := by simp
    have hlen : done.length = s.held.length := by rw [hd]; simp
    rw [e]
    simp only [go_sem, seval, h1, List.length_map]
    exact hk _ st out (by omega) (by rfl) (by rfl) (by rfl) (by rfl) (by rfl)
  | cons c rest ih =>
    intro done out st hd ho
    refine Lp.of_eq hmx c46L2.eq_1 ?_
    obtain ⟨h1, h2, h3, h4⟩ := rg_hd Held.enc hd (by omega)
    have hlen : done.length + 1 ≤ s.held.length := by rw [hd]; simp
    cases hc : decide (c.flow = x.flow)
    · have e : (out ++ (c :: rest).filter fun y => !decide (y.flow = x.flow)) = out ++ [c] ++ rest.filter fun y => !decide (y.flow = x.flow) := by simp [List.filter_cons, hc]
      have ih' := ih (done ++ [c]) (out ++ [c]) (st + 1) h4 (by simp; omega)
      rw [← e] at ih'
      simp only [show (out ++ [c]).map Held.enc = out.map Held.enc ++ [c.enc] by simp, show (out ++ [c]).length = out.length + 1 by simp] at ih'
      repeat' first | (with_reducible intro h; try simp only [h]) | (with_reducible refine And.intro ?_ ?_) | (change chk _ _ = true; rfl) | simp only [go_sem, seval, Vc_bool, h1, h2, h3, hc, List.length_map, Nat.le_refl, Int.toNat_natCast, Int.natCast_nonneg] | refine (GX_split rfl).2 ?_
      · omega
      · refine Lp.bkE [_] ih' (by rfl) (by rfl) ?_ (Nat.zero_le _) rfl
        rw [List.all_cons, List.all_cons, List.all_cons, List.all_cons, List.all_nil, Bool.and_true, held_snoc]
        rfl
    · have e : (out ++ (c :: rest).filter fun y => !decide (y.flow = x.flow)) = out ++ rest.filter fun y => !decide (y.flow = x.flow) := by simp [List.filter_cons, hc]
      have ih' := ih (done ++ [c]) out st h4 (by simp; omega)
      rw [← e] at ih'
      repeat' first | (with_reducible intro h; try simp only [h]) | (with_reducible refine And.intro ?_ ?_) | (change chk _ _ = true; rfl) | simp only [go_sem, seval, Vc_bool, h1, h2, h3, hc, List.length_map, Int.toNat_natCast, Int.natCast_nonneg] | refine (GX_split rfl).2 ?_
      exact Lp.bkE0 ih' (by rfl) rfl
end
theorem c46_ok {s : Station} {h : Held} (hB : StBd s) (hA : h.acked.length < 2 ^ 62) (hL : (s.held.length + 1) * 64 ≤ 140737488355328) : ACalls prog 46 [.agg s.enc, .agg h.enc] [] (.tup [.agg (holdSt s h).1.enc, .int .i64 (holdSt s h).2]) [] := by
  have h23 := c23_ok (s := s) hB
  have h89 := c89_pf h hA
  refine calls_of hmx func46 (by kernel_rfl) (c := f46.body.getD .skip) rfl e46 (rs := [(.cell 4 true 14), (.t 5)]) (by kernel_rfl) (by simp [ntmps46]) ?_
  simp only [c46, argS]
  cases h0 : stOk s with
  | false =>
    have e : holdSt s h = (Station.zero, 1) := by simp [holdSt, h0]
    have e1 : stErr s = 1 := by simp [stErr, h0]
    rw [e]
    rw [e1] at h23
    repeat' first | refine CX_pure (h23) rfl rfl rfl rfl ?_ | refine GX_call (fun _ => (h23)) (by rfl) (by intro h; simp only [h]; rfl) (by rfl) (by rfl) ?_ | (with_reducible intro h; try simp only [h]) | (with_reducible refine And.intro ?_ ?_) | (change chk _ _ = true; rfl) | simp only [go_sem, seval, Vc_bool] | refine (GX_split rfl).2 ?_
    refine Rt.gs (Gs_tell (s' := [(4, .ptr 2 0 0 0), (5, .int .i64 1)]) (H' := [.dead, .dead, .cells 0 14 31 true [Station.zero.enc]]) ?_ ?_) (Rt_pure ?_ rfl)
    · repeat' (first | exact FzL.nil | refine FzL.cons ?_ ?_ | exact Fz.wk (Wk.refl _) | exact Fz.wk (Wk.nil _) | exact Fz.wk (Wk.emp _) | exact Fz.row0 _ _ _ _ | exact FzH.nil _ | exact FzO.refl _ | refine FzO.one ?_ | refine FzH.cons (by decide) ?_ ?_ | refine FzH.this rfl ?_ | exact FzO.dead (by simp) | (simp only [List.forall_mem_cons, List.not_mem_nil, false_implies, implies_true, and_true, go_sem, seval]) | refine And.intro ?_ ?_)
    · repeat' (first | exact FzL.nil | refine FzL.cons ?_ ?_ | exact Fz.wk (Wk.refl _) | exact Fz.wk (Wk.nil _) | exact Fz.wk (Wk.emp _) | exact Fz.row0 _ _ _ _ | exact FzH.nil _ | exact FzO.refl _ | refine FzO.one ?_ | refine FzH.cons (by decide) ?_ ?_ | refine FzH.this rfl ?_ | exact FzO.dead (by simp) | (simp only [List.forall_mem_cons, List.not_mem_nil, false_implies, implies_true, and_true, go_sem, seval]) | refine And.intro ?_ ?_)
    · rfl
  | true =>
    have e1 : stErr s = 0 := by simp [stErr, h0]
    rw [e1] at h23
    cases h1 : hRange h with
    | false =>
      have e : holdSt s h = (Station.zero, 2) := by simp [holdSt, h0, h1]
      have e2 : heldErr h = 2 := by simp [heldErr, h1]
      rw [e]
      rw [e2] at h89
      repeat' first | refine CX_pure (h23) rfl rfl rfl rfl ?_ | refine CX_pure (h89) rfl rfl rfl rfl ?_ | refine GX_call (fun _ => (h23)) (by rfl) (by intro h; simp only [h]; rfl) (by rfl) (by rfl) ?_ | refine GX_call (fun _ => (h89)) (by rfl) (by intro h; simp only [h]; rfl) (by rfl) (by rfl) ?_ | (with_reducible intro h; try simp only [h]) | (with_reducible refine And.intro ?_ ?_) | (change chk _ _ = true; rfl) | simp only [go_sem, seval, Vc_bool] | refine (GX_split rfl).2 ?_
      refine Rt.gs (Gs_tell (s' := [(4, .ptr 2 0 0 0), (5, .int .i64 2)]) (H' := [.dead, .dead, .cells 0 14 31 true [Station.zero.enc]]) ?_ ?_) (Rt_pure ?_ rfl)
      · repeat' (first | exact FzL.nil | refine FzL.cons ?_ ?_ | exact Fz.wk (Wk.refl _) | exact Fz.wk (Wk.nil _) | exact Fz.wk (Wk.emp _) | exact Fz.row0 _ _ _ _ | exact FzH.nil _ | exact FzO.refl _ | refine FzO.one ?_ | refine FzH.cons (by decide) ?_ ?_ | refine FzH.this rfl ?_ | exact FzO.dead (by simp) | (simp only [List.forall_mem_cons, List.not_mem_nil, false_implies, implies_true, and_true, go_sem, seval]) | refine And.intro ?_ ?_)
      · repeat' (first | exact FzL.nil | refine FzL.cons ?_ ?_ | exact Fz.wk (Wk.refl _) | exact Fz.wk (Wk.nil _) | exact Fz.wk (Wk.emp _) | exact Fz.row0 _ _ _ _ | exact FzH.nil _ | exact FzO.refl _ | refine FzO.one ?_ | refine FzH.cons (by decide) ?_ ?_ | refine FzH.this rfl ?_ | exact FzO.dead (by simp) | (simp only [List.forall_mem_cons, List.not_mem_nil, false_implies, implies_true, and_true, go_sem, seval]) | refine And.intro ?_ ?_)
      · rfl
    | true =>
      by_cases h2 : 100 < (h.data.size : Int)
      · have e : holdSt s h = (Station.zero, 8) := by simp [holdSt, h0, h1, h2]
        have e2 : heldErr h = 8 := by simp [heldErr, h1, h2]
        rw [e]
        rw [e2] at h89
        repeat' first | refine CX_pure (h23) rfl rfl rfl rfl ?_ | refine CX_pure (h89) rfl rfl rfl rfl ?_ | refine GX_call (fun _ => (h23)) (by rfl) (by intro h; simp only [h]; rfl) (by rfl) (by rfl) ?_ | refine GX_call (fun _ => (h89)) (by rfl) (by intro h; simp only [h]; rfl) (by rfl) (by rfl) ?_ | (with_reducible intro h; try simp only [h]) | (with_reducible refine And.intro ?_ ?_) | (change chk _ _ = true; rfl) | simp only [go_sem, seval, Vc_bool] | refine (GX_split rfl).2 ?_
        refine Rt.gs (Gs_tell (s' := [(4, .ptr 2 0 0 0), (5, .int .i64 8)]) (H' := [.dead, .dead, .cells 0 14 31 true [Station.zero.enc]]) ?_ ?_) (Rt_pure ?_ rfl)
        · repeat' (first | exact FzL.nil | refine FzL.cons ?_ ?_ | exact Fz.wk (Wk.refl _) | exact Fz.wk (Wk.nil _) | exact Fz.wk (Wk.emp _) | exact Fz.row0 _ _ _ _ | exact FzH.nil _ | exact FzO.refl _ | refine FzO.one ?_ | refine FzH.cons (by decide) ?_ ?_ | refine FzH.this rfl ?_ | exact FzO.dead (by simp) | (simp only [List.forall_mem_cons, List.not_mem_nil, false_implies, implies_true, and_true, go_sem, seval]) | refine And.intro ?_ ?_)
        · repeat' (first | exact FzL.nil | refine FzL.cons ?_ ?_ | exact Fz.wk (Wk.refl _) | exact Fz.wk (Wk.nil _) | exact Fz.wk (Wk.emp _) | exact Fz.row0 _ _ _ _ | exact FzH.nil _ | exact FzO.refl _ | refine FzO.one ?_ | refine FzH.cons (by decide) ?_ ?_ | refine FzH.this rfl ?_ | exact FzO.dead (by simp) | (simp only [List.forall_mem_cons, List.not_mem_nil, false_implies, implies_true, and_true, go_sem, seval]) | refine And.intro ?_ ?_)
        · rfl
      · have e2 : heldErr h = 0 := by simp [heldErr, h1, h2]
        rw [e2] at h89
        have hsplit : s.held = lowH h s.held ++ s.held.dropWhile (fun y : Held => decide (y.flow < h.flow)) := (List.takeWhile_append_dropWhile).symm
        have hle : (lowH h s.held).length ≤ s.held.length := by
          have := congrArg List.length hsplit
          rw [List.length_append] at this; omega
        have ei : holdIns s.held h = lowH h s.held ++ [h] ++ (s.held.dropWhile (fun y : Held => decide (y.flow < h.flow))).filter fun y => !decide (y.flow = h.flow) := by simp [holdIns, lowH]
        have e : holdSt s h = (fun l : List Held => if 16 < (l.length : Int) then (Station.zero, 8) else ({ s with held := l }, 0)) (holdIns s.held h) := by
          simp [holdSt, h0, h1, h2]
        rw [e, ei]
        repeat' first | refine CX_pure (h23) rfl rfl rfl rfl ?_ | refine CX_pure (h89) rfl rfl rfl rfl ?_ | refine GX_call (fun _ => (h23)) (by rfl) (by intro h; simp only [h]; rfl) (by rfl) (by rfl) ?_ | refine GX_call (fun _ => (h89)) (by rfl) (by intro h; simp only [h]; rfl) (by rfl) (by rfl) ?_ | (with_reducible intro h; try simp only [h]) | (with_reducible refine And.intro ?_ ?_) | (change chk _ _ = true; rfl) | simp only [go_sem, seval, Vc_bool] | refine (GX_split rfl).2 ?_
        refine Lp.gs (Gs_virt 7 100 false (by decide : 0 < 5) (by rfl)) ?_
        refine Lp.bkE0 (l46a (s := s) (x := h) hL _ _ (fun zs st z2 z3 z4 z5 z7 z8 => ?_) s.held [] 1 rfl (by simp)) (by rfl) rfl
        repeat' first | (with_reducible intro h; try simp only [h]) | (with_reducible refine And.intro ?_ ?_) | (change chk _ _ = true; rfl) | simp only [go_sem, seval, Vc_bool, z2, z3, z4, z5, z7, z8, List.length_map, Nat.le_refl] | refine (GX_split rfl).2 ?_
        · omega
        · have hl := l46b (s := s) (x := h) hL (fun l => .tup [.agg (if 16 < (l.length : Int) then (Station.zero, (8 : Int)) else ({ s with held := l }, 0)).1.enc, .int .i64 (if 16 < (l.length : Int) then (Station.zero, (8 : Int)) else ({ s with held := l }, 0)).2])
          have hl' := fun k' hk => hl k' hk (s.held.dropWhile (fun y : Held => decide (y.flow < h.flow))) (lowH h s.held) (lowH h s.held ++ [h]) (st + 1) hsplit (by simp)
          simp only [show (lowH h s.held ++ [h]).map Held.enc = (lowH h s.held).map Held.enc ++ [h.enc] by simp, show (lowH h s.held ++ [h]).length = (lowH h s.held).length + 1 by simp] at hl'
          refine Lp.bkE [_] (hl' _ (fun zs st out ho z2 z3 z4 z5 z7 => ?_)) ?_ (by rfl) ?_ (Nat.zero_le _) rfl
          · cases h16 : decide (16 < (out.length : Int)) with
            | true =>
              have g : 16 < (out.length : Int) := of_decide_eq_true h16
              rw [if_pos g]
              repeat' first | (with_reducible intro h; try simp only [h]) | (with_reducible refine And.intro ?_ ?_) | (change chk _ _ = true; rfl) | simp only [go_sem, seval, Vc_bool, z2, z3, z4, z5, z7, h16, zSt] | refine (GX_split rfl).2 ?_
              refine Rt.gs (Gs_tell (s' := [(4, .ptr 2 0 0 0), (5, .int .i64 8)]) (H' := [.dead, .dead, .cells 0 14 31 true [Station.zero.enc], .dead]) ?_ ?_) (Rt_pure (by rfl) (by rfl))
              · simp only [List.forall_mem_cons, List.not_mem_nil, false_implies, implies_true, and_true, go_sem, seval, z4]
                exact ⟨.wk (.refl _), .wk (.refl _)⟩
              · repeat' (first | exact FzL.nil | refine FzL.cons ?_ ?_ | exact Fz.wk (Wk.refl _) | exact Fz.wk (Wk.nil _) | exact Fz.wk (Wk.emp _) | exact Fz.row0 _ _ _ _ | exact FzH.nil _ | exact FzO.refl _ | refine FzO.one ?_ | refine FzH.cons (by decide) ?_ ?_ | refine FzH.this rfl ?_ | exact FzO.dead (by simp) | (simp only [List.forall_mem_cons, List.not_mem_nil, false_implies, implies_true, and_true, go_sem, seval]) | refine And.intro ?_ ?_)
            | false =>
              have g : ¬ 16 < (out.length : Int) := of_decide_eq_false h16
              rw [if_neg g]
              repeat' first | (with_reducible intro h; try simp only [h]) | (with_reducible refine And.intro ?_ ?_) | (change chk _ _ = true; rfl) | simp only [go_sem, seval, Vc_bool, z2, z3, z4, z5, z7, h16, zSt] | refine (GX_split rfl).2 ?_
              refine Rt.gs (Gs_freeze 3 (s' := [(4, .ptr 2 0 0 0), (5, .int .i64 0)]) (H' := [.dead, .dead, .cells 0 14 31 true [Station.enc { s with held := out }], .dead]) rfl ?_ ?_) (Rt_pure (by rfl) (by rfl))
              · simp only [List.forall_mem_cons, List.not_mem_nil, false_implies, implies_true, and_true, go_sem, seval, z4]
                exact ⟨.wk (.refl _), .wk (.refl _)⟩
              · repeat' (first | exact FzL.nil | refine FzL.cons ?_ ?_ | exact Fz.wk (Wk.refl _) | exact Fz.wk (Wk.nil _) | exact Fz.wk (Wk.emp _) | exact Fz.row0 _ _ _ _ | exact FzH.nil _ | exact FzO.refl _ | refine FzO.one ?_ | refine FzH.cons (by decide) ?_ ?_ | refine FzH.this rfl ?_ | exact FzO.dead (by simp) | (simp only [List.forall_mem_cons, List.not_mem_nil, false_implies, implies_true, and_true, go_sem, seval]) | refine And.intro ?_ ?_)
                all_goals first | exact Fz.wk (Wk.refl _) | exact Fz.row 0 _ (by rw [List.drop_zero]; exact List.take_of_length_le (by simp)) (cloE_map fun _ => by rfl)
          · simp only [List.map_cons, List.map_nil, get_cons, Nat.reduceEqDiff, reduceIte, z2, z3, z4, z5, z7, z8]
          · rw [List.all_cons, List.all_cons, List.all_cons, List.all_cons, List.all_nil, Bool.and_true, held_snoc]
            rfl

end Go.Av.T
