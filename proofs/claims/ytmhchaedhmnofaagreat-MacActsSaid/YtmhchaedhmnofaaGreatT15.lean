/- The seat: part T15. -/
import Derived.Test.YtmhchaedhmnofaaGreatT13
import Derived.KernelRfl
set_option maxRecDepth 100000
set_option maxHeartbeats 1000000
set_option linter.unusedSimpArgs false
set_option linter.unusedVariables false
namespace Go.Av.T
open Go Go.Av Go.Av.Sp Go.Proofs.Tryz
def c138L1 : SC := (.seq (.reg [(.bin 9 .lss (.t 8) (.t 7))]) (.seq (.cond (.t 9) .skip (.exit 0)) (.seq (.block 1 (.seq (.reg [(.mv 10 (.t 8)), (.mv 5 (.t 10))]) (.seq (.reg [(.mv 11 (.t 1)), (.mv 12 (.t 0)), (.mv 13 (.t 5)), (.ia 14 (.t 12) (.t 13) 1), (.ld 15 (.t 14) false 1), (.bin 16 .eql (.t 11) (.t 15))]) (.cond (.t 16) (.seq (.reg [(.mv 17 (.t 5)), (.mv 4 (.t 17))]) .ret) .skip)))) (.reg [(.bin 18 .add (.t 8) (.c (.int .i64 1))), (.mv 8 (.t 18))]))))
def c138 : SC := (.seq (.reg [(.mv 4 (.c (.int .i64 0)))]) (.seq (.seq (.reg [(.mv 6 (.t 0)), (.len 7 false (.t 6)), (.mv 8 (.c (.int .i64 0)))]) (.block 0 (.loop c138L1))) (.seq (.reg [(.mv 4 (.c (.int .i64 (-1))))]) .ret)))
theorem e138 : compC prog f138.ntmps (f138.body.getD .skip) = c138 := by kernel_rfl
def c40 : SC := (.seq (.reg [(.mv 4 (.c (.bool false)))]) (.seq (.reg [(.mv 5 (.t 0)), (.mv 6 (.t 1)), (.call (some 7) (.c (.func 138 [] [])) [(.t 5), (.t 6)]), (.bin 8 .geq (.t 7) (.c (.int .i64 0))), (.mv 4 (.t 8))]) .ret))
theorem e40 : compC prog f40.ntmps (f40.body.getD .skip) = c40 := by kernel_rfl
def c192 : SC := (.seq (.reg [(.alc 2 43 [(.int .i64 0), (.int .i64 0), (.int .i64 0), (.int .i64 0), (.int .i64 0), (.int .i64 0), (.int .i64 0), (.int .i64 0), (.int .i64 0), (.int .i64 0), (.int .i64 0), (.int .i64 0), (.int .i64 0), (.str (ByteArray.mk #[]))])]) (.seq (.seq (.reg [(.mv 5 (.t 0)), (.nck 6 (.t 5)), (.fa 7 (.t 6) 15), (.fa 8 (.t 7) 3), (.ld 9 (.t 8) false 1), (.not 10 (.t 9))]) (.cond (.t 10) (.seq (.reg [(.bld 11 [(.int .i64 0), (.int .i64 0), (.int .i64 0), (.int .i64 0), (.int .i64 0), (.int .i64 0), (.int .i64 0), (.int .i64 0), (.int .i64 0), (.int .i64 0), (.int .i64 0), (.int .i64 0), (.int .i64 0), (.str (ByteArray.mk #[]))] [(0, 1, (.c (.int .i64 2)))]), (.st (.t 2) (.t 11) 14)]) .ret) .skip)) (.seq (.reg [(.mv 12 (.t 0)), (.mv 13 (.t 0)), (.nck 14 (.t 13)), (.fa 15 (.t 14) 15), (.fa 16 (.t 15) 5), (.ld 17 (.t 16) false 1), (.call (some 18) (.c (.func 101 [] [])) [(.t 12), (.t 17)]), (.mv 3 (.t 18))]) (.seq (.seq (.regD [(.mv 19 (.t 3)), (.bin 20 .lss (.t 19) (.c (.int .i64 0))), (.mv 21 (.t 20)), (.g 21 false (some 22) (.mv 22 (.t 0))), (.g 21 false (some 23) (.nck 23 (.t 22))), (.g 21 false (some 24) (.fa 24 (.t 23) 14)), (.g 21 false (some 25) (.ld 25 (.t 24) false 1)), (.g 21 false (some 26) (.mv 26 (.t 0))), (.g 21 false (some 27) (.nck 27 (.t 26))), (.g 21 false (some 28) (.fa 28 (.t 27) 0)), (.g 21 false (some 29) (.fa 29 (.t 28) 5)), (.g 21 false (some 30) (.ld 30 (.t 29) false 1)), (.g 21 false (some 31) (.mv 31 (.t 3))), (.g 21 false (some 32) (.ia 32 (.t 30) (.t 31) 5)), (.g 21 false (some 33) (.fa 33 (.t 32) 2)), (.g 21 false (some 34) (.ld 34 (.t 33) false 1)), (.g 21 false (some 35) (.bin 35 .gtr (.t 25) (.t 34))), (.pick 36 (.t 21) (.c (.bool true)) (.t 35)), (.mv 37 (.t 36)), (.g 37 false (some 38) (.mv 38 (.t 0))), (.g 37 false (some 39) (.nck 39 (.t 38))), (.g 37 false (some 40) (.fa 40 (.t 39) 0)), (.g 37 false (some 41) (.fa 41 (.t 40) 5)), (.g 37 false (some 42) (.ld 42 (.t 41) false 1)), (.g 37 false (some 43) (.mv 43 (.t 3))), (.g 37 false (some 44) (.ia 44 (.t 42) (.t 43) 5)), (.g 37 false (some 45) (.fa 45 (.t 44) 4)), (.g 37 false (some 46) (.ld 46 (.t 45) false 1)), (.g 37 false (some 47) (.mv 47 (.t 0))), (.g 37 false (some 48) (.nck 48 (.t 47))), (.g 37 false (some 49) (.fa 49 (.t 48) 15)), (.g 37 false (some 50) (.fa 50 (.t 49) 4)), (.g 37 false (some 51) (.ld 51 (.t 50) false 1)), (.g 37 false (some 52) (.call (some 52) (.c (.func 40 [] [])) [(.t 46), (.t 51)])), (.pick 53 (.t 37) (.c (.bool true)) (.t 52))] []) (.cond (.t 53) (.seq (.reg [(.bld 54 [(.int .i64 0), (.int .i64 0), (.int .i64 0), (.int .i64 0), (.int .i64 0), (.int .i64 0), (.int .i64 0), (.int .i64 0), (.int .i64 0), (.int .i64 0), (.int .i64 0), (.int .i64 0), (.int .i64 0), (.str (ByteArray.mk #[]))] []), (.st (.t 2) (.t 54) 14)]) .ret) .skip)) (.seq (.reg [(.mv 55 (.t 0)), (.nck 56 (.t 55)), (.fa 57 (.t 56) 0), (.fa 58 (.t 57) 5), (.ld 59 (.t 58) false 1), (.mv 60 (.t 3)), (.ia 61 (.t 59) (.t 60) 5), (.ld 62 (.t 61) true 5), (.alc 4 100 [(.int .i64 0), (.int .i64 0), (.int .i64 0), (.str (ByteArray.mk #[])), .nil]), (.st (.t 4) (.t 62) 5)]) (.seq (.regD [(.mv 63 (.t 0)), (.nck 64 (.t 63)), (.fa 65 (.t 64) 0), (.fa 66 (.t 65) 0), (.fa 67 (.t 66) 0), (.ld 68 (.t 67) false 1), (.mv 69 (.t 0)), (.nck 70 (.t 69)), (.fa 71 (.t 70) 15), (.fa 72 (.t 71) 4), (.ld 73 (.t 72) false 1), (.mv 74 (.t 0)), (.nck 75 (.t 74)), (.fa 76 (.t 75) 0), (.fa 77 (.t 76) 7), (.ld 78 (.t 77) false 1), (.fa 79 (.t 4) 1), (.ld 80 (.t 79) false 1), (.bin 81 .rem (.t 80) (.c (.int .i64 256))), (.fa 82 (.t 4) 0), (.ld 83 (.t 82) false 1), (.fa 84 (.t 4) 1), (.ld 85 (.t 84) false 1), (.fa 86 (.t 4) 3), (.ld 87 (.t 86) false 1), (.bld 88 [(.int .i64 0), (.int .i64 0), (.int .i64 0), (.int .i64 0), (.int .i64 0), (.int .i64 0), (.int .i64 0), (.int .i64 0), (.int .i64 0), (.int .i64 0), (.int .i64 0), (.str (ByteArray.mk #[]))] [(0, 1, (.c (.int .i64 1))), (1, 1, (.t 68)), (2, 1, (.t 73)), (3, 1, (.t 78)), (4, 1, (.t 81)), (5, 1, (.t 83)), (6, 1, (.t 85)), (11, 1, (.t 87))]), (.bld 89 [(.int .i64 0), (.int .i64 0), (.int .i64 0), (.int .i64 0), (.int .i64 0), (.int .i64 0), (.int .i64 0), (.int .i64 0), (.int .i64 0), (.int .i64 0), (.int .i64 0), (.int .i64 0), (.int .i64 0), (.str (ByteArray.mk #[]))] [(0, 1, (.c (.int .i64 1))), (2, 12, (.t 88))]), (.st (.t 2) (.t 89) 14)] []) .ret))))))
theorem e192 : compC prog f192.ntmps (f192.body.getD .skip) = c192 := by kernel_rfl
def c194 : SC := (.seq (.reg [(.alc 2 43 [(.int .i64 0), (.int .i64 0), (.int .i64 0), (.int .i64 0), (.int .i64 0), (.int .i64 0), (.int .i64 0), (.int .i64 0), (.int .i64 0), (.int .i64 0), (.int .i64 0), (.int .i64 0), (.int .i64 0), (.str (ByteArray.mk #[]))])]) (.seq (.seq (.reg [(.mv 6 (.t 0)), (.call (some 7) (.c (.func 104 [] [])) [(.t 6)]), (.mv 5 (.t 7)), (.ext 8 (.t 5) 0), (.ext 9 (.t 5) 1), (.alc 3 104 [(.int .i64 0), (.int .i64 0), (.int .i64 0), (.int .i64 0), (.int .i64 0), (.str (ByteArray.mk #[]))]), (.st (.t 3) (.t 8) 6), (.mv 4 (.t 9))]) (.seq (.reg [(.mv 10 (.t 4)), (.mv 11 (.t 10)), (.g 11 true (some 12) (.mv 12 (.t 0))), (.g 11 true (some 13) (.nck 13 (.t 12))), (.g 11 true (some 14) (.fa 14 (.t 13) 0)), (.g 11 true (some 15) (.fa 15 (.t 14) 12)), (.g 11 true (some 16) (.ld 16 (.t 15) false 1)), (.g 11 true (some 17) (.bin 17 .eql (.t 16) (.c (.int .i64 0)))), (.pick 18 (.t 11) (.t 17) (.c (.bool false)))]) (.cond (.t 18) (.seq (.reg [(.mv 19 (.t 0)), (.ld 20 (.t 3) true 6), (.call (some 21) (.c (.func 302 [] [])) [(.t 19), (.t 20)]), (.st (.t 2) (.t 21) 14)]) .ret) .skip))) (.seq (.reg [(.bld 22 [(.int .i64 0), (.int .i64 0), (.int .i64 0), (.int .i64 0), (.int .i64 0), (.int .i64 0), (.int .i64 0), (.int .i64 0), (.int .i64 0), (.int .i64 0), (.int .i64 0), (.int .i64 0), (.int .i64 0), (.str (ByteArray.mk #[]))] [(0, 1, (.c (.int .i64 2)))]), (.st (.t 2) (.t 22) 14)]) .ret)))
theorem e194 : compC prog f194.ntmps (f194.body.getD .skip) = c194 := by kernel_rfl
theorem l138 (l : List Int) (x : Int) (hL : (l).length < 2 ^ 62) (k' : List It) (hk : ∀ zs, V prog f138.ntmps 0 (Ret [(.t 4)] 0 (.int .i64 (-1)) []) k' zs []) : ∀ (rest done : List Int), l = done ++ rest →
    Lp prog f138.ntmps 0 (Ret [(.t 4)] 0 (.int .i64 (idxFrom (fun y => decide (x = y)) done.length rest)) []) c138L1 (.blk 0 :: k') [(0, .sl 1 (l.map eI)), (1, .int .i64 x), (7, .int .i64 l.length), (8, .int .i64 done.length)] [] := by
  intro rest
  induction rest with
  | nil =>
    intro done hd
    refine Lp.of_eq hmx c138L1.eq_1 ?_
    have h1 := rg_end hd
    simp only [go_sem, seval, h1, List.length_map]
    exact hk _
  | cons c rest ih =>
    intro done hd
    refine Lp.of_eq hmx c138L1.eq_1 ?_
    obtain ⟨h1, h2, h3, h4⟩ := rg_hd eI hd hL
    have ih' := ih _ h4
    rcases List.eq_nil_or_concat done with h0 | ⟨ds, p, h0⟩
    · obtain ⟨p1, hp⟩ := rg_first' h0
      repeat' first | (refine Lp.bkE0 ih' (by rfl) ?_) | (refine Rt_pure ?_ rfl; simp only [retO, retO1, retOs, S, get_cons, Nat.reduceEqDiff, reduceIte, obj, getO_cons_zero, getO_cons_succ, List.getElem?_cons_zero, List.getElem?_cons_succ, List.drop_zero, List.drop_succ_cons, loadFrom_cell, loadFrom_agg, List.length_cons, List.length_nil, Nat.reduceAdd, Nat.reduceLeDiff, List.take_succ_cons, List.take_zero, List.take_nil]) | (with_reducible intro h; try simp only [h]) | (with_reducible refine And.intro ?_ ?_) | (change chk _ _ = true; rfl) | simp only [go_sem, seval, Vc_bool, h1, h2, h3, Int.toNat_natCast, Int.natCast_nonneg, List.length_map, p1] | refine (GX_split rfl).2 ?_
      all_goals (clear hk ih ih' h1 h2 h3 h4 hd hL)
      all_goals clear p1 h0
      all_goals (simp only [idxFrom]; grind)
    · rw [List.concat_eq_append] at h0
      obtain ⟨p1, p2, p3, hp⟩ := rg_prev' eI hd h0 hL
      repeat' first | (refine Lp.bkE0 ih' (by rfl) ?_) | (refine Rt_pure ?_ rfl; simp only [retO, retO1, retOs, S, get_cons, Nat.reduceEqDiff, reduceIte, obj, getO_cons_zero, getO_cons_succ, List.getElem?_cons_zero, List.getElem?_cons_succ, List.drop_zero, List.drop_succ_cons, loadFrom_cell, loadFrom_agg, List.length_cons, List.length_nil, Nat.reduceAdd, Nat.reduceLeDiff, List.take_succ_cons, List.take_zero, List.take_nil]) | (with_reducible intro h; try simp only [h]) | (with_reducible refine And.intro ?_ ?_) | (change chk _ _ = true; rfl) | simp only [go_sem, seval, Vc_bool, h1, h2, h3, Int.toNat_natCast, Int.natCast_nonneg, List.length_map, p1, p2, p3] | refine (GX_split rfl).2 ?_
      all_goals (clear hk ih ih' h1 h2 h3 h4 hd hL)
      all_goals clear p1 p2 p3 h0
      all_goals (simp only [idxFrom]; grind)

theorem c138_ok {l : List Int} {x : Int} (hL : l.length < 2 ^ 62) : ACalls prog 138 [.sl 1 (l.map eI), .int .i64 x] [] (.int .i64 (idxFrom (fun y => decide (x = y)) 0 l)) [] := by
  refine calls_of hmx func138 (by kernel_rfl) (c := f138.body.getD .skip) rfl e138 (rs := [(.t 4)]) (by kernel_rfl) (by simp [ntmps138]) ?_
  simp only [c138, argS]
  simp only [go_sem, seval, List.length_map]
  refine Lp.bkE0 (l138 l x hL _ (fun s => ?_) l [] rfl) (by rfl) rfl
  simp only [go_sem, seval]
  (refine Rt_pure ?_ rfl; simp only [retO, retO1, retOs, S, get_cons, Nat.reduceEqDiff, reduceIte, obj, getO_cons_zero, getO_cons_succ, List.getElem?_cons_zero, List.getElem?_cons_succ, List.drop_zero, List.drop_succ_cons, loadFrom_cell, loadFrom_agg, List.length_cons, List.length_nil, Nat.reduceAdd, Nat.reduceLeDiff, List.take_succ_cons, List.take_zero, List.take_nil])
theorem c40_ok {l : List Int} {x : Int} (hL : l.length < 2 ^ 62) : ACalls prog 40 [.sl 1 (l.map eI), .int .i64 x] [] (.bool (l.any fun y => decide (x = y))) [] := by
  refine calls_of hmx func40 (by kernel_rfl) (c := f40.body.getD .skip) rfl e40 (rs := [(.t 4)]) (by kernel_rfl) (by simp [ntmps40]) ?_
  simp only [c40, argS]
  simp only [go_sem, seval]
  repeat' first | (refine Rt_pure ?_ rfl; simp only [retO, retO1, retOs, S, get_cons, Nat.reduceEqDiff, reduceIte, obj, getO_cons_zero, getO_cons_succ, List.getElem?_cons_zero, List.getElem?_cons_succ, List.drop_zero, List.drop_succ_cons, loadFrom_cell, loadFrom_agg, List.length_cons, List.length_nil, Nat.reduceAdd, Nat.reduceLeDiff, List.take_succ_cons, List.take_zero, List.take_nil]) | refine CX_pure (c138_ok hL) rfl rfl rfl rfl ?_ | refine GX_call (fun _ => (c138_ok hL)) (by rfl) (by intro h; simp only [h]; rfl) (by rfl) (by rfl) ?_ | (with_reducible intro h; try simp only [h]) | (with_reducible refine And.intro ?_ ?_) | (change chk _ _ = true; rfl) | simp only [go_sem, seval, Vc_bool, idxFrom_any] | refine (GX_split rfl).2 ?_
def ctlSt (s : Station) (slot : Int) (c : TCell) : Action :=
  if c.send = false then ⟨2, 0, Frame.zero⟩
  else match heldOf s.held c.flow with
    | none => Action.zero
    | some h => if h.upto < slot ∨ (h.acked.any fun y => decide (c.peer = y)) = true then Action.zero else ⟨1, 0, dataOf s h c.peer⟩
theorem c192_ok {s : Station} {slot : Int} {c : TCell} (hL : s.held.length < 2 ^ 62) (hA : ∀ h ∈ s.held, h.acked.length < 2 ^ 62) : ACalls prog 192 [.ptr 0 0 0 0] [.cells 0 21 176 true [wEnc s slot c]] (.agg (ctlSt s slot c).enc) [.cells 0 21 176 true [wEnc s slot c]] := by
  have h101 := c101_ok (s := s) (slot := slot) (c := c) (flow := c.flow) hL
  refine calls_of hmx func192 (by kernel_rfl) (c := f192.body.getD .skip) rfl e192 (rs := [(.cell 2 true 14)]) (by kernel_rfl) (by simp [ntmps192]) ?_
  simp only [c192, argS]
  rcases idxFrom_find (fun h : Held => decide (h.flow = c.flow)) s.held with ⟨h1, h2⟩ | ⟨i, x, h1, h2, h3, h4, h5⟩
  · have e1 : heldIdx s.held c.flow = -1 := h1
    have e2 : heldOf s.held c.flow = none := h2
    rw [e1] at h101
    repeat' first | refine CX_rd [0] (h101) (by rfl) (by rfl) (by rfl) (by rfl) (by rfl) (by decide) (by rfl) (by rfl) (by rfl) ?_ | (with_reducible intro h; try simp only [h]) | (with_reducible refine And.intro ?_ ?_) | (change chk _ _ = true; rfl) | simp only [go_sem, seval, Vc_bool] | refine (GX_split rfl).2 ?_
    · have e : ctlSt s slot c = ⟨2, 0, Frame.zero⟩ := by rw [ctlSt, if_pos (by simpa using h)]
      rw [e]
      exact Rt_T (H := [_]) _ (by rfl) (by rfl) (by rfl) (Nat.le_refl _)
    · have e : ctlSt s slot c = Action.zero := by rw [ctlSt, if_neg (by simpa using h), e2]
      rw [e]
      exact Rt_T (H := [_]) _ (by rfl) (by rfl) (by rfl) (Nat.le_refl _)
  · have e1 : heldIdx s.held c.flow = i := h3
    have e2 : heldOf s.held c.flow = some x := h4
    have e3 : (s.held.map Held.enc)[i]? = some x.enc := by rw [List.getElem?_map, h1]; rfl
    have e4 : decide ((i : Int) < 0) = false := by simp
    have hx : x.acked.length < 2 ^ 62 := hA x (List.mem_of_getElem? h1)
    rw [e1] at h101
    have e0 : c.send = false → ctlSt s slot c = ⟨2, 0, Frame.zero⟩ := fun h => by rw [ctlSt, if_pos h]
    have e5 : c.send = true → (x.upto < slot ∨ (x.acked.any fun y => decide (c.peer = y)) = true) → ctlSt s slot c = Action.zero := fun h h' => by rw [ctlSt, if_neg (by simp [h]), e2]; simp only; rw [if_pos h']
    have e6 : c.send = true → ¬ (x.upto < slot ∨ (x.acked.any fun y => decide (c.peer = y)) = true) → ctlSt s slot c = ⟨1, 0, dataOf s x c.peer⟩ := fun h h' => by rw [ctlSt, if_neg (by simp [h]), e2]; simp only; rw [if_neg h']
    cases hw : decide (x.upto < slot)
    · repeat' first | refine CX_rd [0] (h101) (by rfl) (by rfl) (by rfl) (by rfl) (by rfl) (by decide) (by rfl) (by rfl) (by rfl) ?_ | refine CX_pure (c40_ok hx) rfl rfl rfl rfl ?_ | refine GX_call (fun _ => (c40_ok hx)) (by rfl) (by intro h; simp only [h]; rfl) (by rfl) (by rfl) ?_ | (with_reducible intro h; try simp only [h]) | (with_reducible refine And.intro ?_ ?_) | (change chk _ _ = true; rfl) | simp only [go_sem, seval, Vc_bool, e3, e4, hw, Int.toNat_natCast, Int.natCast_nonneg] | refine (GX_split rfl).2 ?_
      · rw [e0 (by simpa using h)]
        exact Rt_T (H := [_]) _ (by rfl) (by rfl) (by rfl) (Nat.le_refl _)
      · rename_i hs
        rw [e5 (by simpa using hs) (.inr h)]
        exact Rt_T (H := [_]) _ (by rfl) (by rfl) (by rfl) (Nat.le_refl _)
      · rename_i hs
        rw [e6 (by simpa using hs) (fun h' => h'.elim (fun a => of_decide_eq_false hw a) (fun a => by rw [a] at h; cases h))]
        exact Rt_T (H := [_]) _ (by rfl) (by rfl) (by rfl) (Nat.le_refl _)
    · repeat' first | refine CX_rd [0] (h101) (by rfl) (by rfl) (by rfl) (by rfl) (by rfl) (by decide) (by rfl) (by rfl) (by rfl) ?_ | refine CX_pure (c40_ok hx) rfl rfl rfl rfl ?_ | refine GX_call (fun _ => (c40_ok hx)) (by rfl) (by intro h; simp only [h]; rfl) (by rfl) (by rfl) ?_ | (with_reducible intro h; try simp only [h]) | (with_reducible refine And.intro ?_ ?_) | (change chk _ _ = true; rfl) | simp only [go_sem, seval, Vc_bool, e3, e4, hw, Int.toNat_natCast, Int.natCast_nonneg] | refine (GX_split rfl).2 ?_
      · rw [e0 (by simpa using h)]
        exact Rt_T (H := [_]) _ (by rfl) (by rfl) (by rfl) (Nat.le_refl _)
      · rw [e5 (by simpa using h) (.inl (of_decide_eq_true hw))]
        exact Rt_T (H := [_]) _ (by rfl) (by rfl) (by rfl) (Nat.le_refl _)
def shSt (s : Station) : Action := match candidate s with | some p => if s.wait = 0 then ⟨1, 0, msgOf s p⟩ else ⟨2, 0, Frame.zero⟩ | none => ⟨2, 0, Frame.zero⟩
theorem c194_ok {s : Station} {slot : Int} {c : TCell} (hC : s.tab.cells.length < 2 ^ 62) (hL : s.q.pk.length < 2 ^ 62) : ACalls prog 194 [.ptr 0 0 0 0] [.cells 0 21 176 true [wEnc s slot c]] (.agg (shSt s).enc) [.cells 0 21 176 true [wEnc s slot c]] := by
  have h104 := c104_ok (s := s) (slot := slot) (c := c) hC hL
  refine calls_of hmx func194 (by kernel_rfl) (c := f194.body.getD .skip) rfl e194 (rs := [(.cell 2 true 14)]) (by kernel_rfl) (by simp [ntmps194]) ?_
  simp only [c194, argS]
  cases hc : candidate s with
  | none =>
    rw [hc] at h104
    have e : shSt s = ⟨2, 0, Frame.zero⟩ := by rw [shSt, hc]
    rw [e]
    repeat' first | refine CX_rd [0] (h104) (by rfl) (by rfl) (by rfl) (by rfl) (by rfl) (by decide) (by rfl) (by rfl) (by rfl) ?_ | (with_reducible intro h; try simp only [h]) | (with_reducible refine And.intro ?_ ?_) | (change chk _ _ = true; rfl) | simp only [go_sem, seval, Vc_bool, oPk_none] | refine (GX_split rfl).2 ?_
    exact Rt_T (H := [_]) _ (by rfl) (by rfl) (by rfl) (Nat.le_refl _)
  | some p =>
    rw [hc] at h104
    repeat' first | refine CX_rd [0] (h104) (by rfl) (by rfl) (by rfl) (by rfl) (by rfl) (by decide) (by rfl) (by rfl) (by rfl) ?_ | refine CX_rd [0] (c302_ok) (by rfl) (by rfl) (by rfl) (by rfl) (by rfl) (by decide) (by rfl) (by rfl) (by rfl) ?_ | (with_reducible intro h; try simp only [h]) | (with_reducible refine And.intro ?_ ?_) | (change chk _ _ = true; rfl) | simp only [go_sem, seval, Vc_bool, oPk_some] | refine (GX_split rfl).2 ?_
    · have e : shSt s = ⟨1, 0, msgOf s p⟩ := by rw [shSt, hc]; simp only; rw [if_pos (by simpa using h)]
      rw [e]
      exact Rt_T (H := [_]) _ (by rfl) (by rfl) (by rfl) (Nat.le_refl _)
    · have e : shSt s = ⟨2, 0, Frame.zero⟩ := by rw [shSt, hc]; simp only; rw [if_neg (by simpa using h)]
      rw [e]
      exact Rt_T (H := [_]) _ (by rfl) (by rfl) (by rfl) (Nat.le_refl _)
theorem c97_1 {s : Station} {slot : Int} {c : TCell} {a : Action} (hk : c.kind = 1) (hg : ACalls prog 192 [.ptr 0 0 0 0] [.cells 0 21 176 true [wEnc s slot c]] (.agg a.enc) [.cells 0 21 176 true [wEnc s slot c]]) :
    ACalls prog 97 [.ptr 0 0 0 0] [.cells 0 21 176 true [wEnc s slot c]] (.agg (offd a c).enc) [.cells 0 21 176 true [wEnc s slot c]] := by
  rcases c with ⟨cs, co, ck, cd, cp, cf⟩
  obtain rfl : ck = 1 := hk
  refine calls_of hmx func97 (by kernel_rfl) (c := f97.body.getD .skip) rfl e97 (rs := [(.cell 2 true 14)]) (by kernel_rfl) (by simp [ntmps97]) ?_
  simp only [c97, argS]
  simp only [go_sem, seval]
  repeat' first | refine CX_rd [0] (hg) (by rfl) (by rfl) (by rfl) (by rfl) (by rfl) (by decide) (by rfl) (by rfl) (by rfl) ?_ | (with_reducible intro h; try simp only [h]) | (with_reducible refine And.intro ?_ ?_) | (change chk _ _ = true; rfl) | simp only [go_sem, seval, Vc_bool, mapSet_cons, mapSet_nil, mapAt_cons, mapAt_nil] | refine (GX_split rfl).2 ?_
  · have e : offd a ⟨cs, co, 1, cd, cp, cf⟩ = { a with off := co } := by rw [offd, if_neg (by simpa using h)]
    rw [e]
    exact Rt_T (H := [_]) _ (by rfl) (by rfl) (by rfl) (Nat.le_refl _)
  · have e : offd a ⟨cs, co, 1, cd, cp, cf⟩ = a := by rw [offd, if_pos (by simpa using h)]
    rw [e]
    exact Rt_T (H := [_]) _ (by rfl) (by rfl) (by rfl) (Nat.le_refl _)
theorem c97_3 {s : Station} {slot : Int} {c : TCell} {a : Action} (hk : c.kind = 3) (hg : ACalls prog 194 [.ptr 0 0 0 0] [.cells 0 21 176 true [wEnc s slot c]] (.agg a.enc) [.cells 0 21 176 true [wEnc s slot c]]) :
    ACalls prog 97 [.ptr 0 0 0 0] [.cells 0 21 176 true [wEnc s slot c]] (.agg (offd a c).enc) [.cells 0 21 176 true [wEnc s slot c]] := by
  rcases c with ⟨cs, co, ck, cd, cp, cf⟩
  obtain rfl : ck = 3 := hk
  refine calls_of hmx func97 (by kernel_rfl) (c := f97.body.getD .skip) rfl e97 (rs := [(.cell 2 true 14)]) (by kernel_rfl) (by simp [ntmps97]) ?_
  simp only [c97, argS]
  simp only [go_sem, seval]
  repeat' first | refine CX_rd [0] (hg) (by rfl) (by rfl) (by rfl) (by rfl) (by rfl) (by decide) (by rfl) (by rfl) (by rfl) ?_ | (with_reducible intro h; try simp only [h]) | (with_reducible refine And.intro ?_ ?_) | (change chk _ _ = true; rfl) | simp only [go_sem, seval, Vc_bool, mapSet_cons, mapSet_nil, mapAt_cons, mapAt_nil] | refine (GX_split rfl).2 ?_
  · have e : offd a ⟨cs, co, 3, cd, cp, cf⟩ = { a with off := co } := by rw [offd, if_neg (by simpa using h)]
    rw [e]
    exact Rt_T (H := [_]) _ (by rfl) (by rfl) (by rfl) (Nat.le_refl _)
  · have e : offd a ⟨cs, co, 3, cd, cp, cf⟩ = a := by rw [offd, if_pos (by simpa using h)]
    rw [e]
    exact Rt_T (H := [_]) _ (by rfl) (by rfl) (by rfl) (Nat.le_refl _)
theorem c97_0 {s : Station} {slot : Int} {c : TCell} (hk : c.kind = 0) :
    ACalls prog 97 [.ptr 0 0 0 0] [.cells 0 21 176 true [wEnc s slot c]] (.agg Action.zero.enc) [.cells 0 21 176 true [wEnc s slot c]] := by
  rcases c with ⟨cs, co, ck, cd, cp, cf⟩
  obtain rfl : ck = 0 := hk
  refine calls_of hmx func97 (by kernel_rfl) (c := f97.body.getD .skip) rfl e97 (rs := [(.cell 2 true 14)]) (by kernel_rfl) (by simp [ntmps97]) ?_
  simp only [c97, argS]
  simp only [go_sem, seval]
  repeat' first | (with_reducible intro h; try simp only [h]) | (with_reducible refine And.intro ?_ ?_) | (change chk _ _ = true; rfl) | simp only [go_sem, seval, Vc_bool, mapSet_cons, mapSet_nil, mapAt_cons, mapAt_nil] | refine (GX_split rfl).2 ?_
  all_goals exact Rt_T (H := [_]) _ (by rfl) (by rfl) (by rfl) (Nat.le_refl _)

end Go.Av.T
set_option maxRecDepth 100000
set_option maxHeartbeats 1000000
set_option linter.unusedSimpArgs false
set_option linter.unusedVariables false
namespace Go.Av.T
open Go Go.Av Go.Av.Sp Go.Proofs.Tryz
theorem chainE_mem {α : Type} {err : α → Int} {lt : α → α → Bool} {e : Int} (he : e ≠ 0) : ∀ (xs : List α) (p : Option α), chainE err lt e p xs = 0 → ∀ x ∈ xs, err x = 0
  | [], _, _, x, hx => by cases hx
  | y :: ys, p, h, x, hx => by
    have key : err y = 0 ∧ chainE err lt e (some y) ys = 0 := by
      cases p with
      | none =>
        simp only [chainE, Bool.false_eq_true, if_false] at h
        split at h
        · rename_i h1; exact absurd h h1
        · rename_i h1; exact ⟨by simpa using h1, h⟩
      | some p =>
        simp only [chainE] at h
        split at h
        · rename_i h1; exact absurd h h1
        · rename_i h1
          split at h
          · exact absurd h he
          · exact ⟨by simpa using h1, h⟩
    rcases List.mem_cons.1 hx with rfl | hx
    · exact key.1
    · exact chainE_mem he ys (some y) key.2 x hx
theorem cell_kind {t : Table} {c : TCell} (h : tabErr t = 0) (hc : c ∈ t.cells) : c.kind = 1 ∨ c.kind = 2 ∨ c.kind = 3 := by
  unfold tabErr at h
  split at h
  · cases h
  · split at h
    · cases h
    · have h1 := chainE_mem (by decide) _ _ h c hc
      unfold cellErr at h1
      split at h1
      · cases h1
      · rename_i h2
        simp only [Bool.or_eq_true, decide_eq_true_eq, not_or] at h2
        omega
theorem slot0 {s : Station} {slot : Int} (h : slotErr s slot = 0) : stOk s = true ∧ 0 ≤ slot ∧ slot ≤ 109951162 ∧ tabErr s.tab = 0 ∧ qErr s.q = 0 := by
  unfold slotErr at h
  split at h
  · cases h
  · split at h
    · cases h
    · rename_i h1 h2
      have h3 : stOk s = true := by simpa using h1
      simp only [Bool.or_eq_true, decide_eq_true_eq, not_or] at h2
      have h4 := h3
      simp only [stOk, pksOk, Bool.and_eq_true, decide_eq_true_eq] at h4
      exact ⟨h3, by omega, by omega, h4.1.1.1.1.1.1.1.1.1, h4.1.1.1.1.1.1.1.1.2.1⟩
theorem tabAt_mem {t : Table} {slot : Int} {c : TCell} (h : tabAt t slot = some c) : c ∈ t.cells := by
  unfold tabAt at h
  split at h
  · cases h
  · exact List.mem_of_find?_eq_some h
/-- What a station does, by its cell. -/
theorem plan_act {s : Station} {slot : Int} {c : TCell} (h : tabAt s.tab slot = some c) : (plan s slot).act = if c.kind = 1 then offd (ctlSt s slot c) c else if c.kind = 2 then offd (agSt s c) c else if c.kind = 3 then offd (shSt s) c else ⟨2, c.off, Frame.zero⟩ := by
  have hm : ∀ (l : List Int), (l.any fun y => decide (c.peer = y)) = true ↔ c.peer ∈ l := by intro l; simp [List.any_eq_true]
  by_cases h1 : c.kind = 1
  · by_cases hs : c.send = true
    · cases hh : heldOf s.held c.flow with
      | none => simp [plan, h, h1, hs, hh, offd, ctlSt, Action.zero]
      | some x => by_cases hx : x.upto < slot ∨ c.peer ∈ x.acked <;> simp [plan, h, h1, hs, hh, hm, hx, offd, ctlSt, Action.zero]
    · have hs' : c.send = false := by simpa using hs
      simp [plan, h, h1, hs', offd, ctlSt]
  · by_cases h2 : c.kind = 2
    · by_cases hs : c.send = true
      · cases hh : qFirst s.q c.peer with
        | none => simp [plan, h, h2, hs, hh, offd, agSt, Action.zero]
        | some x => simp [plan, h, h2, hs, hh, offd, agSt]
      · have hs' : c.send = false := by simpa using hs
        simp [plan, h, h2, hs', offd, agSt]
    · by_cases h3 : c.kind = 3
      · cases hh : candidate s with
        | none => simp [plan, h, h3, hh, offd, shSt]
        | some x => by_cases hx : s.wait = 0 <;> simp [plan, h, h3, hh, hx, offd, shSt]
      · simp [plan, h, h1, h2, h3]
theorem c25_act {s : Station} {slot : Int} (hB : ClBd s) : ACalls prog 25 [.agg s.enc, .int .i64 slot] [] (.tup [.agg (actSt s slot).1.enc, .int .i64 (actSt s slot).2]) [] := by
  have hst := hB.st
  have h := c25_of (a := (plan s slot).act) hB (slot := slot) (fun hE => by
    obtain ⟨g1, g2, g3, g4, g5⟩ := slot0 hE
    cases hc : tabAt s.tab slot with
    | none =>
      have e1 : cellAt s slot = TCell.zero := by rw [cellAt, hc]; rfl
      have e2 : (plan s slot).act = Action.zero := by simp only [plan, hc]
      rw [e1, e2]
      exact c97_0 rfl
    | some c =>
      have e1 : cellAt s slot = c := by rw [cellAt, hc]; rfl
      rw [e1, plan_act hc]
      rcases cell_kind g4 (tabAt_mem hc) with hk | hk | hk
      · rw [if_pos hk]
        exact c97_1 hk (c192_ok hst.2.2.1 hst.2.2.2.1)
      · rw [if_neg (by omega), if_pos hk]
        exact c97_2 hk (c193_ok hst.2.1)
      · rw [if_neg (by omega), if_neg (by omega), if_pos hk]
        exact c97_3 hk (c194_ok hst.1 hst.2.1))
  have e : actSt s slot = (if slotErr s slot = 0 then (plan s slot).act else Action.zero, slotErr s slot) := by
    unfold actSt
    by_cases h0 : slotErr s slot = 0
    · rw [if_neg (by simpa using h0), if_pos h0, h0]
    · rw [if_pos h0, if_neg h0]
  rw [e]
  exact h

end Go.Av.T
