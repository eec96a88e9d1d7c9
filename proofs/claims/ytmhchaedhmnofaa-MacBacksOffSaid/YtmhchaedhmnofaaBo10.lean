/- The seat: part Bo10. -/
import Derived.Test.YtmhchaedhmnofaaBo9
import Derived.KernelRfl
import Derived.Test.YtmhchaedhmnofaaBo7
set_option maxRecDepth 100000
set_option maxHeartbeats 1000000
set_option linter.unusedSimpArgs false
set_option linter.unusedVariables false
namespace Go.Av.T
open Go Go.Av Go.Av.Sp Go.Proofs.Try
theorem c192n_ok {s : Station} {slot : Int} {c : TCell} (hs : c.send = false) : ACalls prog 44 [.ptr 0 0 0 0] [.cells 0 21 77 true [wEncN s 1 slot c], .cells 1 2 102 false (s.seen.map Seen.enc)] (.agg (Action.enc ⟨2, 0, Frame.zero⟩)) [.cells 0 21 77 true [wEncN s 1 slot c], .cells 1 2 102 false (s.seen.map Seen.enc)] := by
  rcases c with ⟨cs, co, ck, cd, cp, cf⟩
  obtain rfl : cd = false := hs
  refine calls_of hmx func44 (by kernel_rfl) (c := f44.body.getD .skip) rfl e192 (rs := [(.cell 2 true 14)]) (by kernel_rfl) (by simp [ntmps44]) ?_
  simp only [c192, argS]
  simp only [go_sem, seval]
  exact Rt_T (H := [_, _]) _ (by rfl) (by rfl) (by rw [List.all_cons, List.all_cons, List.all_nil, Bool.and_true, lt_seen, Bool.and_true]; rfl) (Nat.le_refl _)
theorem c194n_ok {s : Station} {slot : Int} {c : TCell} (hC : s.tab.cells.length < 2 ^ 62) (hL : s.q.pk.length < 2 ^ 62) (hw : candidate s = none ∨ s.wait ≠ 0) : ACalls prog 46 [.ptr 0 0 0 0] [.cells 0 21 77 true [wEncN s 1 slot c], .cells 1 2 102 false (s.seen.map Seen.enc)] (.agg (Action.enc ⟨2, 0, Frame.zero⟩)) [.cells 0 21 77 true [wEncN s 1 slot c], .cells 1 2 102 false (s.seen.map Seen.enc)] := by
  have h104 := c104n_ok (s := s) (slot := slot) (c := c) hC hL
  refine calls_of hmx func46 (by kernel_rfl) (c := f46.body.getD .skip) rfl e194 (rs := [(.cell 2 true 14)]) (by kernel_rfl) (by simp [ntmps46]) ?_
  simp only [c194, argS]
  cases hc : candidate s with
  | none =>
    rw [hc] at h104
    repeat' first | refine CX_rd [0, 1] (h104) (by rfl) (by rfl) (by rfl) (by rw [List.all_cons, List.all_cons, List.all_nil, Bool.and_true, lt_seen, Bool.and_true]; rfl) (by rfl) (by decide) (by rfl) (by rw [List.map_cons, List.map_cons, List.map_nil, List.map_cons, List.map_cons, List.map_nil, ren_seen]; rfl) (by rfl) ?_ | (with_reducible intro h; try simp only [h]) | (with_reducible refine And.intro ?_ ?_) | (change chk _ _ = true; rfl) | simp only [go_sem, seval, Vc_bool, oPk_none] | refine (GX_split rfl).2 ?_
    exact Rt_T (H := [_, _]) _ (by rfl) (by rfl) (by rw [List.all_cons, List.all_cons, List.all_nil, Bool.and_true, lt_seen, Bool.and_true]; rfl) (Nat.le_refl _)
  | some p =>
    rw [hc] at h104
    have hw' : decide (s.wait = 0) = false := by simpa [hc] using hw
    repeat' first | refine CX_rd [0, 1] (h104) (by rfl) (by rfl) (by rfl) (by rw [List.all_cons, List.all_cons, List.all_nil, Bool.and_true, lt_seen, Bool.and_true]; rfl) (by rfl) (by decide) (by rfl) (by rw [List.map_cons, List.map_cons, List.map_nil, List.map_cons, List.map_cons, List.map_nil, ren_seen]; rfl) (by rfl) ?_ | (with_reducible intro h; try simp only [h]) | (with_reducible refine And.intro ?_ ?_) | (change chk _ _ = true; rfl) | simp only [go_sem, seval, Vc_bool, oPk_some, hw'] | refine (GX_split rfl).2 ?_
    exact Rt_T (H := [_, _]) _ (by rfl) (by rfl) (by rw [List.all_cons, List.all_cons, List.all_nil, Bool.and_true, lt_seen, Bool.and_true]; rfl) (Nat.le_refl _)
theorem c97n_1 {s : Station} {slot : Int} {c : TCell} (hk : c.kind = 1) (hs : c.send = false) :
    ACalls prog 19 [.ptr 0 0 0 0] [.cells 0 21 77 true [wEncN s 1 slot c], .cells 1 2 102 false (s.seen.map Seen.enc)] (.agg (Action.enc ⟨2, c.off, Frame.zero⟩)) [.cells 0 21 77 true [wEncN s 1 slot c], .cells 1 2 102 false (s.seen.map Seen.enc)] := by
  have hg := c192n_ok (s := s) (slot := slot) hs
  rcases c with ⟨cs, co, ck, cd, cp, cf⟩
  obtain rfl : ck = 1 := hk
  obtain rfl : cd = false := hs
  refine calls_of hmx func19 (by kernel_rfl) (c := f19.body.getD .skip) rfl e97 (rs := [(.cell 2 true 14)]) (by kernel_rfl) (by simp [ntmps19]) ?_
  simp only [c97, argS]
  simp only [go_sem, seval]
  repeat' first | refine CX_rd [0, 1] (hg) (by rfl) (by rfl) (by rfl) (by rw [List.all_cons, List.all_cons, List.all_nil, Bool.and_true, lt_seen, Bool.and_true]; rfl) (by rfl) (by decide) (by rfl) (by rw [List.map_cons, List.map_cons, List.map_nil, List.map_cons, List.map_cons, List.map_nil, ren_seen]; rfl) (by rfl) ?_ | (with_reducible intro h; try simp only [h]) | (with_reducible refine And.intro ?_ ?_) | (change chk _ _ = true; rfl) | simp only [go_sem, seval, Vc_bool, mapSet_cons, mapSet_nil, mapAt_cons, mapAt_nil] | refine (GX_split rfl).2 ?_
  exact Rt_T (H := [_, _]) _ (by rfl) (by rfl) (by rw [List.all_cons, List.all_cons, List.all_nil, Bool.and_true, lt_seen, Bool.and_true]; rfl) (Nat.le_refl _)
theorem c97n_3 {s : Station} {slot : Int} {c : TCell} (hC : s.tab.cells.length < 2 ^ 62) (hL : s.q.pk.length < 2 ^ 62) (hk : c.kind = 3) (hw : candidate s = none ∨ s.wait ≠ 0) :
    ACalls prog 19 [.ptr 0 0 0 0] [.cells 0 21 77 true [wEncN s 1 slot c], .cells 1 2 102 false (s.seen.map Seen.enc)] (.agg (Action.enc ⟨2, c.off, Frame.zero⟩)) [.cells 0 21 77 true [wEncN s 1 slot c], .cells 1 2 102 false (s.seen.map Seen.enc)] := by
  have hg := c194n_ok (s := s) (slot := slot) (c := c) hC hL hw
  rcases c with ⟨cs, co, ck, cd, cp, cf⟩
  obtain rfl : ck = 3 := hk
  refine calls_of hmx func19 (by kernel_rfl) (c := f19.body.getD .skip) rfl e97 (rs := [(.cell 2 true 14)]) (by kernel_rfl) (by simp [ntmps19]) ?_
  simp only [c97, argS]
  simp only [go_sem, seval]
  repeat' first | refine CX_rd [0, 1] (hg) (by rfl) (by rfl) (by rfl) (by rw [List.all_cons, List.all_cons, List.all_nil, Bool.and_true, lt_seen, Bool.and_true]; rfl) (by rfl) (by decide) (by rfl) (by rw [List.map_cons, List.map_cons, List.map_nil, List.map_cons, List.map_cons, List.map_nil, ren_seen]; rfl) (by rfl) ?_ | (with_reducible intro h; try simp only [h]) | (with_reducible refine And.intro ?_ ?_) | (change chk _ _ = true; rfl) | simp only [go_sem, seval, Vc_bool, mapSet_cons, mapSet_nil, mapAt_cons, mapAt_nil] | refine (GX_split rfl).2 ?_
  exact Rt_T (H := [_, _]) _ (by rfl) (by rfl) (by rw [List.all_cons, List.all_cons, List.all_nil, Bool.and_true, lt_seen, Bool.and_true]; rfl) (Nat.le_refl _)

theorem c28_sleep {s : Station} {slot : Int} {r : Sp.Result} {a : Action} (hB : ClBd s) (hE : slotErr s slot = 0) (hA : ACalls prog 19 [.ptr 0 0 0 0] [.cells 0 21 77 true [wEnc s slot (cellAt s slot)]] (.agg a.enc) [.cells 0 21 77 true [wEnc s slot (cellAt s slot)]])
    (ha : a.kind = 0) : ACalls prog 10 [.agg s.enc, .int .i64 slot, .agg r.enc] [] (.tup [.agg s.enc, .agg Up.zero.enc, .int .i64 0]) [] := by
  rcases a with ⟨ak, ao, ⟨fk, zf2, zf3, zf4, zf5, zf6, zf7, zf8, zf9, zf10, zf11, zf12⟩⟩
  obtain rfl : ak = 0 := ha
  refine calls_of hmx func10 (by kernel_rfl) (c := f10.body.getD .skip) rfl e28 (rs := [(.cell 6 true 14), (.cell 7 true 14), (.t 8)]) (by kernel_rfl) (by simp [ntmps10]) ?_
  simp only [c28, argS]
  repeat' first | (with_reducible intro h; try simp only [h]) | (with_reducible refine And.intro ?_ ?_) | (change chk _ _ = true; rfl) | simp only [go_sem, seval, Vc_bool] | refine (GX_split rfl).2 ?_
  refine CX_new (r1 := .tup [.ptr 4 0 0 0, .int .i64 0]) (c96_ok hB hE) rfl rfl rfl (by rfl) (by rfl) ?_
  repeat' first | refine CX_rd [4] (hA) (by rfl) (by rfl) (by rfl) (by rfl) (by rfl) (by decide) (by rfl) (by rfl) (by rfl) ?_ | (with_reducible intro h; try simp only [h]) | (with_reducible refine And.intro ?_ ?_) | (change chk _ _ = true; rfl) | simp only [go_sem, seval, Vc_bool] | refine (GX_split rfl).2 ?_
  exact Rt_pure (by rfl) (by rfl)
theorem c28_data0 {s : Station} {slot : Int} {r : Sp.Result} {a : Action} (hB : ClBd s) (hE : slotErr s slot = 0) (hA : ACalls prog 19 [.ptr 0 0 0 0] [.cells 0 21 77 true [wEnc s slot (cellAt s slot)]] (.agg a.enc) [.cells 0 21 77 true [wEnc s slot (cellAt s slot)]])
    (ha : a.kind = 1) (hf : a.fr.kind = 1) (hr : r.acked = false) : ACalls prog 10 [.agg s.enc, .int .i64 slot, .agg r.enc] [] (.tup [.agg s.enc, .agg Up.zero.enc, .int .i64 0]) [] := by
  rcases a with ⟨ak, ao, ⟨fk, zf2, zf3, zf4, zf5, zf6, zf7, zf8, zf9, zf10, zf11, zf12⟩⟩
  obtain rfl : ak = 1 := ha
  obtain rfl : fk = 1 := hf
  refine calls_of hmx func10 (by kernel_rfl) (c := f10.body.getD .skip) rfl e28 (rs := [(.cell 6 true 14), (.cell 7 true 14), (.t 8)]) (by kernel_rfl) (by simp [ntmps10]) ?_
  simp only [c28, argS]
  repeat' first | (with_reducible intro h; try simp only [h]) | (with_reducible refine And.intro ?_ ?_) | (change chk _ _ = true; rfl) | simp only [go_sem, seval, Vc_bool] | refine (GX_split rfl).2 ?_
  refine CX_new (r1 := .tup [.ptr 4 0 0 0, .int .i64 0]) (c96_ok hB hE) rfl rfl rfl (by rfl) (by rfl) ?_
  repeat' first | refine CX_rd [4] (hA) (by rfl) (by rfl) (by rfl) (by rfl) (by rfl) (by decide) (by rfl) (by rfl) (by rfl) ?_ | (with_reducible intro h; try simp only [h]) | (with_reducible refine And.intro ?_ ?_) | (change chk _ _ = true; rfl) | simp only [go_sem, seval, Vc_bool, hr] | refine (GX_split rfl).2 ?_
  exact Rt_pure (by rfl) (by rfl)
/-- The station that listens: in shared cells it waits. -/
def waited (s : Station) (c : TCell) : Station := if c.kind = 3 ∧ (candidate s).isSome = true then { s with wait := s.wait - 1 } else s
theorem c28_lis {s : Station} {slot : Int} {r : Sp.Result} {a : Action} (hB : ClBd s) (hE : slotErr s slot = 0) (hw : 0 ≤ s.wait ∧ s.wait ≤ 31) (hA : ACalls prog 19 [.ptr 0 0 0 0] [.cells 0 21 77 true [wEnc s slot (cellAt s slot)]] (.agg a.enc) [.cells 0 21 77 true [wEnc s slot (cellAt s slot)]])
    (ha : a.kind = 2) (hh : r.heard = false) : ACalls prog 10 [.agg s.enc, .int .i64 slot, .agg r.enc] [] (.tup [.agg (waited s (cellAt s slot)).enc, .agg Up.zero.enc, .int .i64 0]) [] := by
  have h96 := c96_ok hB hE
  have h104 := c104_ok (slot := slot) (c := cellAt s slot) hB.st.1 hB.st.2.1
  have w1 : IntKind.i64.wrap (s.wait - 1) = s.wait - 1 := wrap_ok (by omega) (by omega)
  revert hA h96 h104
  generalize cellAt s slot = c
  rcases c with ⟨cs, co, ck, cd, cp, cf⟩
  intro hA h96 h104
  rcases a with ⟨ak, ao, ⟨fk, zf2, zf3, zf4, zf5, zf6, zf7, zf8, zf9, zf10, zf11, zf12⟩⟩
  obtain rfl : ak = 2 := ha
  refine calls_of hmx func10 (by kernel_rfl) (c := f10.body.getD .skip) rfl e28 (rs := [(.cell 6 true 14), (.cell 7 true 14), (.t 8)]) (by kernel_rfl) (by simp [ntmps10]) ?_
  simp only [c28, argS]
  cases hc : candidate s with
  | none =>
    rw [hc] at h104
    have e : waited s ⟨cs, co, ck, cd, cp, cf⟩ = s := by simp [waited, hc]
    rw [e]
    repeat' first | (with_reducible intro h; try simp only [h]) | (with_reducible refine And.intro ?_ ?_) | (change chk _ _ = true; rfl) | simp only [go_sem, seval, Vc_bool] | refine (GX_split rfl).2 ?_
    refine CX_new (r1 := .tup [.ptr 4 0 0 0, .int .i64 0]) h96 rfl rfl rfl (by rfl) (by rfl) ?_
    repeat' first | refine CX_rd [4] (hA) (by rfl) (by rfl) (by rfl) (by rfl) (by rfl) (by decide) (by rfl) (by rfl) (by rfl) ?_ | (with_reducible intro h; try simp only [h]) | (with_reducible refine And.intro ?_ ?_) | (change chk _ _ = true; rfl) | simp only [go_sem, seval, Vc_bool] | refine (GX_split rfl).2 ?_
    repeat' first | refine CX_rd [4] (h104) (by rfl) (by rfl) (by rfl) (by rfl) (by rfl) (by decide) (by rfl) (by rfl) (by rfl) ?_ | (with_reducible intro h; try simp only [h]) | (with_reducible refine And.intro ?_ ?_) | (change chk _ _ = true; rfl) | simp only [go_sem, seval, Vc_bool, oPk_none, hh] | refine (GX_split rfl).2 ?_
    exact Rt_pure (by rfl) (by rfl)
  | some p =>
    rw [hc] at h104
    cases k3 : decide (ck = 3)
    · have e : waited s ⟨cs, co, ck, cd, cp, cf⟩ = s := by simp [waited, hc, of_decide_eq_false k3]
      rw [e]
      repeat' first | (with_reducible intro h; try simp only [h]) | (with_reducible refine And.intro ?_ ?_) | (change chk _ _ = true; rfl) | simp only [go_sem, seval, Vc_bool] | refine (GX_split rfl).2 ?_
      refine CX_new (r1 := .tup [.ptr 4 0 0 0, .int .i64 0]) h96 rfl rfl rfl (by rfl) (by rfl) ?_
      repeat' first | refine CX_rd [4] (hA) (by rfl) (by rfl) (by rfl) (by rfl) (by rfl) (by decide) (by rfl) (by rfl) (by rfl) ?_ | (with_reducible intro h; try simp only [h]) | (with_reducible refine And.intro ?_ ?_) | (change chk _ _ = true; rfl) | simp only [go_sem, seval, Vc_bool] | refine (GX_split rfl).2 ?_
      repeat' first | refine CX_rd [4] (h104) (by rfl) (by rfl) (by rfl) (by rfl) (by rfl) (by decide) (by rfl) (by rfl) (by rfl) ?_ | (with_reducible intro h; try simp only [h]) | (with_reducible refine And.intro ?_ ?_) | (change chk _ _ = true; rfl) | simp only [go_sem, seval, Vc_bool, oPk_some, hh, k3] | refine (GX_split rfl).2 ?_
      exact Rt_pure (by rfl) (by rfl)
    · have e : waited s ⟨cs, co, ck, cd, cp, cf⟩ = { s with wait := s.wait - 1 } := by simp [waited, hc, of_decide_eq_true k3]
      rw [e]
      repeat' first | (with_reducible intro h; try simp only [h]) | (with_reducible refine And.intro ?_ ?_) | (change chk _ _ = true; rfl) | simp only [go_sem, seval, Vc_bool] | refine (GX_split rfl).2 ?_
      refine CX_new (r1 := .tup [.ptr 4 0 0 0, .int .i64 0]) h96 rfl rfl rfl (by rfl) (by rfl) ?_
      repeat' first | refine CX_rd [4] (hA) (by rfl) (by rfl) (by rfl) (by rfl) (by rfl) (by decide) (by rfl) (by rfl) (by rfl) ?_ | (with_reducible intro h; try simp only [h]) | (with_reducible refine And.intro ?_ ?_) | (change chk _ _ = true; rfl) | simp only [go_sem, seval, Vc_bool] | refine (GX_split rfl).2 ?_
      repeat' first | refine CX_rd [4] (h104) (by rfl) (by rfl) (by rfl) (by rfl) (by rfl) (by decide) (by rfl) (by rfl) (by rfl) ?_ | (with_reducible intro h; try simp only [h]) | (with_reducible refine And.intro ?_ ?_) | (change chk _ _ = true; rfl) | simp only [go_sem, seval, Vc_bool, oPk_some, hh, k3, w1] | refine (GX_split rfl).2 ?_
      exact Rt_pure (by rfl) (by rfl)
theorem c28_heard3 {s s' : Station} {slot : Int} {r : Sp.Result} {a : Action} {up : Sp.Up} {p : Packet} (hB : ClBd s) (hE : slotErr s slot = 0) (hw : 0 ≤ s.wait ∧ s.wait ≤ 31) (hA : ACalls prog 19 [.ptr 0 0 0 0] [.cells 0 21 77 true [wEncN s 1 slot (cellAt s slot)], .cells 1 2 102 false (s.seen.map Seen.enc)] (.agg a.enc) [.cells 0 21 77 true [wEncN s 1 slot (cellAt s slot)], .cells 1 2 102 false (s.seen.map Seen.enc)])
    (ha : a.kind = 2) (hk : (cellAt s slot).kind = 3) (hc : candidate s = some p) (hh : r.heard = true) (h105 : ACalls prog 24 [.ptr 0 0 0 0, .agg r.fr.enc] [.cells 0 21 77 true [wEncN { s with wait := s.wait - 1 } 1 slot (cellAt s slot)], .cells 1 2 102 false (s.seen.map Seen.enc)] (.agg up.enc) [.cells 0 21 77 true [wEnc s' slot (cellAt s slot)], .dead]) :
    ACalls prog 10 [.agg s.enc, .int .i64 slot, .agg r.enc] [] (.tup [.agg s'.enc, .agg up.enc, .int .i64 0]) [] := by
  have h96 := c96n_ok hB hE
  have h104 := c104n_ok (slot := slot) (c := cellAt s slot) hB.st.1 hB.st.2.1
  have w1 : IntKind.i64.wrap (s.wait - 1) = s.wait - 1 := wrap_ok (by omega) (by omega)
  revert hA h105 h96 h104 hk
  generalize cellAt s slot = c
  rcases c with ⟨cs, co, ck, cd, cp, cf⟩
  intro hA (hk : ck = 3) h105 h96 h104
  subst hk
  rcases a with ⟨ak, ao, ⟨fk, zf2, zf3, zf4, zf5, zf6, zf7, zf8, zf9, zf10, zf11, zf12⟩⟩
  obtain rfl : ak = 2 := ha
  have hcl : ([.cells 0 21 77 true [wEncN s 1 slot ⟨cs, co, 3, cd, cp, cf⟩], .cells 1 2 102 false (s.seen.map Seen.enc)] : Heap).all (ltO 2) = true := by rw [List.all_cons, List.all_cons, List.all_nil, Bool.and_true, lt_seen, Bool.and_true]; rfl
  rw [hc] at h104
  refine calls_of hmx func10 (by kernel_rfl) (c := f10.body.getD .skip) rfl e28 (rs := [(.cell 6 true 14), (.cell 7 true 14), (.t 8)]) (by kernel_rfl) (by simp [ntmps10]) ?_
  simp only [c28, argS]
  repeat' first | (with_reducible intro h; try simp only [h]) | (with_reducible refine And.intro ?_ ?_) | (change chk _ _ = true; rfl) | simp only [go_sem, seval, Vc_bool] | refine (GX_split rfl).2 ?_
  refine CX_w [] [] (r1 := .tup [.ptr 4 0 0 0, .int .i64 0]) (H1 := [_, _, _, _, .cells 0 21 77 true [wEncN s 5 slot ⟨cs, co, 3, cd, cp, cf⟩], .cells 1 2 102 false (s.seen.map Seen.enc)]) h96 (by rfl) (by rfl) (by rfl) (by rfl) (by rfl) (by decide) (by rfl) (by rfl) (Nat.zero_le _) trivial (by rfl) (by rfl) (by show _ ++ List.map _ [_, _] = _; rw [List.map_cons, List.map_cons, List.map_nil, ren_seen]; rfl) ?_
  repeat' first | refine CX_rd [4, 5] (hA) (by rfl) (by rfl) (by rfl) (by rw [List.all_cons, List.all_cons, List.all_nil, Bool.and_true, lt_seen, Bool.and_true]; rfl) (by rfl) (by decide) (by rfl) (by rw [List.map_cons, List.map_cons, List.map_nil, List.map_cons, List.map_cons, List.map_nil, ren_seen]; rfl) (by rfl) ?_ | (with_reducible intro h; try simp only [h]) | (with_reducible refine And.intro ?_ ?_) | (change chk _ _ = true; rfl) | simp only [go_sem, seval, Vc_bool] | refine (GX_split rfl).2 ?_
  repeat' first | refine CX_rd [4, 5] (h104) (by rfl) (by rfl) (by rfl) (by rw [List.all_cons, List.all_cons, List.all_nil, Bool.and_true, lt_seen, Bool.and_true]; rfl) (by rfl) (by decide) (by rfl) (by rw [List.map_cons, List.map_cons, List.map_nil, List.map_cons, List.map_cons, List.map_nil, ren_seen]; rfl) (by rfl) ?_ | (with_reducible intro h; try simp only [h]) | (with_reducible refine And.intro ?_ ?_) | (change chk _ _ = true; rfl) | simp only [go_sem, seval, Vc_bool, oPk_some, hh, w1] | refine (GX_split rfl).2 ?_
  refine CX_put2 4 5 h105 (by rfl) (by rfl) (by rfl) (by rfl) lt_seen (by rfl) (by rfl) (by decide) (by rfl) ren_seen.symm (by rfl) (by rfl) (by rfl) ?_
  repeat' first | (with_reducible intro h; try simp only [h]) | (with_reducible refine And.intro ?_ ?_) | (change chk _ _ = true; rfl) | simp only [go_sem, seval, Vc_bool] | refine (GX_split rfl).2 ?_
  exact Rt_pure (by rfl) (by rfl)

/-! Plain laws of a station. -/
theorem two_pow {b : Int} (h : 0 ≤ b ∧ b ≤ 5) : (2 : Int) ^ b.toNat ≤ 32 := by
  have hk' : b = 0 ∨ b = 1 ∨ b = 2 ∨ b = 3 ∨ b = 4 ∨ b = 5 := by omega
  rcases hk' with h | h | h | h | h | h <;> rw [h] <;> decide
theorem st_bd {s : Station} (h : stOk s = true) : (0 ≤ s.seq ∧ s.seq ≤ 255) ∧ (0 ≤ s.tries ∧ s.tries ≤ 3) ∧ (0 ≤ s.back ∧ s.back ≤ 5) ∧ (0 ≤ s.wait ∧ s.wait ≤ 31) ∧ (0 ≤ s.seed ∧ s.seed ≤ 2147483647) := by
  simp only [stOk, wi, Bool.and_eq_true, decide_eq_true_eq] at h
  obtain ⟨⟨⟨⟨⟨⟨⟨⟨⟨h1, h2⟩, h3⟩, h4⟩, h5⟩, h6⟩, h7⟩, h8⟩, h9⟩, h10⟩ := h
  have hp := two_pow h8
  refine ⟨h7, ?_, h8, by omega, h10⟩
  simp only [tryOk, Bool.or_eq_true, Bool.and_eq_true, decide_eq_true_eq] at h5
  omega
theorem chain_pair {α : Type} {ok : α → Bool} {lt : α → α → Bool} {f : α → Int} (hlt : ∀ a b, lt a b = true → f a < f b) : ∀ (xs : List α) (p : Option α), chain ok lt p xs = true → xs.Pairwise (fun a b => f a < f b) ∧ ∀ q, p = some q → ∀ x ∈ xs, f q < f x
  | [], p, _ => ⟨.nil, by simp⟩
  | x :: xs, none, h => by
    simp only [chain, Bool.and_eq_true] at h
    obtain ⟨i1, i2⟩ := chain_pair hlt xs (some x) h.2
    exact ⟨List.pairwise_cons.2 ⟨fun y hy => i2 x rfl y hy, i1⟩, by simp⟩
  | x :: xs, some p, h => by
    simp only [chain, Bool.and_eq_true] at h
    obtain ⟨i1, i2⟩ := chain_pair hlt xs (some x) h.2
    refine ⟨List.pairwise_cons.2 ⟨fun y hy => i2 x rfl y hy, i1⟩, fun q hq y hy => ?_⟩
    cases hq
    have h3 : f p < f x := hlt p x h.1.2
    rcases List.mem_cons.1 hy with rfl | hy
    · exact h3
    · exact Int.lt_trans h3 (i2 x rfl y hy)
theorem seen_srt {s : Station} (h : stOk s = true) : s.seen.Pairwise (fun a b => a.node < b.node) := by
  simp only [stOk, Bool.and_eq_true] at h
  exact (chain_pair (f := fun x : Seen => x.node) (fun a b h => of_decide_eq_true h) _ _ h.1.1.1.1.1.1.2).1
theorem qck_nodup : ∀ (ps done : List Packet), qck done ps = 0 → ps.Pairwise (fun a b => a.id ≠ b.id) ∧ ∀ x ∈ ps, ∀ y ∈ done, y.id ≠ x.id
  | [], _, _ => ⟨.nil, by simp⟩
  | p :: ps, done, h => by
    simp only [qck] at h
    split at h
    · rename_i h1; exact absurd h h1
    · split at h
      · cases h
      · rename_i h2
        have h2' : ∀ y ∈ done, y.id ≠ p.id := fun y hy e => h2 (List.any_eq_true.2 ⟨y, hy, by simpa using e⟩)
        have h3 : qck (done ++ [p]) ps = 0 := by
          cases hl : done.getLast? with
          | none => simpa [hl] using h
          | some z =>
            rw [hl] at h
            by_cases hc : p.pri < z.pri
            · simp [hc] at h
            · simpa [hc] using h
        obtain ⟨i1, i2⟩ := qck_nodup ps (done ++ [p]) h3
        refine ⟨List.pairwise_cons.2 ⟨fun y hy => i2 y hy p (by simp), i1⟩, fun x hx y hy => ?_⟩
        rcases List.mem_cons.1 hx with rfl | hx
        · exact h2' y hy
        · exact i2 x hx y (by simp [hy])
theorem q_nodup {q : Queue} (h : qErr q = 0) : q.pk.Pairwise (fun a b => a.id ≠ b.id) := by
  unfold qErr at h
  split at h
  · cases h
  · split at h
    · cases h
    · exact (qck_nodup _ _ h).1
theorem without_erase : ∀ {l : List Packet}, l.Pairwise (fun a b => a.id ≠ b.id) → ∀ {i : Nat} {p : Packet}, l[i]? = some p → qWithout l p.id = l.eraseIdx i
  | [], _, i, p, h => by simp at h
  | x :: xs, hp, i, p, h => by
    obtain ⟨h1, h2⟩ := List.pairwise_cons.1 hp
    cases i with
    | zero =>
      simp only [List.getElem?_cons_zero, Option.some.injEq] at h
      subst h
      have : List.filter (fun y : Packet => !decide (y.id = x.id)) xs = xs := List.filter_eq_self.2 fun y hy => by have := h1 y hy; simp; exact fun e => this e.symm
      simp [qWithout, this]
    | succ i =>
      rw [List.getElem?_cons_succ] at h
      have hx : x.id ≠ p.id := h1 p (List.mem_of_getElem? h)
      have ih := without_erase h2 h
      simp only [qWithout] at ih ⊢
      rw [List.filter_cons_of_pos (by simpa using hx), ih, List.eraseIdx_cons_succ]
theorem leave_at {s : Station} {i : Nat} {p : Packet} (h0 : qErr s.q = 0) (hi : s.q.pk[i]? = some p) : leave s p.id = leaveAt s i := by
  simp only [leave, leaveAt, without_erase (q_nodup h0) hi]
theorem sent_at {s : Station} {i : Nat} {p : Packet} {b acked : Bool} (h0 : qErr s.q = 0) (hi : s.q.pk[i]? = some p) : sentPk s b p acked = sentAt s b p i acked := by
  simp only [sentPk, sentAt, leave_at h0 hi]
theorem tw_len {α : Type} (p : α → Bool) : ∀ (l : List α), l.take (l.takeWhile p).length = l.takeWhile p ∧ l.drop (l.takeWhile p).length = l.dropWhile p
  | [] => ⟨rfl, rfl⟩
  | x :: xs => by
    obtain ⟨h1, h2⟩ := tw_len p xs
    by_cases h : p x = true
    · simp [List.takeWhile_cons, List.dropWhile_cons, h, h1, h2]
    · simp [List.takeWhile_cons, List.dropWhile_cons, h]
/-- A place for an element in a sorted list: it takes the place of its like, or is put in. -/
def putSrt {α : Type} (f : α → Int) (l : List α) (x : α) : List α := if bsHit (fun y : α => cmp (f y) (f x)) l = true then l.set (bsLo (fun y : α => cmp (f y) (f x)) l) x else l.take (bsLo (fun y : α => cmp (f y) (f x)) l) ++ x :: l.drop (bsLo (fun y : α => cmp (f y) (f x)) l)
def putFil {α : Type} (f : α → Int) (l : List α) (x : α) : List α := l.takeWhile (fun y => decide (f y < f x)) ++ x :: (l.dropWhile (fun y => decide (f y < f x))).filter fun y => !decide (f y = f x)
theorem put_srt {α : Type} {f : α → Int} {x : α} : ∀ {l : List α}, l.Pairwise (fun a b => f a < f b) → putSrt f l x = putFil f l x
  | [], _ => rfl
  | y :: ys, hp => by
    obtain ⟨h1, h2⟩ := List.pairwise_cons.1 hp
    have ih := put_srt (x := x) h2
    by_cases c : f y < f x
    · have e1 : bsLo (fun y : α => cmp (f y) (f x)) (y :: ys) = bsLo (fun y : α => cmp (f y) (f x)) ys + 1 := by rw [bsLo, List.takeWhile_cons, if_pos (by simpa [cmp_lt] using c)]; rfl
      have e2 : bsHit (fun y : α => cmp (f y) (f x)) (y :: ys) = bsHit (fun y : α => cmp (f y) (f x)) ys := by rw [bsHit, e1, List.getElem?_cons_succ]; rfl
      have e3 : putSrt f (y :: ys) x = y :: putSrt f ys x := by
        simp only [putSrt, e1, e2, List.set_cons_succ, List.take_succ_cons, List.drop_succ_cons]
        split <;> rfl
      rw [e3, ih]
      simp [putFil, List.takeWhile_cons, List.dropWhile_cons, c]
    · have e1 : bsLo (fun y : α => cmp (f y) (f x)) (y :: ys) = 0 := by rw [bsLo, List.takeWhile_cons, if_neg (by simpa [cmp_lt] using c)]; rfl
      have e2 : bsHit (fun y : α => cmp (f y) (f x)) (y :: ys) = decide (cmp (f y) (f x) = 0) := by rw [bsHit, e1, List.getElem?_cons_zero]
      have e4 : List.filter (fun z : α => !decide (f z = f x)) ys = ys := List.filter_eq_self.2 fun z hz => by have := h1 z hz; simp; omega
      simp only [putSrt, e1, e2]
      by_cases c2 : f y = f x
      · simp [putFil, cmp_eq, c2, List.takeWhile_cons, List.dropWhile_cons, e4]
      · simp [putFil, cmp_eq, c2, c, List.takeWhile_cons, List.dropWhile_cons, e4]
/-- The messages held, with one more acknowledged. -/
def ackH (l : List Held) (flow peer : Int) : List Held := match heldOf l flow with | some h => l.set (heldIdx l flow).toNat { h with acked := insertInt h.acked peer } | none => l
/-- The station behind a slot, and what it got. -/
def doneP (s : Station) (slot : Int) (r : Sp.Result) : Station × Sp.Up :=
  let x := plan s slot
  if x.act.kind = 1 then
    match x.pk with
    | some p => (sentPk s (decide (x.cell.kind = 3)) p r.acked, Up.zero)
    | none => (if r.acked = true then { s with held := ackH s.held x.cell.flow x.cell.peer } else s, Up.zero)
  else if x.act.kind = 2 then
    let s' := match x.pk with
      | some _ => { s with wait := s.wait - 1 }
      | none => s
    if r.heard = true then gotFr s' r.fr else (s', Up.zero)
  else (s, Up.zero)
def doneE (s : Station) (slot : Int) (r : Sp.Result) : Station × Sp.Up × Int :=
  if slotErr s slot ≠ 0 then (Station.zero, Up.zero, slotErr s slot) else ((doneP s slot r).1, (doneP s slot r).2, 0)

/-! The held messages in an object of their own, and the nodes that acknowledged one of them. -/
def hEncR (id : Nat) (h : Held) : List AVal := [.int .i64 h.flow, .int .i64 h.frame, .int .i64 h.upto, .str h.data, .row id 1 0 h.acked.length]
def heldR (l : List Held) (j id : Nat) (x : Held) : List (List AVal) := (l.map Held.enc).set j (hEncR id x)
section
variable {l : List Held} {j id : Nat} {x : Held}
theorem heldR_len : (heldR l j id x).length = l.length := by simp [heldR]
theorem heldR_j (hx : l[j]? = some x) : (heldR l j id x)[j]? = some (hEncR id x) := by
  have hj := (List.getElem?_eq_some_iff.1 hx).1
  simp [heldR, hj]
theorem heldR_ne {k : Nat} {y : Held} (h : l[k]? = some y) (hne : k ≠ j) : (heldR l j id x)[k]? = some y.enc := by
  rw [heldR, List.getElem?_set_ne (fun e => hne e.symm), List.getElem?_map, h]; rfl
theorem heldR_set {a : List Int} (hx : l[j]? = some x) : (heldR l j id x).set j [.int .i64 x.flow, .int .i64 x.frame, .int .i64 x.upto, .str x.data, .sl 1 (a.map eI)] = (l.set j { x with acked := a }).map Held.enc := by
  rw [heldR, List.set_set, List.map_set]; rfl
theorem ren_heldR {r : Nat → Nat} {q : Nat} {fu : Bool} : renO r (.cells q 5 75 fu (heldR l j id x)) = .cells q 5 75 fu (heldR l j (r id) x) := by
  have h : renO r (.cells q 5 75 fu (l.map Held.enc)) = .cells q 5 75 fu (l.map Held.enc) := renO_lt (m := 0) (fun id h => by omega) (lt_map fun _ => by rfl)
  simp only [renO, AObj.cells.injEq, true_and] at h ⊢
  rw [heldR, List.map_set, h]
  rfl
theorem lt_heldR {m q : Nat} {fu : Bool} (hm : id < m) : ltO m (.cells q 5 75 fu (heldR l j id x)) = true := by
  simp only [ltO]
  refine List.all_eq_true.2 fun e he => ?_
  rcases List.mem_or_eq_of_mem_set he with h | h
  · have : (l.map Held.enc).all (ltL m) = true := lt_map fun _ => by rfl
    exact List.all_eq_true.1 this e h
  · subst h
    simp [hEncR, ltL, ltv, hm]
end
theorem lt_ack {l : List Int} {m q : Nat} {fu : Bool} : ltO m (.cells q 1 3 fu (l.map eI)) = true := ltO_mono (Nat.zero_le m) (lt_map fun _ => by rfl)
theorem ren_ack {l : List Int} {r : Nat → Nat} {q : Nat} {fu : Bool} : renO r (.cells q 1 3 fu (l.map eI)) = .cells q 1 3 fu (l.map eI) := renO_lt (m := 0) (fun id h => by omega) lt_ack
attribute [go_sem] hEncR heldR_len
def wEncH (s : Station) (id : Nat) (slot : Int) (c : TCell) : List AVal := [.int .i64 s.tab.node, .int .i64 s.tab.len, .sl 6 (s.tab.cells.map TCell.enc), .int .i64 s.q.limit, .sl 6 (s.q.pk.map Packet.enc), .row id 1 0 s.held.length, .sl 2 (s.seen.map Seen.enc), .int .i64 s.list, .int .i64 s.seq, .int .i64 s.trying, .int .i64 s.tries, .int .i64 s.back, .int .i64 s.wait, .int .i64 s.seed, .int .i64 slot, .int .i64 c.slot, .int .i64 c.off, .int .i64 c.kind, .bool c.send, .int .i64 c.peer, .int .i64 c.flow]
attribute [go_sem] wEncH Station.encH
theorem l152h2 (s : Station) (j : Nat) (x : Held) (hL : s.held.length < 2 ^ 62) (hA : ∀ h ∈ s.held, h.acked.length * 8 ≤ 140737488355328) (hr : AVal) (Hr : Heap) (k' : List It)
    (hk : ∀ zs, get zs 1 = .ptr 0 0 0 0 → get zs 2 = .ptr 1 0 0 0 → V prog f16.ntmps 0 (Ret [.cell 2 true 14] 0 hr Hr) k' zs [.cells 0 14 35 true [Station.encH s 2 s.held.length], .cells 0 14 35 true [zSt], .cells 1 5 75 false (heldR s.held j 3 x), .cells 1 1 3 false (x.acked.map eI)]) :
    ∀ (rest done : List Held), s.held = done ++ rest → j < done.length →
    Lp prog f16.ntmps 0 (Ret [.cell 2 true 14] 0 hr Hr) c152L1 (.blk 0 :: k') [(1, .ptr 0 0 0 0), (2, .ptr 1 0 0 0), (26, .int .i64 s.held.length), (27, .int .i64 done.length)] [.cells 0 14 35 true [Station.encH s 2 s.held.length], .cells 0 14 35 true [zSt], .cells 1 5 75 false (heldR s.held j 3 x), .cells 1 1 3 false (x.acked.map eI)] := by
  intro rest
  induction rest with
  | nil =>
    intro done hd hj
    refine Lp.of_eq hmx c152L1.eq_1 ?_
    have h1 := rg_end hd
    simp only [go_sem, seval, h1, List.length_map]
    exact hk _ (by rfl) (by rfl)
  | cons c rest ih =>
    intro done hd hj
    refine Lp.of_eq hmx c152L1.eq_1 ?_
    obtain ⟨h1, h2, h3, h4⟩ := rg_hd Held.enc hd hL
    have h2' : (heldR s.held j 3 x)[done.length]? = some (Held.enc c) := heldR_ne (by rw [hd]; simp) (by omega)
    have hAc := hA c (by rw [hd]; simp)
    have ih' := ih _ h4 (by simp; omega)
    have hlt : done.length < s.held.length := by rw [hd]; simp
    simp only [go_sem, seval, h1, h2', h3, Int.toNat_natCast, Int.natCast_nonneg, hlt, Nat.zero_add]
    refine ⟨Int.ofNat_lt.2 hlt, ?_⟩
    refine CX_pure (c153_ok hAc) rfl rfl rfl rfl ?_
    have hse : (heldR s.held j 3 x).set done.length [.int .i64 c.flow, .int .i64 c.frame, .int .i64 c.upto, .str c.data, .sl 1 (c.acked.map eI)] = heldR s.held j 3 x := set_same h2'
    simp only [go_sem, seval, h1, h2', h3, Int.toNat_natCast, Int.natCast_nonneg, hlt, Nat.zero_add, hse]
    refine ⟨Int.ofNat_lt.2 hlt, by rfl, ?_⟩
    exact Lp.bkE0 ih' (by rfl) rfl
theorem l152h (s : Station) (j : Nat) (x : Held) (hx : s.held[j]? = some x) (hL : s.held.length < 2 ^ 62) (hA : ∀ h ∈ s.held, h.acked.length * 8 ≤ 140737488355328) (hr : AVal) (Hr : Heap) (k' : List It)
    (hk : ∀ zs, get zs 1 = .ptr 0 0 0 0 → get zs 2 = .ptr 1 0 0 0 → V prog f16.ntmps 0 (Ret [.cell 2 true 14] 0 hr Hr) k' zs [.cells 0 14 35 true [Station.encH s 2 s.held.length], .cells 0 14 35 true [zSt], .cells 1 5 75 false (heldR s.held j 3 x), .cells 1 1 3 false (x.acked.map eI)]) :
    ∀ (rest done : List Held), s.held = done ++ rest → done.length ≤ j →
    Lp prog f16.ntmps 0 (Ret [.cell 2 true 14] 0 hr Hr) c152L1 (.blk 0 :: k') [(1, .ptr 0 0 0 0), (2, .ptr 1 0 0 0), (26, .int .i64 s.held.length), (27, .int .i64 done.length)] [.cells 0 14 35 true [Station.encH s 2 s.held.length], .cells 0 14 35 true [zSt], .cells 1 5 75 false (s.held.map Held.enc)] := by
  have hjl := (List.getElem?_eq_some_iff.1 hx).1
  intro rest
  induction rest with
  | nil =>
    intro done hd hj
    have : s.held.length = done.length := by rw [hd]; simp
    omega
  | cons c rest ih =>
    intro done hd hj
    refine Lp.of_eq hmx c152L1.eq_1 ?_
    obtain ⟨h1, h2, h3, h4⟩ := rg_hd Held.enc hd hL
    have hAc := hA c (by rw [hd]; simp)
    have hlt : done.length < s.held.length := by rw [hd]; simp
    have hc : s.held[done.length]? = some c := by rw [hd]; simp
    simp only [go_sem, seval, h1, h2, h3, Int.toNat_natCast, Int.natCast_nonneg, List.length_map, hlt, Nat.zero_add]
    refine ⟨Int.ofNat_lt.2 hlt, ?_⟩
    rcases Nat.lt_or_eq_of_le hj with hj' | hj'
    · have ih' := ih _ h4 (by simp; omega)
      refine CX_pure (c153_ok hAc) rfl rfl rfl rfl ?_
      have hse : (s.held.map Held.enc).set done.length [.int .i64 c.flow, .int .i64 c.frame, .int .i64 c.upto, .str c.data, .sl 1 (c.acked.map eI)] = s.held.map Held.enc := set_same h2
      simp only [go_sem, seval, h1, h2, h3, Int.toNat_natCast, Int.natCast_nonneg, List.length_map, hlt, Nat.zero_add, hse]
      refine ⟨Int.ofNat_lt.2 hlt, by rfl, ?_⟩
      exact Lp.bkE0 ih' (by rfl) rfl
    · have hcx : c = x := by rw [hj', hx] at hc; injection hc with hc; exact hc.symm
      subst hcx
      have l2 := l152h2 s j c hL hA hr Hr k' hk rest (done ++ [c]) h4 (by simp; omega)
      refine CX_new (r1 := .row 3 1 0 c.acked.length) (c153w_ok hAc) rfl rfl rfl (by rw [List.all_cons, List.all_nil, Bool.and_true]; exact lt_ack) (by rfl) ?_
      have hse : (s.held.map Held.enc).set done.length [.int .i64 c.flow, .int .i64 c.frame, .int .i64 c.upto, .str c.data, .row 3 1 0 c.acked.length] = heldR s.held j 3 c := by rw [hj']; rfl
      simp only [go_sem, seval, h1, h2, h3, Int.toNat_natCast, Int.natCast_nonneg, List.length_map, hlt, Nat.zero_add, hse]
      refine ⟨Int.ofNat_lt.2 hlt, by rfl, ?_⟩
      exact Lp.bkE0 l2 (by rfl) rfl
/-- Clone, of which the held messages are wanted for writing, and the nodes that acknowledged one of them. -/
theorem c152h_ok {s : Station} {j : Nat} {x : Held} (hB : ClBd s) (hx : s.held[j]? = some x) : ACalls prog 16 [.agg s.enc] [] (.agg (Station.encH s 0 s.held.length)) [.cells 1 5 75 false (heldR s.held j 1 x), .cells 1 1 3 false (x.acked.map eI)] := by
  obtain ⟨b1, b2, b3, b4, b5⟩ := hB
  refine calls_of hmx func16 (by kernel_rfl) (c := f16.body.getD .skip) rfl e152 (rs := [(.cell 2 true 14)]) (by kernel_rfl) (by simp [ntmps16]) ?_
  simp only [c152, argS]
  simp only [go_sem, seval]
  repeat' first | refine CX_pure (c82_ok b1) rfl rfl rfl rfl ?_ | refine GX_call (fun _ => (c82_ok b1)) (by rfl) (by intro h; simp only [h]; rfl) (by rfl) (by rfl) ?_ | (with_reducible intro h; try simp only [h]) | (with_reducible refine And.intro ?_ ?_) | (change chk _ _ = true; rfl) | simp only [go_sem, seval, Vc_bool] | refine (GX_split rfl).2 ?_
  repeat' first | refine CX_pure (c260_ok b2) rfl rfl rfl rfl ?_ | refine GX_call (fun _ => (c260_ok b2)) (by rfl) (by intro h; simp only [h]; rfl) (by rfl) (by rfl) ?_ | (with_reducible intro h; try simp only [h]) | (with_reducible refine And.intro ?_ ?_) | (change chk _ _ = true; rfl) | simp only [go_sem, seval, Vc_bool] | refine (GX_split rfl).2 ?_
  repeat' first | (with_reducible intro h; try simp only [h]) | (with_reducible refine And.intro ?_ ?_) | (change chk _ _ = true; rfl) | simp only [go_sem, seval, Vc_bool] | refine (GX_split rfl).2 ?_
  refine CX_new (r1 := .row 2 1 0 s.held.length) (c261w_ok b3) rfl rfl rfl (by rw [List.all_cons, List.all_nil, Bool.and_true]; exact lt_map (xs := s.held) fun _ => by rfl) (by rfl) ?_
  repeat' first | (with_reducible intro h; try simp only [h]) | (with_reducible refine And.intro ?_ ?_) | (change chk _ _ = true; rfl) | simp only [go_sem, seval, Vc_bool] | refine (GX_split rfl).2 ?_
  repeat' first | refine CX_pure (c262_ok b4) rfl rfl rfl rfl ?_ | refine GX_call (fun _ => (c262_ok b4)) (by rfl) (by intro h; simp only [h]; rfl) (by rfl) (by rfl) ?_ | (with_reducible intro h; try simp only [h]) | (with_reducible refine And.intro ?_ ?_) | (change chk _ _ = true; rfl) | simp only [go_sem, seval, Vc_bool] | refine (GX_split rfl).2 ?_
  refine Lp.bkE0 (l152h s j x hx (by omega) b5 _ _ _ (fun zs z1 z2 => ?_) s.held [] rfl (Nat.zero_le _)) (by rfl) rfl
  simp only [go_sem, seval, z1, z2, zSt]
  refine Rt_sel [2, 3] (r0 := .agg (Station.encH s 2 s.held.length)) ?_ (by rfl) (by rfl) ?_ (by rfl) (by decide) ?_ (Nat.zero_le _) (by rfl)
  · simp only [retO, retO1, S, get_cons, Nat.reduceEqDiff, reduceIte, z2]; rfl
  · rw [List.all_cons, List.all_cons, List.all_nil, Bool.and_true, lt_ack, Bool.and_true]; exact lt_heldR (show 1 < 2 from Nat.lt_succ_self 1)
  · rw [List.map_cons, List.map_cons, List.map_nil, List.map_cons, List.map_cons, List.map_nil, ren_heldR, ren_ack]; rfl
theorem all_h {s : Station} {j : Nat} {x : Held} {slot : Int} {c : TCell} : ([.cells 0 21 77 true [wEncH s 1 slot c], .cells 1 5 75 false (heldR s.held j 2 x), .cells 1 1 3 false (x.acked.map eI)] : Heap).all (ltO 3) = true := by
  rw [List.all_cons, List.all_cons, List.all_cons, List.all_nil, Bool.and_true, lt_ack, Bool.and_true, lt_heldR (by decide), Bool.and_true]; rfl
theorem c96h_ok {s : Station} {slot : Int} {j : Nat} {x : Held} (hB : ClBd s) (hE : slotErr s slot = 0) (hx : s.held[j]? = some x) : ACalls prog 18 [.agg s.enc, .int .i64 slot] [] (.tup [.ptr 0 0 0 0, .int .i64 0]) [.cells 0 21 77 true [wEncH s 1 slot (cellAt s slot)], .cells 1 5 75 false (heldR s.held j 2 x), .cells 1 1 3 false (x.acked.map eI)] := by
  have hcl := c152h_ok hB hx
  refine calls_of hmx func18 (by kernel_rfl) (c := f18.body.getD .skip) rfl e96 (rs := [(.t 4), (.t 5)]) (by kernel_rfl) (by simp [ntmps18]) ?_
  simp only [c96, argS]
  simp only [go_sem, seval]
  repeat' first | refine CX_pure (c22_pf s hB.st) rfl rfl rfl rfl ?_ | refine CX_pure c81_ok rfl rfl rfl rfl ?_ | refine GX_call (fun _ => (c22_pf s hB.st)) (by rfl) (by intro h; simp only [h]; rfl) (by rfl) (by rfl) ?_ | refine GX_call (fun _ => c81_ok) (by rfl) (by intro h; simp only [h]; rfl) (by rfl) (by rfl) ?_ | (with_reducible intro h; try simp only [h]) | (with_reducible refine And.intro ?_ ?_) | (change chk _ _ = true; rfl) | simp only [go_sem, seval, Vc_bool] | refine (GX_split rfl).2 ?_
  · exact absurd hE (by grind [slotErr, stErr])
  · exact absurd hE (by grind [slotErr, stErr, wi])
  · refine CX_w [] [] (r1 := .agg (Station.encH s 1 s.held.length)) (H1 := [_, .cells 1 5 75 false (heldR s.held j 2 x), .cells 1 1 3 false (x.acked.map eI)]) hcl (by rfl) (by rfl) (by rfl) (by rfl) (by rfl) (by decide) (by rfl) (by rfl) (Nat.zero_le _) trivial (by rfl) (by rfl) (by show _ ++ List.map _ [_, _] = _; rw [List.map_cons, List.map_cons, List.map_nil, ren_heldR, ren_ack]; rfl) ?_
    repeat' first | refine CX_pure (c191_at hB.st.1) rfl rfl rfl rfl ?_ | refine GX_call (fun _ => (c191_at hB.st.1)) (by rfl) (by intro h; simp only [h]; rfl) (by rfl) (by rfl) ?_ | (with_reducible intro h; try simp only [h]) | (with_reducible refine And.intro ?_ ?_) | (change chk _ _ = true; rfl) | simp only [go_sem, seval, Vc_bool] | refine (GX_split rfl).2 ?_
    refine Rt_sel [3, 1, 2] (r0 := .tup [.ptr 3 0 0 0, .int .i64 0]) (by rfl) (by rfl) rfl all_h rfl (by decide) ?_ (Nat.zero_le _) rfl
    rw [List.map_cons, List.map_cons, List.map_cons, List.map_nil, List.map_cons, List.map_cons, List.map_cons, List.map_nil, ren_heldR, ren_ack]; rfl
theorem c201h_ok {h : Held} {flow : Int} {es : List Int} : ACalls prog 48 [.agg (hEncR 1 h), .ptr 0 0 0 0] [.cells 0 1 3 true [[.int .i64 flow]], .cells 1 1 3 false (es.map eI)] (.bool (decide (h.flow = flow))) [.cells 0 1 3 true [[.int .i64 flow]], .cells 1 1 3 false (es.map eI)] := by
  refine calls_of hmx func48 (by kernel_rfl) (c := f48.body.getD .skip) rfl e201 (rs := [(.t 3)]) (by kernel_rfl) (by simp [ntmps48]) ?_
  simp only [c201, argS]
  simp only [go_sem, seval]
  exact Rt_T (H := [_, _]) _ (by rfl) (by rfl) (by rw [List.all_cons, List.all_cons, List.all_nil, Bool.and_true, lt_ack, Bool.and_true]; rfl) (Nat.le_refl _)
theorem all_h2 {l : List Held} {j : Nat} {x : Held} {flow : Int} : ([.cells 1 5 75 false (heldR l j 1 x), .cells 1 1 3 false (x.acked.map eI), .cells 0 1 3 true [[.int .i64 flow]]] : Heap).all (ltO 3) = true := by
  rw [List.all_cons, List.all_cons, List.all_cons, List.all_nil, Bool.and_true, lt_ack, Bool.true_and, lt_heldR (by decide), Bool.true_and]; rfl
theorem l200h (l : List Held) (j : Nat) (x : Held) (hx : l[j]? = some x) (flow : Int) (hL : l.length < 2 ^ 62) (k' : List It) (hk : ∀ zs, V prog f47.ntmps 3 (Ret [.t 4] 3 (.int .i64 (-1)) [.cells 1 5 75 false (heldR l j 1 x), .cells 1 1 3 false (x.acked.map eI), .cells 0 1 3 true [[.int .i64 flow]]]) k' zs [.cells 1 5 75 false (heldR l j 1 x), .cells 1 1 3 false (x.acked.map eI), .cells 0 1 3 true [[.int .i64 flow]]]) : ∀ (rest done : List Held), l = done ++ rest →
    Lp prog f47.ntmps 3 (Ret [.t 4] 3 (.int .i64 (idxFrom (fun h : Held => decide (h.flow = flow)) done.length rest)) [.cells 1 5 75 false (heldR l j 1 x), .cells 1 1 3 false (x.acked.map eI), .cells 0 1 3 true [[.int .i64 flow]]]) (cIdxL 5) (.blk 0 :: k') [(0, .row 0 1 0 l.length), (1, .func 48 [] [.ptr 2 0 0 0]), (7, .int .i64 l.length), (8, .int .i64 done.length)] [.cells 1 5 75 false (heldR l j 1 x), .cells 1 1 3 false (x.acked.map eI), .cells 0 1 3 true [[.int .i64 flow]]] := by
  intro rest
  induction rest with
  | nil =>
    intro done hd
    refine Lp.of_eq hmx (cIdxL.eq_1 5) ?_
    have h1 := rg_end hd
    simp only [go_sem, seval, h1]
    exact hk _
  | cons c rest ih =>
    intro done hd
    refine Lp.of_eq hmx (cIdxL.eq_1 5) ?_
    obtain ⟨h1, h2, h3, h4⟩ := rg_hd Held.enc hd hL
    have ih' := ih _ h4
    have hc : l[done.length]? = some c := by rw [hd]; simp
    have hlt : ((done.length : Int) < (l.length : Int)) = True := eq_true (by have := congrArg List.length hd; simp at this; omega)
    have key : ∀ b, decide (c.flow = flow) = b → (b = true → idxFrom (fun h : Held => decide (h.flow = flow)) done.length (c :: rest) = done.length) ∧ (b = false → idxFrom (fun h : Held => decide (h.flow = flow)) done.length (c :: rest) = idxFrom (fun h : Held => decide (h.flow = flow)) (done ++ [c]).length rest) := by
      intro b hb
      refine ⟨fun e => ?_, fun e => ?_⟩
      · rw [idxFrom, if_pos (by rw [hb, e])]
      · rw [idxFrom, if_neg (by rw [hb, e]; decide)]; simp
    by_cases hj : done.length = j
    · have hcx : c = x := by rw [hj, hx] at hc; injection hc with hc; exact hc.symm
      subst hcx
      have h2' : (heldR l j 1 c)[done.length]? = some (hEncR 1 c) := by rw [hj]; exact heldR_j hx
      repeat' first | (with_reducible intro h; try simp only [h]) | (with_reducible refine And.intro ?_ ?_) | (change chk _ _ = true; rfl) | simp only [go_sem, seval, Vc_bool, h1, h2', h3, hlt, Int.toNat_natCast, Int.natCast_nonneg, Nat.zero_add] | refine (GX_split rfl).2 ?_
      refine CX_rd [2, 1] (c201h_ok (h := c) (flow := flow) (es := c.acked)) (by rfl) (by rfl) (by rfl) (by rw [List.all_cons, List.all_cons, List.all_nil, Bool.and_true, lt_ack, Bool.and_true]; rfl) (by rfl) (by decide) (by rfl) (by rw [List.map_cons, List.map_cons, List.map_nil, List.map_cons, List.map_cons, List.map_nil, ren_ack]; rfl) (by rfl) ?_
      repeat' first | (with_reducible intro h; try simp only [h]) | (with_reducible refine And.intro ?_ ?_) | (change chk _ _ = true; rfl) | simp only [go_sem, seval, Vc_bool, h1, h2', h3, hlt, Int.toNat_natCast, Int.natCast_nonneg, Nat.zero_add] | refine (GX_split rfl).2 ?_
      · rw [(key _ h).1 rfl]
        exact Rt_all (by rfl) (by rfl) all_h2 (Nat.le_refl _)
      · rw [(key _ h).2 rfl]
        exact Lp.bkE0 ih' (by rfl) rfl
    · have h2' : (heldR l j 1 x)[done.length]? = some (Held.enc c) := heldR_ne hc hj
      repeat' first | refine CX_rd [2] (c201_ok (h := c) (flow := flow)) (by rfl) (by rfl) (by rfl) (by rfl) (by rfl) (by decide) (by rfl) (by rfl) (by rfl) ?_ | (with_reducible intro h; try simp only [h]) | (with_reducible refine And.intro ?_ ?_) | (change chk _ _ = true; rfl) | simp only [go_sem, seval, Vc_bool, h1, h2', h3, hlt, Int.toNat_natCast, Int.natCast_nonneg, Nat.zero_add] | refine (GX_split rfl).2 ?_
      · rw [(key _ h).1 rfl]
        exact Rt_all (by rfl) (by rfl) all_h2 (Nat.le_refl _)
      · rw [(key _ h).2 rfl]
        exact Lp.bkE0 ih' (by rfl) rfl
theorem c200h_ok {l : List Held} {j : Nat} {x : Held} {flow : Int} (hx : l[j]? = some x) (hL : l.length < 2 ^ 62) : ACalls prog 47 [.row 0 1 0 l.length, .func 48 [] [.ptr 2 0 0 0]] [.cells 1 5 75 false (heldR l j 1 x), .cells 1 1 3 false (x.acked.map eI), .cells 0 1 3 true [[.int .i64 flow]]] (.int .i64 (heldIdx l flow)) [.cells 1 5 75 false (heldR l j 1 x), .cells 1 1 3 false (x.acked.map eI), .cells 0 1 3 true [[.int .i64 flow]]] := by
  refine calls_of hmx func47 (by kernel_rfl) (c := f47.body.getD .skip) rfl e200 (rs := [(.t 4)]) (by kernel_rfl) (by simp [ntmps47]) ?_
  simp only [cIdx, argS]
  simp only [go_sem, seval, List.length_map]
  refine Lp.bkE0 (l200h l j x hx flow hL _ (fun s => ?_) l [] rfl) (by rfl) rfl
  simp only [go_sem, seval]
  exact Rt_all (by rfl) (by rfl) all_h2 (Nat.le_refl _)
theorem c101h_ok {s : Station} {slot : Int} {c : TCell} {flow : Int} {j : Nat} {x : Held} (hx : s.held[j]? = some x) (hL : s.held.length < 2 ^ 62) : ACalls prog 20 [.ptr 0 0 0 0, .int .i64 flow] [.cells 0 21 77 true [wEncH s 1 slot c], .cells 1 5 75 false (heldR s.held j 2 x), .cells 1 1 3 false (x.acked.map eI)] (.int .i64 (heldIdx s.held flow)) [.cells 0 21 77 true [wEncH s 1 slot c], .cells 1 5 75 false (heldR s.held j 2 x), .cells 1 1 3 false (x.acked.map eI)] := by
  refine calls_of hmx func20 (by kernel_rfl) (c := f20.body.getD .skip) rfl e101 (rs := [(.t 4)]) (by kernel_rfl) (by simp [ntmps20]) ?_
  simp only [c101, argS]
  simp only [go_sem, seval]
  refine CX_rd [1, 2, 3] (c200h_ok (flow := flow) hx hL) (by rfl) (by rfl) (by rfl) all_h2 (by rfl) (by decide) (by rfl) (by rw [List.map_cons, List.map_cons, List.map_cons, List.map_nil, List.map_cons, List.map_cons, List.map_cons, List.map_nil, ren_heldR, ren_ack]; rfl) (by rfl) ?_
  simp only [go_sem, seval]
  exact Rt_T (H := [_, _, _]) _ (by rfl) (by rfl) all_h (Nat.le_refl _)

theorem ack_lt {l : List Int} : ([.cells 1 1 3 false (l.map eI)] : Heap).all (ltO 1) = true := by rw [List.all_cons, List.all_nil, Bool.and_true]; exact lt_ack
theorem l138r (l : List Int) (x : Int) (hL : l.length < 2 ^ 62) (k' : List It) (hk : ∀ zs, V prog f93.ntmps 1 (Ret [.t 4] 1 (.int .i64 (-1)) [.cells 1 1 3 false (l.map eI)]) k' zs [.cells 1 1 3 false (l.map eI)]) : ∀ (rest done : List Int), l = done ++ rest →
    Lp prog f93.ntmps 1 (Ret [.t 4] 1 (.int .i64 (idxFrom (fun y => decide (x = y)) done.length rest)) [.cells 1 1 3 false (l.map eI)]) c138L1 (.blk 0 :: k') [(0, .row 0 1 0 l.length), (1, .int .i64 x), (7, .int .i64 l.length), (8, .int .i64 done.length)] [.cells 1 1 3 false (l.map eI)] := by
  intro rest
  induction rest with
  | nil =>
    intro done hd
    refine Lp.of_eq hmx c138L1.eq_1 ?_
    have h1 := rg_end hd
    simp only [go_sem, seval, h1]
    exact hk _
  | cons c rest ih =>
    intro done hd
    refine Lp.of_eq hmx c138L1.eq_1 ?_
    obtain ⟨h1, h2, h3, h4⟩ := rg_hd eI hd hL
    have ih' := ih _ h4
    have hlt : ((done.length : Int) < (l.length : Int)) = True := eq_true (by have := congrArg List.length hd; simp at this; omega)
    repeat' first | (with_reducible intro h; try simp only [h]) | (with_reducible refine And.intro ?_ ?_) | (change chk _ _ = true; rfl) | simp only [go_sem, seval, Vc_bool, h1, h2, h3, hlt, Int.toNat_natCast, Int.natCast_nonneg, Nat.zero_add] | refine (GX_split rfl).2 ?_
    · have e : idxFrom (fun y => decide (x = y)) done.length (c :: rest) = done.length := by rw [idxFrom, if_pos h]
      rw [e]
      exact Rt_all (by rfl) (by rfl) ack_lt (Nat.le_refl _)
    · have e : idxFrom (fun y => decide (x = y)) done.length (c :: rest) = idxFrom (fun y => decide (x = y)) (done ++ [c]).length rest := by rw [idxFrom, if_neg (by simpa using h)]; simp
      rw [e]
      exact Lp.bkE0 ih' (by rfl) rfl
theorem c138r_ok {l : List Int} {x : Int} (hL : l.length < 2 ^ 62) : ACalls prog 93 [.row 0 1 0 l.length, .int .i64 x] [.cells 1 1 3 false (l.map eI)] (.int .i64 (idxFrom (fun y => decide (x = y)) 0 l)) [.cells 1 1 3 false (l.map eI)] := by
  refine calls_of hmx func93 (by kernel_rfl) (c := f93.body.getD .skip) rfl e138 (rs := [(.t 4)]) (by kernel_rfl) (by simp [ntmps93]) ?_
  simp only [c138, argS]
  simp only [go_sem, seval, List.length_map]
  refine Lp.bkE0 (l138r l x hL _ (fun s => ?_) l [] rfl) (by rfl) rfl
  simp only [go_sem, seval]
  exact Rt_all (by rfl) (by rfl) ack_lt (Nat.le_refl _)
theorem c40r_ok {l : List Int} {x : Int} (hL : l.length < 2 ^ 62) : ACalls prog 75 [.row 0 1 0 l.length, .int .i64 x] [.cells 1 1 3 false (l.map eI)] (.bool (l.any fun y => decide (x = y))) [.cells 1 1 3 false (l.map eI)] := by
  refine calls_of hmx func75 (by kernel_rfl) (c := f75.body.getD .skip) rfl e40 (rs := [(.t 4)]) (by kernel_rfl) (by simp [ntmps75]) ?_
  simp only [c40, argS]
  simp only [go_sem, seval]
  refine CX_rd [0] (c138r_ok (l := l) (x := x) hL) (by rfl) (by rfl) (by rfl) ack_lt (by rfl) (by decide) (by rfl) (by rw [List.map_cons, List.map_nil, List.map_cons, List.map_nil, ren_ack]; rfl) (by rfl) ?_
  simp only [go_sem, seval, idxFrom_any]
  exact Rt_all (by rfl) (by rfl) ack_lt (Nat.le_refl _)
/-- A frame of a flow is sent. -/
theorem c192h_ok {s : Station} {slot : Int} {c : TCell} {j : Nat} {x : Held} (hx : s.held[j]? = some x) (hi : heldIdx s.held c.flow = j) (hL : s.held.length < 2 ^ 62) (hA : x.acked.length < 2 ^ 62) (hs : c.send = true) (hw : decide (x.upto < slot) = false) (hn : (x.acked.any fun y => decide (c.peer = y)) = false) :
    ACalls prog 44 [.ptr 0 0 0 0] [.cells 0 21 77 true [wEncH s 1 slot c], .cells 1 5 75 false (heldR s.held j 2 x), .cells 1 1 3 false (x.acked.map eI)] (.agg (Action.enc ⟨1, 0, dataOf s x c.peer⟩)) [.cells 0 21 77 true [wEncH s 1 slot c], .cells 1 5 75 false (heldR s.held j 2 x), .cells 1 1 3 false (x.acked.map eI)] := by
  have h101 := c101h_ok (s := s) (slot := slot) (c := c) (flow := c.flow) hx hL
  have hjl := (List.getElem?_eq_some_iff.1 hx).1
  rw [hi] at h101
  have e3 : (heldR s.held j 2 x)[j]? = some (hEncR 2 x) := heldR_j hx
  have e4 : decide ((j : Int) < 0) = false := by simp
  have hlt : ((j : Int) < (s.held.length : Int)) = True := eq_true (by omega)
  rcases c with ⟨cs, co, ck, cd, cp, cf⟩
  obtain rfl : cd = true := hs
  refine calls_of hmx func44 (by kernel_rfl) (c := f44.body.getD .skip) rfl e192 (rs := [(.cell 2 true 14)]) (by kernel_rfl) (by simp [ntmps44]) ?_
  simp only [c192, argS]
  repeat' first | (with_reducible intro h; try simp only [h]) | (with_reducible refine And.intro ?_ ?_) | (change chk _ _ = true; rfl) | simp only [go_sem, seval, Vc_bool] | refine (GX_split rfl).2 ?_
  refine CX_rd [0, 1, 2] h101 (by rfl) (by rfl) (by rfl) all_h (by rfl) (by decide) (by rfl) (by rw [List.map_cons, List.map_cons, List.map_cons, List.map_nil, List.map_cons, List.map_cons, List.map_cons, List.map_nil, ren_heldR, ren_ack]; rfl) (by rfl) ?_
  repeat' first | (with_reducible intro h; try simp only [h]) | (with_reducible refine And.intro ?_ ?_) | (change chk _ _ = true; rfl) | simp only [go_sem, seval, Vc_bool, e3, e4, hw, hlt, Int.toNat_natCast, Int.natCast_nonneg, Nat.zero_add] | refine (GX_split rfl).2 ?_
  refine CX_rd [2] (c40r_ok (l := x.acked) (x := cp) hA) (by rfl) (by rfl) (by rfl) ack_lt (by rfl) (by decide) (by rfl) (by rw [List.map_cons, List.map_nil, List.map_cons, List.map_nil, ren_ack]; rfl) (by rfl) ?_
  rw [show (x.acked.any fun y => decide (cp = y)) = false from hn]
  repeat' first | (with_reducible intro h; try simp only [h]) | (with_reducible refine And.intro ?_ ?_) | (change chk _ _ = true; rfl) | simp only [go_sem, seval, Vc_bool, e3, e4, hw, hlt, Int.toNat_natCast, Int.natCast_nonneg, Nat.zero_add] | refine (GX_split rfl).2 ?_
  · exact Rt_T (H := [_, _, _]) _ (by rfl) (by rfl) (all_h (c := ⟨cs, co, ck, true, cp, cf⟩)) (Nat.le_refl _)
theorem c97h_ok {s : Station} {slot : Int} {c : TCell} {j : Nat} {x : Held} {a : Action} (hk : c.kind = 1) (h0 : a.kind = 1) (hg : ACalls prog 44 [.ptr 0 0 0 0] [.cells 0 21 77 true [wEncH s 1 slot c], .cells 1 5 75 false (heldR s.held j 2 x), .cells 1 1 3 false (x.acked.map eI)] (.agg a.enc) [.cells 0 21 77 true [wEncH s 1 slot c], .cells 1 5 75 false (heldR s.held j 2 x), .cells 1 1 3 false (x.acked.map eI)]) :
    ACalls prog 19 [.ptr 0 0 0 0] [.cells 0 21 77 true [wEncH s 1 slot c], .cells 1 5 75 false (heldR s.held j 2 x), .cells 1 1 3 false (x.acked.map eI)] (.agg (Action.enc { a with off := c.off })) [.cells 0 21 77 true [wEncH s 1 slot c], .cells 1 5 75 false (heldR s.held j 2 x), .cells 1 1 3 false (x.acked.map eI)] := by
  rcases c with ⟨cs, co, ck, cd, cp, cf⟩
  obtain rfl : ck = 1 := hk
  rcases a with ⟨ak, ao, ⟨fk, zf2, zf3, zf4, zf5, zf6, zf7, zf8, zf9, zf10, zf11, zf12⟩⟩
  obtain rfl : ak = 1 := h0
  refine calls_of hmx func19 (by kernel_rfl) (c := f19.body.getD .skip) rfl e97 (rs := [(.cell 2 true 14)]) (by kernel_rfl) (by simp [ntmps19]) ?_
  simp only [c97, argS]
  repeat' first | (with_reducible intro h; try simp only [h]) | (with_reducible refine And.intro ?_ ?_) | (change chk _ _ = true; rfl) | simp only [go_sem, seval, Vc_bool, mapSet_cons, mapSet_nil, mapAt_cons, mapAt_nil] | refine (GX_split rfl).2 ?_
  refine CX_rd [0, 1, 2] hg (by rfl) (by rfl) (by rfl) all_h (by rfl) (by decide) (by rfl) (by rw [List.map_cons, List.map_cons, List.map_cons, List.map_nil, List.map_cons, List.map_cons, List.map_cons, List.map_nil, ren_heldR, ren_ack]; rfl) (by rfl) ?_
  repeat' first | (with_reducible intro h; try simp only [h]) | (with_reducible refine And.intro ?_ ?_) | (change chk _ _ = true; rfl) | simp only [go_sem, seval, Vc_bool, mapSet_cons, mapSet_nil, mapAt_cons, mapAt_nil] | refine (GX_split rfl).2 ?_
  exact Rt_T (H := [_, _, _]) _ (by rfl) (by rfl) (all_h (c := ⟨cs, co, 1, cd, cp, cf⟩)) (Nat.le_refl _)

def c304 : SC := (.seq (.reg [(.mv 4 (.c (.bool false)))]) (.seq (.reg [(.mv 5 (.t 0)), (.call (some 6) (.c (.func 87 [] [])) [(.t 5)]), (.mv 7 (.t 6)), (.g 7 true (some 8) (.mv 8 (.t 1))), (.g 7 true (some 9) (.call (some 9) (.c (.func 87 [] [])) [(.t 8)])), (.g 7 true (some 10) (.not 10 (.t 9))), (.pick 11 (.t 7) (.t 10) (.c (.bool false))), (.mv 12 (.t 11)), (.g 12 false (some 13) (.mv 13 (.t 0))), (.g 12 false (some 14) (.mv 14 (.t 1))), (.g 12 false (some 15) (.bin 15 .lss (.t 13) (.t 14))), (.pick 16 (.t 12) (.c (.bool true)) (.t 15)), (.mv 4 (.t 16))]) .ret))
theorem e304 : compC prog f78.ntmps (f78.body.getD .skip) = c304 := by kernel_rfl
def c305 : SC := (.seq (.reg [(.mv 2 (.c (.bool false)))]) (.seq (.reg [(.mv 3 (.t 0)), (.mv 4 (.t 0)), (.bin 5 .neq (.t 3) (.t 4)), (.mv 2 (.t 5))]) .ret))
theorem e305 : compC prog f79.ntmps (f79.body.getD .skip) = c305 := by kernel_rfl
def c202L1 : SC := (.seq (.seq (.reg [(.mv 13 (.t 7)), (.mv 14 (.t 8)), (.bin 15 .lss (.t 13) (.t 14))]) (.cond (.t 15) .skip (.exit 0))) (.block 1 (.seq (.reg [(.mv 16 (.t 7)), (.mv 17 (.t 8)), (.bin 18 .add (.t 16) (.t 17)), (.conv 19 .u64 (.t 18)), (.bin 20 .shr (.t 19) (.c (.int .u64 1))), (.conv 21 .i64 (.t 20)), (.mv 9 (.t 21))]) (.seq (.reg [(.mv 22 (.t 0)), (.mv 23 (.t 9)), (.ia 24 (.t 22) (.t 23) 1), (.ld 25 (.t 24) false 1), (.mv 26 (.t 1)), (.call (some 27) (.c (.func 78 [] [])) [(.t 25), (.t 26)])]) (.cond (.t 27) (.reg [(.mv 28 (.t 9)), (.bin 29 .add (.t 28) (.c (.int .i64 1))), (.mv 7 (.t 29))]) (.reg [(.mv 30 (.t 9)), (.mv 8 (.t 30))]))))))
def c202 : SC := (.seq (.reg [(.mv 4 (.c (.int .i64 0))), (.mv 5 (.c (.bool false)))]) (.seq (.reg [(.mv 10 (.t 0)), (.len 11 false (.t 10)), (.mv 6 (.t 11))]) (.seq (.reg [(.mv 12 (.t 6)), (.mv 7 (.c (.int .i64 0))), (.mv 8 (.t 12))]) (.seq (.block 0 (.loop c202L1)) (.seq (.reg [(.mv 31 (.t 7)), (.mv 32 (.t 7)), (.mv 33 (.t 6)), (.bin 34 .lss (.t 32) (.t 33)), (.mv 35 (.t 34)), (.g 35 true (some 36) (.mv 36 (.t 0))), (.g 35 true (some 37) (.mv 37 (.t 7))), (.g 35 true (some 38) (.ia 38 (.t 36) (.t 37) 1)), (.g 35 true (some 39) (.ld 39 (.t 38) false 1)), (.g 35 true (some 40) (.mv 40 (.t 1))), (.g 35 true (some 41) (.bin 41 .eql (.t 39) (.t 40))), (.g 35 true (some 42) (.mv 42 (.t 41))), (.g 42 false (some 43) (.mv 43 (.t 0))), (.g 42 false (some 44) (.mv 44 (.t 7))), (.g 42 false (some 45) (.ia 45 (.t 43) (.t 44) 1)), (.g 42 false (some 46) (.ld 46 (.t 45) false 1)), (.g 42 false (some 47) (.call (some 47) (.c (.func 79 [] [])) [(.t 46)])), (.g 42 false (some 48) (.mv 48 (.t 47))), (.g 48 true (some 49) (.mv 49 (.t 1))), (.g 48 true (some 50) (.call (some 50) (.c (.func 79 [] [])) [(.t 49)])), (.g 42 false (some 51) (.pick 51 (.t 48) (.t 50) (.c (.bool false)))), (.g 35 true (some 52) (.pick 52 (.t 42) (.c (.bool true)) (.t 51))), (.pick 53 (.t 35) (.t 52) (.c (.bool false))), (.mv 4 (.t 31)), (.mv 5 (.t 53))]) .ret)))))
theorem e202 : compC prog f49.ntmps (f49.body.getD .skip) = c202 := by kernel_rfl
def c102 : SC := (.seq (.reg [(.mv 4 (.c .nil))]) (.seq (.reg [(.mv 8 (.t 0)), (.mv 9 (.t 1)), (.call (some 10) (.c (.func 49 [] [])) [(.t 8), (.t 9)]), (.mv 7 (.t 10)), (.ext 11 (.t 7) 0), (.ext 12 (.t 7) 1), (.mv 5 (.t 11)), (.mv 6 (.t 12))]) (.seq (.seq (.reg [(.mv 13 (.t 6))]) (.cond (.t 13) (.seq (.reg [(.mv 14 (.t 0)), (.mv 4 (.t 14))]) .ret) .skip)) (.seq (.reg [(.mv 15 (.t 0)), (.mv 16 (.t 5)), (.mv 17 (.t 1)), (.bsl 18 3 1 [(.int .i64 0)] 1 [(0, (.t 17))]), (.call (some 19) (.c (.func 50 [] [])) [(.t 15), (.t 16), (.t 18)]), (.mv 4 (.t 19))]) .ret))))
theorem e102 : compC prog f21.ntmps (f21.body.getD .skip) = c102 := by kernel_rfl
theorem c304_pf (a : Int) (b : Int)  : ACalls prog 78 [.int .i64 a, .int .i64 b] [] (.bool (decide (a < b))) [] := by
  refine calls_of hmx func78 (by kernel_rfl) (c := f78.body.getD .skip) rfl e304 (rs := [(.t 4)]) (by kernel_rfl) (by simp [ntmps78]) ?_
  simp only [c304, argS]
  simp only [go_sem, seval]
  repeat' first | (refine Rt_pure ?_ rfl; simp only [retO, retO1, retOs, S, get_cons, Nat.reduceEqDiff, reduceIte, obj, getO_cons_zero, getO_cons_succ, List.getElem?_cons_zero, List.getElem?_cons_succ, List.drop_zero, List.drop_succ_cons, loadFrom_cell, loadFrom_agg, List.length_cons, List.length_nil, Nat.reduceAdd, Nat.reduceLeDiff, List.take_succ_cons, List.take_zero, List.take_nil]) | refine CX_pure c259_ok rfl rfl rfl rfl ?_ | refine GX_call (fun _ => c259_ok) (by rfl) (by intro h; simp only [h]; rfl) (by rfl) (by rfl) ?_ | (with_reducible intro h; try simp only [h]) | (with_reducible refine And.intro ?_ ?_) | (change chk _ _ = true; rfl) | simp only [go_sem, seval, Vc_bool] | refine (GX_split rfl).2 ?_
theorem c304_ok {a : Int} {b : Int}  : ACalls prog 78 [.int .i64 a, .int .i64 b] [] (.bool (decide (a < b))) [] := c304_pf a b 

theorem c305_pf (a : Int)  : ACalls prog 79 [.int .i64 a] [] (.bool false) [] := by
  refine calls_of hmx func79 (by kernel_rfl) (c := f79.body.getD .skip) rfl e305 (rs := [(.t 2)]) (by kernel_rfl) (by simp [ntmps79]) ?_
  simp only [c305, argS]
  have e : decide (a = a) = true := by simp
  simp only [go_sem, seval, e]
  (refine Rt_pure ?_ rfl; simp only [retO, retO1, retOs, S, get_cons, Nat.reduceEqDiff, reduceIte, obj, getO_cons_zero, getO_cons_succ, List.getElem?_cons_zero, List.getElem?_cons_succ, List.drop_zero, List.drop_succ_cons, loadFrom_cell, loadFrom_agg, List.length_cons, List.length_nil, Nat.reduceAdd, Nat.reduceLeDiff, List.take_succ_cons, List.take_zero, List.take_nil])
theorem c305_ok {a : Int}  : ACalls prog 79 [.int .i64 a] [] (.bool false) [] := c305_pf a 

section
variable {xs : List Int} {t : Int}
theorem bs3r_loop (hlen : xs.length < 2 ^ 62) (hs : ∀ i x, xs[i]? = some x → (cmp x t < 0 ↔ i < bsLo (fun y : Int => cmp y t) xs)) (rs : List RS) (r : AVal) (k' : List It)
    (hk : ∀ s, get s 0 = .row 0 1 0 xs.length → get s 1 = .int .i64 t → get s 6 = .int .i64 xs.length → get s 7 = .int .i64 (bsLo (fun y : Int => cmp y t) xs) → V prog f49.ntmps 1 (Ret rs 1 r [.cells 1 1 3 false (xs.map eI)]) k' s [.cells 1 1 3 false (xs.map eI)]) : ∀ (m i j : Nat), j - i ≤ m → i ≤ bsLo (fun y : Int => cmp y t) xs → bsLo (fun y : Int => cmp y t) xs ≤ j → j ≤ xs.length →
    Lp prog f49.ntmps 1 (Ret rs 1 r [.cells 1 1 3 false (xs.map eI)]) c202L1 (.blk 0 :: k') [(0, .row 0 1 0 xs.length), (1, .int .i64 t), (6, .int .i64 xs.length), (7, .int .i64 i), (8, .int .i64 j)] [.cells 1 1 3 false (xs.map eI)] := by
  intro m
  induction m with
  | zero =>
    intro i j h1 h2 h3 h4
    refine Lp.of_eq hmx c202L1.eq_1 ?_
    have e1 : decide ((i : Int) < (j : Int)) = false := by simp; omega
    simp only [go_sem, seval, e1]
    exact hk _ (by rfl) (by rfl) (by rfl) (by show AVal.int .i64 _ = _; congr 1; omega)
  | succ m ih =>
    intro i j h1 h2 h3 h4
    refine Lp.of_eq hmx c202L1.eq_1 ?_
    rcases Nat.lt_or_ge i j with hij | hij
    · have e1 : decide ((i : Int) < (j : Int)) = true := by simp; omega
      have e2 := mid_ok (i := i) (j := j) (by omega)
      have hm : (i + j) / 2 < xs.length := by omega
      have e3 : (xs.map eI)[(i + j) / 2]? = some (eI xs[(i + j) / 2]) := by rw [List.getElem?_map, List.getElem?_eq_getElem hm]; rfl
      have e4 : IntKind.i64.wrap (((i + j) / 2 : Nat) + (1 : Int)) = (((i + j) / 2 + 1 : Nat) : Int) := by rw [wrap_ok (by omega) (by omega)]; omega
      have hsx := hs ((i + j) / 2) _ (List.getElem?_eq_getElem hm)
      generalize xs[(i + j) / 2] = c at *
      have hlt : ((((i + j) / 2 : Nat) : Int) < (xs.length : Int)) = True := eq_true (by omega)
      repeat' first | refine CX_pure (c304_ok) rfl rfl rfl rfl ?_ | refine GX_call (fun _ => (c304_ok)) (by rfl) (by intro h; simp only [h]; rfl) (by rfl) (by rfl) ?_ | (with_reducible intro h; try simp only [h]) | (with_reducible refine And.intro ?_ ?_) | (change chk _ _ = true; rfl) | simp only [go_sem, seval, Vc_bool, e1, e2, e3, e4, hlt, Nat.zero_add, Int.toNat_natCast, Int.natCast_nonneg] | refine (GX_split rfl).2 ?_
      · exact Lp.bk0 (ih ((i + j) / 2 + 1) j (by omega) (by have := of_decide_eq_true h; rw [← cmp_lt, hsx] at this; omega) h3 h4) (by rfl)
      · exact Lp.bk0 (ih i ((i + j) / 2) (by omega) h2 (by have := of_decide_eq_false h; rw [← cmp_lt, hsx] at this; omega) (by omega)) (by rfl)
    · have e1 : decide ((i : Int) < (j : Int)) = false := by simp; omega
      simp only [go_sem, seval, e1]
      exact hk _ (by rfl) (by rfl) (by rfl) (by show AVal.int .i64 _ = _; congr 1; omega)
end
theorem c202r_ok {xs : List Int} {t : Int} (hlen : xs.length < 2 ^ 62) (hs : ∀ i x, xs[i]? = some x → (cmp x t < 0 ↔ i < bsLo (fun y : Int => cmp y t) xs)) :
    ACalls prog 49 [.row 0 1 0 xs.length, .int .i64 t] [.cells 1 1 3 false (xs.map eI)] (.tup [.int .i64 (bsLo (fun y : Int => cmp y t) xs), .bool (bsHit (fun y : Int => cmp y t) xs)]) [.cells 1 1 3 false (xs.map eI)] := by
  refine calls_of hmx func49 (by kernel_rfl) (c := f49.body.getD .skip) rfl e202 (rs := [(.t 4), (.t 5)]) (by kernel_rfl) (by simp [ntmps49]) ?_
  simp only [c202, argS]
  simp only [go_sem, seval, List.length_map]
  refine Lp.bk0 (bs3r_loop hlen hs _ _ _ (fun s z0 z1 z6 z7 => ?_) xs.length 0 xs.length (by omega) (Nat.zero_le _) (bsLo_le _) (Nat.le_refl _)) (by rfl)
  have hle := bsLo_le (c := fun y : Int => cmp y t) xs
  rcases Nat.lt_or_ge (bsLo (fun y : Int => cmp y t) xs) xs.length with h | h
  · have e1 : decide (((bsLo (fun y : Int => cmp y t) xs : Nat) : Int) < (xs.length : Int)) = true := by simp; omega
    have e2 : (xs.map eI)[bsLo (fun y : Int => cmp y t) xs]? = some (eI xs[bsLo (fun y : Int => cmp y t) xs]) := by rw [List.getElem?_map, List.getElem?_eq_getElem h]; rfl
    have e3 : bsHit (fun y : Int => cmp y t) xs = decide (xs[bsLo (fun y : Int => cmp y t) xs] = t) := by rw [bsHit, List.getElem?_eq_getElem h]; simp only [cmp_eq]
    rw [e3]
    generalize xs[bsLo (fun y : Int => cmp y t) xs] = c at *
    have hlt : (((bsLo (fun y : Int => cmp y t) xs : Nat) : Int) < (xs.length : Int)) = True := eq_true (by omega)
    cases hc : decide (c = t)
    · repeat' first | refine CX_pure (c305_ok) rfl rfl rfl rfl ?_ | refine GX_call (fun _ => (c305_ok)) (by rfl) (by intro h; simp only [h]; rfl) (by rfl) (by rfl) ?_ | (with_reducible intro h; try simp only [h]) | (with_reducible refine And.intro ?_ ?_) | (change chk _ _ = true; rfl) | simp only [go_sem, seval, Vc_bool, z0, z1, z6, z7, e1, e2, hlt, hc, Nat.zero_add, Int.toNat_natCast, Int.natCast_nonneg] | refine (GX_split rfl).2 ?_
      exact Rt_all (by rfl) (by rfl) ack_lt (Nat.le_refl _)
    · repeat' first | refine CX_pure (c305_ok) rfl rfl rfl rfl ?_ | refine GX_call (fun _ => (c305_ok)) (by rfl) (by intro h; simp only [h]; rfl) (by rfl) (by rfl) ?_ | (with_reducible intro h; try simp only [h]) | (with_reducible refine And.intro ?_ ?_) | (change chk _ _ = true; rfl) | simp only [go_sem, seval, Vc_bool, z0, z1, z6, z7, e1, e2, hlt, hc, Nat.zero_add, Int.toNat_natCast, Int.natCast_nonneg] | refine (GX_split rfl).2 ?_
      exact Rt_all (by rfl) (by rfl) ack_lt (Nat.le_refl _)
  · have e1 : decide (((bsLo (fun y : Int => cmp y t) xs : Nat) : Int) < (xs.length : Int)) = false := by simp; omega
    have e3 : bsHit (fun y : Int => cmp y t) xs = false := by rw [bsHit, List.getElem?_eq_none h]
    rw [e3]
    repeat' first | (with_reducible intro h; try simp only [h]) | (with_reducible refine And.intro ?_ ?_) | (change chk _ _ = true; rfl) | simp only [go_sem, seval, Vc_bool, z0, z1, z6, z7, e1] | refine (GX_split rfl).2 ?_
    exact Rt_all (by rfl) (by rfl) ack_lt (Nat.le_refl _)
theorem insInt_eq (l : List Int) (x : Int) : insertInt l x = l.take (bsLo (fun y : Int => cmp y x) l) ++ x :: l.drop (bsLo (fun y : Int => cmp y x) l) := by
  have e : (fun y : Int => decide (cmp y x < 0)) = fun y => decide (y < x) := by funext y; simp only [cmp_lt]
  obtain ⟨h1, h2⟩ := tw_len (fun y : Int => decide (y < x)) l
  rw [insertInt, bsLo, e, h1, h2]
theorem c102_ok {l : List Int} {x : Int} (hb : (l.length + 1) * 8 ≤ 140737488355328) (hs : l.Pairwise (fun a b => a ≤ b)) (hn : (l.any fun y => decide (x = y)) = false) :
    ACalls prog 21 [.row 0 1 0 l.length, .int .i64 x] [.cells 1 1 3 false (l.map eI)] (.sl 1 ((insertInt l x).map eI)) [.dead] := by
  have hle := bsLo_le (c := fun y : Int => cmp y x) l
  have hh : bsHit (fun y : Int => cmp y x) l = false := by
    unfold bsHit
    cases hc : l[bsLo (fun y : Int => cmp y x) l]? with
    | none => rfl
    | some y =>
      have hm := List.mem_of_getElem? hc
      simp only [cmp_eq, decide_eq_false_iff_not]
      intro e
      subst e
      rw [List.any_eq_false] at hn
      exact hn y hm (by simp)
  have h202 := c202r_ok (xs := l) (t := x) (by omega) (bs_srt (f := fun y : Int => y) hs)
  rw [hh] at h202
  rw [insInt_eq]
  generalize bsLo (fun y : Int => cmp y x) l = lo at *
  refine calls_of hmx func21 (by kernel_rfl) (c := f21.body.getD .skip) rfl e102 (rs := [(.t 4)]) (by kernel_rfl) (by simp [ntmps21]) ?_
  simp only [c102, argS]
  repeat' first | (with_reducible intro h; try simp only [h]) | (with_reducible refine And.intro ?_ ?_) | (change chk _ _ = true; rfl) | simp only [go_sem, seval, Vc_bool] | refine (GX_split rfl).2 ?_
  refine CX_rd [0] h202 (by rfl) (by rfl) (by rfl) ack_lt (by rfl) (by decide) (by rfl) (by rw [List.map_cons, List.map_nil, List.map_cons, List.map_nil, ren_ack]; rfl) (by rfl) ?_
  repeat' first | (with_reducible intro h; try simp only [h]) | (with_reducible refine And.intro ?_ ?_) | (change chk _ _ = true; rfl) | simp only [go_sem, seval, Vc_bool] | refine (GX_split rfl).2 ?_
  refine CX_eat2 0 1 (c203_ok (xs := l) (v := x) (i := lo) (q := 1) hle hb) (by rfl) (by rfl) (by rfl) lt_ack (by rfl) (by decide) (by rfl) (by rfl) (by rfl) (by rfl) (by rfl) ?_
  repeat' first | (with_reducible intro h; try simp only [h]) | (with_reducible refine And.intro ?_ ?_) | (change chk _ _ = true; rfl) | simp only [go_sem, seval, Vc_bool] | refine (GX_split rfl).2 ?_
  exact Rt_T (H := [_]) _ (by rfl) (by rfl) (by rfl) (Nat.le_refl _)
/-- A frame of a flow was acknowledged. -/
theorem c28_ack {s : Station} {slot : Int} {r : Sp.Result} {j : Nat} {x : Held} (hB : ClBd s) (hE : slotErr s slot = 0) (hx : s.held[j]? = some x) (hi : heldIdx s.held (cellAt s slot).flow = j) (hf : x.flow = (cellAt s slot).flow) (hL : s.held.length < 2 ^ 62) (hA : (x.acked.length + 1) * 8 ≤ 140737488355328)
    (hk : (cellAt s slot).kind = 1) (hs : (cellAt s slot).send = true) (hw : decide (x.upto < slot) = false) (hn : (x.acked.any fun y => decide ((cellAt s slot).peer = y)) = false) (hp : x.acked.Pairwise (fun a b => a ≤ b)) (hr : r.acked = true) :
    ACalls prog 10 [.agg s.enc, .int .i64 slot, .agg r.enc] [] (.tup [.agg (Station.enc { s with held := s.held.set j { x with acked := insertInt x.acked (cellAt s slot).peer } }), .agg Up.zero.enc, .int .i64 0]) [] := by
  have h96 := c96h_ok hB hE hx
  have h97 := c97h_ok (s := s) (slot := slot) (c := cellAt s slot) (a := ⟨1, 0, dataOf s x (cellAt s slot).peer⟩) hk rfl (c192h_ok (s := s) (slot := slot) (c := cellAt s slot) hx hi hL (by omega) hs hw hn)
  have h101 := c101h_ok (s := s) (slot := slot) (c := cellAt s slot) (flow := (cellAt s slot).flow) hx hL
  have h102 := c102_ok (l := x.acked) (x := (cellAt s slot).peer) hA hp hn
  rw [hi] at h101
  have hjl := (List.getElem?_eq_some_iff.1 hx).1
  have e3 : ∀ id, (heldR s.held j id x)[j]? = some (hEncR id x) := fun id => heldR_j hx
  have hlt : ((j : Int) < (s.held.length : Int)) = True := eq_true (by omega)
  revert h96 h97 h101 h102 hk hf
  generalize cellAt s slot = c
  rcases c with ⟨cs, co, ck, cd, cp, cf⟩
  intro hf hk h96 h97 h101 h102
  obtain rfl : ck = 1 := hk
  obtain rfl : x.flow = cf := hf
  refine calls_of hmx func10 (by kernel_rfl) (c := f10.body.getD .skip) rfl e28 (rs := [(.cell 6 true 14), (.cell 7 true 14), (.t 8)]) (by kernel_rfl) (by simp [ntmps10]) ?_
  simp only [c28, argS]
  repeat' first | (with_reducible intro h; try simp only [h]) | (with_reducible refine And.intro ?_ ?_) | (change chk _ _ = true; rfl) | simp only [go_sem, seval, Vc_bool] | refine (GX_split rfl).2 ?_
  refine CX_w [] [] (r1 := .tup [.ptr 4 0 0 0, .int .i64 0]) (H1 := [_, _, _, _, .cells 0 21 77 true [wEncH s 5 slot ⟨cs, co, 1, cd, cp, x.flow⟩], .cells 1 5 75 false (heldR s.held j 6 x), .cells 1 1 3 false (x.acked.map eI)]) h96 (by rfl) (by rfl) (by rfl) (by rfl) (by rfl) (by decide) (by rfl) (by rfl) (Nat.zero_le _) trivial (by rfl) (by rfl) (by show _ ++ List.map _ [_, _, _] = _; rw [List.map_cons, List.map_cons, List.map_cons, List.map_nil, ren_heldR, ren_ack]; rfl) ?_
  repeat' first | (with_reducible intro h; try simp only [h]) | (with_reducible refine And.intro ?_ ?_) | (change chk _ _ = true; rfl) | simp only [go_sem, seval, Vc_bool] | refine (GX_split rfl).2 ?_
  refine CX_rd [4, 5, 6] h97 (by rfl) (by rfl) (by rfl) (all_h (c := ⟨cs, co, 1, cd, cp, x.flow⟩)) (by rfl) (by decide) (by rfl) (by rw [List.map_cons, List.map_cons, List.map_cons, List.map_nil, List.map_cons, List.map_cons, List.map_cons, List.map_nil, ren_heldR, ren_ack]; rfl) (by rfl) ?_
  repeat' first | (with_reducible intro h; try simp only [h]) | (with_reducible refine And.intro ?_ ?_) | (change chk _ _ = true; rfl) | simp only [go_sem, seval, Vc_bool, hr, dataOf] | refine (GX_split rfl).2 ?_
  refine CX_rd [4, 5, 6] h101 (by rfl) (by rfl) (by rfl) (all_h (c := ⟨cs, co, 1, cd, cp, x.flow⟩)) (by rfl) (by decide) (by rfl) (by rw [List.map_cons, List.map_cons, List.map_cons, List.map_nil, List.map_cons, List.map_cons, List.map_cons, List.map_nil, ren_heldR, ren_ack]; rfl) (by rfl) ?_
  repeat' first | (with_reducible intro h; try simp only [h]) | (with_reducible refine And.intro ?_ ?_) | (change chk _ _ = true; rfl) | simp only [go_sem, seval, Vc_bool, hr, e3, hlt, Int.toNat_natCast, Int.natCast_nonneg, Nat.zero_add] | refine (GX_split rfl).2 ?_
  refine CX_eat 6 h102 (by rfl) (by rfl) (by rfl) lt_ack (by rfl) (by rfl) (by rfl) ?_
  have hse : (heldR s.held j 6 x).set j [.int .i64 x.flow, .int .i64 x.frame, .int .i64 x.upto, .str x.data, .sl 1 ((insertInt x.acked cp).map eI)] = (s.held.set j { x with acked := insertInt x.acked cp }).map Held.enc := heldR_set hx
  repeat' first | (with_reducible intro h; try simp only [h]) | (with_reducible refine And.intro ?_ ?_) | (change chk _ _ = true; rfl) | simp only [go_sem, seval, Vc_bool, hr, e3, hlt, hse, Int.toNat_natCast, Int.natCast_nonneg, Nat.zero_add] | refine (GX_split rfl).2 ?_
  refine Rt.gs (Gs_freeze 5 (s' := [(6, .ptr 2 0 0 0), (7, .ptr 3 0 0 0), (8, .int .i64 0)]) (H' := [.dead, .dead, .cells 0 14 35 true [Station.enc { s with held := s.held.set j { x with acked := insertInt x.acked cp } }], .cells 0 14 52 true [Up.zero.enc], .dead, .dead, .dead, .dead, .dead]) rfl ?_ ?_) (Rt_pure (by rfl) (by rfl))
  · repeat' (first | exact FzL.nil | refine FzL.cons ?_ ?_ | exact Fz.wk (Wk.refl _) | exact Fz.wk (Wk.nil _) | exact Fz.wk (Wk.emp _) | exact Fz.row0 _ _ _ _ | exact FzH.nil _ | exact FzO.refl _ | refine FzO.one ?_ | refine FzH.cons (by decide) ?_ ?_ | refine FzH.this rfl ?_ | exact FzO.dead (by simp) | (simp only [List.forall_mem_cons, List.not_mem_nil, false_implies, implies_true, and_true, go_sem, seval]) | refine And.intro ?_ ?_)
  · repeat' (first | exact FzL.nil | refine FzL.cons ?_ ?_ | exact Fz.wk (Wk.refl _) | exact Fz.wk (Wk.nil _) | exact Fz.wk (Wk.emp _) | exact Fz.row0 _ _ _ _ | exact FzH.nil _ | exact FzO.refl _ | refine FzO.one ?_ | refine FzH.cons (by decide) ?_ ?_ | refine FzH.this rfl ?_ | exact FzO.dead (by simp) | (simp only [List.forall_mem_cons, List.not_mem_nil, false_implies, implies_true, and_true, go_sem, seval]) | refine And.intro ?_ ?_)
    all_goals first | exact Fz.wk (Wk.refl _) | exact Fz.row 0 _ (by rw [List.drop_zero]; exact List.take_of_length_le (by simp)) (cloE_map fun _ => by rfl)

theorem c204_3 {s : Station} {slot : Int} {c : TCell} {p : Packet} (hC : s.tab.cells.length < 2 ^ 62) (hL : s.q.pk.length < 2 ^ 62) (hk : c.kind = 3) (hq : candidate s = some p) : ACalls prog 51 [.ptr 0 0 0 0] [.cells 0 21 77 true [wEnc s slot c]] (.agg p.enc) [.cells 0 21 77 true [wEnc s slot c]] := by
  have h104 := c104_ok (s := s) (slot := slot) (c := c) hC hL
  rw [hq, oPk_some] at h104
  rcases c with ⟨cs, co, ck, cd, cp, cf⟩
  obtain rfl : ck = 3 := hk
  refine calls_of hmx func51 (by kernel_rfl) (c := f51.body.getD .skip) rfl e204 (rs := [(.cell 2 true 6)]) (by kernel_rfl) (by simp [ntmps51]) ?_
  simp only [c204, argS]
  repeat' first | refine CX_rd [0] (h104) (by rfl) (by rfl) (by rfl) (by rfl) (by rfl) (by decide) (by rfl) (by rfl) (by rfl) ?_ | (with_reducible intro h; try simp only [h]) | (with_reducible refine And.intro ?_ ?_) | (change chk _ _ = true; rfl) | simp only [go_sem, seval, Vc_bool] | refine (GX_split rfl).2 ?_
  exact Rt_T (H := [_]) _ (by rfl) (by rfl) (by rfl) (Nat.le_refl _)
theorem chain_mem {α : Type} {ok : α → Bool} {lt : α → α → Bool} : ∀ (xs : List α) (p : Option α), chain ok lt p xs = true → ∀ x ∈ xs, ok x = true
  | [], _, _, x, hx => by cases hx
  | y :: ys, p, h, x, hx => by
    simp only [chain, Bool.and_eq_true] at h
    rcases List.mem_cons.1 hx with rfl | hx
    · exact h.1.1
    · exact chain_mem ys (some y) h.2 x hx
theorem acked_srt {s : Station} {x : Held} (h : stOk s = true) (hx : x ∈ s.held) : x.acked.Pairwise (fun a b => a < b) := by
  simp only [stOk, heldOk, Bool.and_eq_true, decide_eq_true_eq] at h
  have h1 := chain_mem _ _ h.1.1.1.1.1.1.1.2.1 x hx
  simp only [hOk, hRange, rising, Bool.and_eq_true] at h1
  exact (chain_pair (f := fun n : Int => n) (fun a b h => of_decide_eq_true h) _ _ h1.1.2).1
/-- heard, whatever was heard. -/
theorem c105_got {s : Station} {slot : Int} {c : TCell} {f : Sp.Frame} (hL : s.held.length < 2 ^ 62) (hS : s.seen.length < 2 ^ 40) (hs : s.seen.Pairwise (fun a b => a.node < b.node)) :
    ACalls prog 24 [.ptr 0 0 0 0, .agg f.enc] [.cells 0 21 77 true [wEncN s 1 slot c], .cells 1 2 102 false (s.seen.map Seen.enc)] (.agg (gotFr s f).2.enc) [.cells 0 21 77 true [wEnc (gotFr s f).1 slot c], .dead] := by
  cases hF : frFor f s.tab.node with
  | false =>
    have e : gotFr s f = (s, Up.zero) := by simp [gotFr, hF]
    rw [e]
    exact c105_no (by rw [hF]; rfl)
  | true =>
    by_cases h2 : f.kind = 2
    · have e : gotFr s f = (s, Up.zero) := by simp [gotFr, h2]
      rw [e]
      exact c105_no (by simp [h2])
    · by_cases h1 : f.kind = 1
      · have e : gotFr s f = (s, ⟨true, upNew s f, f⟩) := by simp [gotFr, hF, h1, upNew]; cases heldOf s.held f.flow <;> rfl
        rw [e]
        exact c105_1 hL hF h1 rfl
      · by_cases h4 : f.kind = 4 ∧ f.tgt = s.tab.node
        · have h := c105_4 (s := s) (slot := slot) (c := c) (f := f) hS (hs.imp fun h => Int.le_of_lt h) hF h4.1 h4.2
          have e1 : (s.seen.any fun y => decide ((⟨f.src, f.seq⟩ : Seen) = y)) = s.seen.any fun y => decide (y = (⟨f.src, f.seq⟩ : Seen)) := by
            congr 1; funext y; rw [decide_eq_decide]; exact eq_comm
          have e2 : seeAt s.seen ⟨f.src, f.seq⟩ = see s.seen ⟨f.src, f.seq⟩ := put_srt (f := fun y : Seen => y.node) hs
          rw [e1, e2] at h
          have e : gotFr s f = ({ s with seen := see s.seen ⟨f.src, f.seq⟩ }, ⟨true, !(s.seen.any fun y => decide (y = ⟨f.src, f.seq⟩)), f⟩) := by simp [gotFr, hF, h4.1, h4.2]
          rw [e]
          exact h
        · have e : gotFr s f = (s, ⟨true, true, f⟩) := by simp [gotFr, hF, h1, h2, h4]
          rw [e]
          refine c105_3 hF (by simpa using h1) (by simpa using h2) ?_
          rw [Bool.and_eq_false_iff, decide_eq_false_iff_not, decide_eq_false_iff_not]
          by_cases h5 : f.kind = 4
          · exact .inr fun h => h4 ⟨h5, h⟩
          · exact .inl h5
structure DnBd (s : Station) : Prop where
  cl : ClBd s
  seen : s.seen.length < 2 ^ 40
  ack : ∀ h ∈ s.held, h.acked.length < 2 ^ 40
theorem sent_28 {s : Station} {slot : Int} {r : Sp.Result} {a : Action} {c : TCell} {p : Packet} (hB : ClBd s) (hE : slotErr s slot = 0) (hc : cellAt s slot = c) (hA : ACalls prog 19 [.ptr 0 0 0 0] [.cells 0 21 77 true [wEnc s slot c]] (.agg a.enc) [.cells 0 21 77 true [wEnc s slot c]]) (ha : a.kind = 1) (hf : a.fr.kind = 4)
    (hp : p ∈ s.q.pk) (h204 : ACalls prog 51 [.ptr 0 0 0 0] [.cells 0 21 77 true [wEnc s slot c]] (.agg p.enc) [.cells 0 21 77 true [wEnc s slot c]]) :
    ACalls prog 10 [.agg s.enc, .int .i64 slot, .agg r.enc] [] (.tup [.agg (sentPk s (decide (c.kind = 3)) p r.acked).enc, .agg Up.zero.enc, .int .i64 0]) [] := by
  obtain ⟨g1, g2, g3, g4, g5⟩ := slot0 hE
  obtain ⟨b1, b2, b3, b4, b5⟩ := st_bd g1
  obtain ⟨i, hi⟩ := List.mem_iff_getElem?.1 hp
  have hx : pkIdx s.q.pk p.id = i := by
    rcases idxFrom_range (fun y : Packet => decide (y.id = p.id)) s.q.pk 0 with ⟨h1, h2⟩ | ⟨k, y, h1, h2, h3, h4⟩
    · have := h2 p hp; simp at this
    · have hy : y.id = p.id := of_decide_eq_true h2
      have hik : k = i := by
        rcases Nat.lt_trichotomy k i with h | h | h
        · have hnd := q_nodup g5
          rw [List.pairwise_iff_getElem] at hnd
          obtain ⟨hk', ek⟩ := List.getElem?_eq_some_iff.1 h1
          obtain ⟨hi', ei⟩ := List.getElem?_eq_some_iff.1 hi
          exact absurd (by rw [ek, ei]; exact hy) (hnd k i hk' hi' h)
        · exact h
        · have := h4 i p h hi; simp at this
      rw [pkIdx, h3, hik, Nat.zero_add]
  have h103 := c103_ok (acked := r.acked) hB.q g5 hi hx b1 b2 b3 b5 h204
  rw [sent_at g5 hi]
  refine c28_sent hB hE (by rw [hc]; exact hA) ha hf ?_
  rw [hc]
  exact h103
theorem listen_28 {s : Station} {slot : Int} {r : Sp.Result} {c : TCell} (hB : DnBd s) (hE : slotErr s slot = 0) (hc : cellAt s slot = c)
    (hA : ACalls prog 19 [.ptr 0 0 0 0] [.cells 0 21 77 true [wEnc s slot c]] (.agg (Action.enc ⟨2, c.off, Frame.zero⟩)) [.cells 0 21 77 true [wEnc s slot c]])
    (hN : ACalls prog 19 [.ptr 0 0 0 0] [.cells 0 21 77 true [wEncN s 1 slot c], .cells 1 2 102 false (s.seen.map Seen.enc)] (.agg (Action.enc ⟨2, c.off, Frame.zero⟩)) [.cells 0 21 77 true [wEncN s 1 slot c], .cells 1 2 102 false (s.seen.map Seen.enc)]) :
    ACalls prog 10 [.agg s.enc, .int .i64 slot, .agg r.enc] [] (.tup [.agg (if r.heard = true then gotFr (waited s c) r.fr else (waited s c, Up.zero)).1.enc, .agg (if r.heard = true then gotFr (waited s c) r.fr else (waited s c, Up.zero)).2.enc, .int .i64 0]) [] := by
  obtain ⟨g1, g2, g3, g4, g5⟩ := slot0 hE
  obtain ⟨b1, b2, b3, b4, b5⟩ := st_bd g1
  have hst := hB.cl.st
  cases hh : r.heard with
  | false =>
    have h := c28_lis (r := r) (a := ⟨2, c.off, Frame.zero⟩) hB.cl hE b4 (by rw [hc]; exact hA) rfl hh
    rw [hc] at h
    exact h
  | true =>
    have hs := seen_srt g1
    by_cases h3 : c.kind = 3 ∧ (candidate s).isSome = true
    · obtain ⟨p, hp⟩ := Option.isSome_iff_exists.1 h3.2
      have e : waited s c = { s with wait := s.wait - 1 } := by rw [waited, if_pos h3]
      rw [e]
      refine c28_heard3 (a := ⟨2, c.off, Frame.zero⟩) hB.cl hE b4 (by rw [hc]; exact hN) rfl (by rw [hc]; exact h3.1) hp hh ?_
      rw [hc]
      exact c105_got (s := { s with wait := s.wait - 1 }) hst.2.2.1 hB.seen hs
    · have e : waited s c = s := by rw [waited, if_neg h3]
      rw [e]
      refine c28_heard (a := ⟨2, c.off, Frame.zero⟩) hB.cl hE (by rw [hc]; exact hN) rfl ?_ hh ?_
      · rw [hc]
        by_cases h4 : c.kind = 3
        · right
          cases hq : candidate s with
          | none => rfl
          | some p => exact absurd ⟨h4, by rw [hq]; rfl⟩ h3
        · exact .inl h4
      · rw [hc]
        exact c105_got hst.2.2.1 hB.seen hs

theorem done_lis {s : Station} {slot : Int} {r : Sp.Result} {c : TCell} {pk : Option Packet} (hp : plan s slot = ⟨⟨2, c.off, Frame.zero⟩, c, pk⟩) (hw : waited s c = if pk.isSome = true then { s with wait := s.wait - 1 } else s) :
    doneP s slot r = if r.heard = true then gotFr (waited s c) r.fr else (waited s c, Up.zero) := by
  cases pk <;> simp [doneP, hp, hw]
theorem done_sleep {s : Station} {slot : Int} {r : Sp.Result} {c : TCell} {pk : Option Packet} (hp : plan s slot = ⟨Action.zero, c, pk⟩) : doneP s slot r = (s, Up.zero) := by
  simp only [doneP, hp]
  rfl
theorem done_sent {s : Station} {slot : Int} {r : Sp.Result} {c : TCell} {a : Action} {p : Packet} (hp : plan s slot = ⟨a, c, some p⟩) (ha : a.kind = 1) : doneP s slot r = (sentPk s (decide (c.kind = 3)) p r.acked, Up.zero) := by
  simp only [doneP, hp, ha, if_true]
theorem done_data {s : Station} {slot : Int} {r : Sp.Result} {c : TCell} {a : Action} (hp : plan s slot = ⟨a, c, none⟩) (ha : a.kind = 1) : doneP s slot r = (if r.acked = true then { s with held := ackH s.held c.flow c.peer } else s, Up.zero) := by
  simp only [doneP, hp, ha, if_true]
/-- Done returns what it should. -/
theorem c28_ok {s : Station} {slot : Int} {r : Sp.Result} (hB : DnBd s) : ACalls prog 10 [.agg s.enc, .int .i64 slot, .agg r.enc] [] (.tup [.agg (doneE s slot r).1.enc, .agg (doneE s slot r).2.1.enc, .int .i64 (doneE s slot r).2.2]) [] := by
  have hst := hB.cl.st
  by_cases hE : slotErr s slot = 0
  · have e0 : doneE s slot r = ((doneP s slot r).1, (doneP s slot r).2, 0) := by simp [doneE, hE]
    rw [e0]
    obtain ⟨g1, g2, g3, g4, g5⟩ := slot0 hE
    cases hc : tabAt s.tab slot with
    | none =>
      have e1 : cellAt s slot = TCell.zero := by rw [cellAt, hc]; rfl
      have e2 : plan s slot = ⟨Action.zero, TCell.zero, none⟩ := by simp only [plan, hc]
      rw [done_sleep e2]
      exact c28_sleep (a := Action.zero) hB.cl hE (by rw [e1]; exact c97_0 rfl) rfl
    | some c =>
      have e1 : cellAt s slot = c := by rw [cellAt, hc]; rfl
      have hm : ∀ (l : List Int), (l.any fun y => decide (c.peer = y)) = true ↔ c.peer ∈ l := by intro l; simp [List.any_eq_true]
      rcases cell_kind g4 (tabAt_mem hc) with hk | hk | hk
      · have hA := c97_1 (slot := slot) hk (c192_ok (s := s) (slot := slot) hst.2.2.1 hst.2.2.2.1)
        by_cases hs : c.send = true
        · cases hh : heldOf s.held c.flow with
          | none =>
            have e2 : plan s slot = ⟨Action.zero, c, none⟩ := by simp [plan, hc, hk, hs, hh]
            have e3 : offd (ctlSt s slot c) c = Action.zero := by simp [ctlSt, hs, hh, offd, Action.zero]
            rw [e3] at hA
            rw [done_sleep e2]
            exact c28_sleep (a := Action.zero) hB.cl hE (by rw [e1]; exact hA) rfl
          | some x =>
            by_cases hx : x.upto < slot ∨ c.peer ∈ x.acked
            · have e2 : plan s slot = ⟨Action.zero, c, none⟩ := by simp [plan, hc, hk, hs, hh, hx]
              have e3 : offd (ctlSt s slot c) c = Action.zero := by simp [ctlSt, hs, hh, hm, hx, offd, Action.zero]
              rw [e3] at hA
              rw [done_sleep e2]
              exact c28_sleep (a := Action.zero) hB.cl hE (by rw [e1]; exact hA) rfl
            · have e2 : plan s slot = ⟨⟨1, c.off, dataOf s x c.peer⟩, c, none⟩ := by simp [plan, hc, hk, hs, hh, hx]
              have e3 : offd (ctlSt s slot c) c = ⟨1, c.off, dataOf s x c.peer⟩ := by simp [ctlSt, hs, hh, hm, hx, offd]
              rw [e3] at hA
              rw [done_data e2 rfl]
              cases hr : r.acked with
              | false =>
                exact c28_data0 (a := ⟨1, c.off, dataOf s x c.peer⟩) hB.cl hE (by rw [e1]; exact hA) rfl rfl hr
              | true =>
                rcases idxFrom_find (fun h : Held => decide (h.flow = c.flow)) s.held with ⟨h1, h2⟩ | ⟨j, y, h1, h2, h3, h4, h5⟩
                · have : heldOf s.held c.flow = none := h2
                  rw [this] at hh; cases hh
                · have h4' : heldOf s.held c.flow = some y := h4
                  rw [hh] at h4'
                  injection h4' with h4'
                  subst h4'
                  have hi : heldIdx s.held c.flow = j := h3
                  have hxm : x ∈ s.held := List.mem_of_getElem? h1
                  have e5 : ackH s.held c.flow c.peer = s.held.set j { x with acked := insertInt x.acked c.peer } := by
                    simp only [ackH, hh, hi, Int.toNat_natCast]
                  simp only [if_true]
                  rw [e5]
                  have hq := c28_ack (r := r) hB.cl hE h1 (by rw [e1]; exact hi) (by rw [e1]; exact of_decide_eq_true h2) hst.2.2.1 (by have := hB.ack x hxm; omega) (by rw [e1]; exact hk) (by rw [e1]; exact hs) (by simpa using fun h => hx (.inl h)) (by rw [e1]; exact Bool.eq_false_iff.2 fun h => hx (.inr ((hm _).1 h))) ((acked_srt g1 hxm).imp fun h => Int.le_of_lt h) hr
                  rw [e1] at hq
                  exact hq
        · have hs' : c.send = false := by simpa using hs
          have e2 : plan s slot = ⟨⟨2, c.off, Frame.zero⟩, c, none⟩ := by simp [plan, hc, hk, hs']
          have e3 : offd (ctlSt s slot c) c = ⟨2, c.off, Frame.zero⟩ := by simp [ctlSt, hs', offd]
          rw [e3] at hA
          rw [done_lis e2 (by simp [waited, hk])]
          exact listen_28 hB hE e1 hA (c97n_1 hk hs')
      · have hA := c97_2 (slot := slot) hk (c193_ok (s := s) (slot := slot) hst.2.1)
        by_cases hs : c.send = true
        · cases hh : qFirst s.q c.peer with
          | none =>
            have e2 : plan s slot = ⟨Action.zero, c, none⟩ := by simp [plan, hc, hk, hs, hh]
            have e3 : offd (agSt s c) c = Action.zero := by simp [agSt, hs, hh, offd, Action.zero]
            rw [e3] at hA
            rw [done_sleep e2]
            exact c28_sleep (a := Action.zero) hB.cl hE (by rw [e1]; exact hA) rfl
          | some p =>
            have e2 : plan s slot = ⟨⟨1, c.off, msgOf s p⟩, c, some p⟩ := by simp [plan, hc, hk, hs, hh]
            have e3 : offd (agSt s c) c = ⟨1, c.off, msgOf s p⟩ := by simp [agSt, hs, hh, offd]
            rw [e3] at hA
            rw [done_sent e2 rfl]
            have hp : p ∈ s.q.pk := by
              have h := hh
              rw [qFirst, if_neg (by simpa using g5)] at h
              exact List.mem_of_find?_eq_some h
            exact sent_28 (a := ⟨1, c.off, msgOf s p⟩) hB.cl hE e1 hA rfl rfl hp (c204_2 hst.2.1 hk hh)
        · have hs' : c.send = false := by simpa using hs
          have e2 : plan s slot = ⟨⟨2, c.off, Frame.zero⟩, c, none⟩ := by simp [plan, hc, hk, hs']
          have e3 : offd (agSt s c) c = ⟨2, c.off, Frame.zero⟩ := by simp [agSt, hs', offd]
          rw [e3] at hA
          rw [done_lis e2 (by simp [waited, hk])]
          exact listen_28 hB hE e1 hA (c97n_2 hk hs')
      · have hA := c97_3 (slot := slot) hk (c194_ok (s := s) (slot := slot) hst.1 hst.2.1)
        cases hh : candidate s with
        | none =>
          have e2 : plan s slot = ⟨⟨2, c.off, Frame.zero⟩, c, none⟩ := by simp [plan, hc, hk, hh]
          have e3 : offd (shSt s) c = ⟨2, c.off, Frame.zero⟩ := by simp [shSt, hh, offd]
          rw [e3] at hA
          rw [done_lis e2 (by simp [waited, hh])]
          exact listen_28 hB hE e1 hA (c97n_3 hst.1 hst.2.1 hk (.inl hh))
        | some p =>
          by_cases hw : s.wait = 0
          · have e2 : plan s slot = ⟨⟨1, c.off, msgOf s p⟩, c, some p⟩ := by simp [plan, hc, hk, hh, hw]
            have e3 : offd (shSt s) c = ⟨1, c.off, msgOf s p⟩ := by simp [shSt, hh, hw, offd]
            rw [e3] at hA
            rw [done_sent e2 rfl]
            have hp : p ∈ s.q.pk := List.mem_of_find?_eq_some hh
            exact sent_28 (a := ⟨1, c.off, msgOf s p⟩) hB.cl hE e1 hA rfl rfl hp (c204_3 hst.1 hst.2.1 hk hh)
          · have e2 : plan s slot = ⟨⟨2, c.off, Frame.zero⟩, c, some p⟩ := by simp [plan, hc, hk, hh, hw]
            have e3 : offd (shSt s) c = ⟨2, c.off, Frame.zero⟩ := by simp [shSt, hh, hw, offd]
            rw [e3] at hA
            rw [done_lis e2 (by simp [waited, hk, hh])]
            exact listen_28 hB hE e1 hA (c97n_3 hst.1 hst.2.1 hk (.inr hw))
  · have e0 : doneE s slot r = (Station.zero, Up.zero, slotErr s slot) := by simp [doneE, hE]
    rw [e0]
    exact c28_err hB.cl hE

/-! MacBacksOff: the station, and what it does. -/
def tabBO : Table := ⟨1, 1, [⟨0, 0, 3, false, -1, -1⟩]⟩
def cBO : TCell := ⟨0, 0, 3, false, -1, -1⟩
def dx : ByteArray := ByteArray.mk #[120]
def pkBO (to : Int) : Packet := ⟨1, to, 0, 0, 4096, dx⟩
def stN (sd : Int) : Station := ⟨tabBO, ⟨4, []⟩, [], [], 0, 0, -1, 0, 0, 0, sd⟩
def stW (to k b w sd : Int) : Station := ⟨tabBO, ⟨4, [pkBO to]⟩, [], [], 0, 0, if k = 0 then -1 else 1, k, b, w, sd⟩
def stE (b sd : Int) : Station := ⟨tabBO, ⟨4, []⟩, [], [], 0, 1, -1, 0, b, 0, sd⟩
def most (to : Int) : Int := if to = -1 then 1 else 4
structure OkW (to k b w sd : Int) : Prop where
  ht : to = -1 ∨ to = 0 ∨ to = 2
  hk : 0 ≤ k ∧ k < most to
  hb : 0 ≤ b ∧ b ≤ 5
  hw : 0 ≤ w ∧ w < 2 ^ b.toNat
  hs : 0 ≤ sd ∧ sd ≤ 2147483647
def r0 : Sp.Result := ⟨false, false, Frame.zero, 0⟩
section
variable {to k b w sd : Int}
theorem OkW.k4 (h : OkW to k b w sd) : k ≤ 3 ∧ w ≤ 31 := by
  have := h.hk.2
  have h2 := two_pow h.hb
  have h3 := h.hw
  unfold most at this
  constructor
  · split at this <;> omega
  · omega
theorem qBO (h : to = -1 ∨ to = 0 ∨ to = 2) : qErr ⟨4, [pkBO to]⟩ = 0 ∧ pkErr (pkBO to) = 0 := by
  rcases h with rfl | rfl | rfl <;> exact ⟨by rfl, by rfl⟩
theorem stW_ok (h : OkW to k b w sd) : stOk (stW to k b w sd) = true := by
  have h1 := h.hb
  have h2 := h.hw
  have h3 := h.hs
  have h4 := h.hk
  have h5 := h.k4
  have e1 : tabErr tabBO = 0 := by decide
  have e2 := (qBO h.ht).1
  have e3 : to ≠ 1 := by have := h.ht; omega
  have e4 : tryOk (stW to k b w sd) = true := by
    by_cases hk : k = 0
    · simp [tryOk, stW, hk]
    · simp [tryOk, stW, hk, hasId, pkBO]; omega
  have e5 : pksOk (stW to k b w sd) = true := by
    simp only [pksOk, stW, e2]
    simp [pkBO, tabBO, e3]
    decide
  have e6 : heldOk [] = true := rfl
  have e7 : seenOk [] = true := rfl
  simp only [stOk, e4, e5]
  simp only [stW, e1, e6, e7, wi]
  simp
  repeat' apply And.intro
  all_goals first | omega | exact decide_eq_true (by omega) | skip
theorem stE_ok (hb : 0 ≤ b ∧ b ≤ 5) (hs : 0 ≤ sd ∧ sd ≤ 2147483647) : stOk (stE b sd) = true := by
  have e1 : tabErr tabBO = 0 := by decide
  have e2 : pksOk (stE b sd) = true := rfl
  have e4 : tryOk (stE b sd) = true := rfl
  have e6 : heldOk [] = true := rfl
  have e7 : seenOk [] = true := rfl
  have hp : (0 : Int) < 2 ^ b.toNat := Int.pow_pos (by decide)
  simp only [stOk, e2, e4]
  simp only [stE, e1, e6, e7, wi]
  simp
  repeat' apply And.intro
  all_goals first | omega | exact decide_eq_true (by omega) | skip
theorem stN_ok (hs : 0 ≤ sd ∧ sd ≤ 2147483647) : stOk (stN sd) = true := by
  have e1 : tabErr tabBO = 0 := by decide
  have e2 : pksOk (stN sd) = true := rfl
  have e4 : tryOk (stN sd) = true := rfl
  have e6 : heldOk [] = true := rfl
  have e7 : seenOk [] = true := rfl
  simp only [stOk, e2, e4]
  simp only [stN, e1, e6, e7, wi]
  simp
  repeat' apply And.intro
  all_goals first | omega | exact decide_eq_true (by omega) | skip
theorem slotBO {s : Station} {i : Nat} (h : stOk s = true) (hi : i ≤ 60) : slotErr s (i : Int) = 0 := by
  unfold slotErr
  rw [if_neg (by simp [h]), if_neg]
  simp only [Bool.or_eq_true, decide_eq_true_eq]
  omega
theorem atBO {i : Nat} : tabAt tabBO (i : Int) = some cBO := by
  have e : (i : Int).tmod 1 = 0 := by rw [Int.tmod_eq_emod_of_nonneg (by omega), Int.emod_one]
  have e0 : tabErr tabBO = 0 := by decide
  rw [tabAt, if_neg (by simp [e0])]
  simp [tabBO, e, cBO]
theorem candW (h : to = -1 ∨ to = 0 ∨ to = 2) : candidate (stW to k b w sd) = some (pkBO to) := by
  rcases h with rfl | rfl | rfl <;> rfl
theorem planW {i : Nat} (h : OkW to k b w sd) : plan (stW to k b w sd) (i : Int) = if w = 0 then ⟨⟨1, 0, msgOf (stW to k b w sd) (pkBO to)⟩, cBO, some (pkBO to)⟩ else ⟨⟨2, 0, Frame.zero⟩, cBO, some (pkBO to)⟩ := by
  have h1 : tabAt (stW to k b w sd).tab (i : Int) = some cBO := atBO
  have h2 := candW (k := k) (b := b) (w := w) (sd := sd) h.ht
  simp only [plan, h1, h2]
  rw [if_neg (by simp [cBO]), if_neg (by simp [cBO]), if_pos (by rfl)]
  by_cases hw : w = 0
  · rw [if_pos (show (stW to k b w sd).wait = 0 from hw), if_pos hw]; rfl
  · rw [if_neg (show ¬ (stW to k b w sd).wait = 0 from hw), if_neg hw]; rfl
theorem planE {i : Nat} : plan (stE b sd) (i : Int) = ⟨⟨2, 0, Frame.zero⟩, cBO, none⟩ := by
  have h1 : tabAt (stE b sd).tab (i : Int) = some cBO := atBO
  have h2 : candidate (stE b sd) = none := rfl
  simp only [plan, h1, h2]
  rfl
theorem actW {i : Nat} (h : OkW to k b w sd) (hi : i ≤ 60) : actSt (stW to k b w sd) (i : Int) = (if w = 0 then ⟨1, 0, msgOf (stW to k b w sd) (pkBO to)⟩ else ⟨2, 0, Frame.zero⟩, 0) := by
  simp only [actSt, slotBO (stW_ok h) hi, planW h]
  by_cases hw : w = 0 <;> simp [hw]
theorem actE {i : Nat} (hb : 0 ≤ b ∧ b ≤ 5) (hs : 0 ≤ sd ∧ sd ≤ 2147483647) (hi : i ≤ 60) : actSt (stE b sd) (i : Int) = (⟨2, 0, Frame.zero⟩, 0) := by
  simp [actSt, slotBO (stE_ok hb hs) hi, planE]
theorem doneE0 {i : Nat} (hb : 0 ≤ b ∧ b ≤ 5) (hs : 0 ≤ sd ∧ sd ≤ 2147483647) (hi : i ≤ 60) : doneE (stE b sd) (i : Int) r0 = (stE b sd, Up.zero, 0) := by
  have e : doneP (stE b sd) (i : Int) r0 = (stE b sd, Up.zero) := by simp only [doneP, planE]; rfl
  simp [doneE, slotBO (stE_ok hb hs) hi, e]
theorem doneWw {i : Nat} (h : OkW to k b w sd) (hw : w ≠ 0) (hi : i ≤ 60) : doneE (stW to k b w sd) (i : Int) r0 = (stW to k b (w - 1) sd, Up.zero, 0) ∧ OkW to k b (w - 1) sd := by
  have hp := planW (i := i) h
  rw [if_neg hw] at hp
  have e : doneP (stW to k b w sd) (i : Int) r0 = (stW to k b (w - 1) sd, Up.zero) := by simp only [doneP, hp]; rfl
  refine ⟨by simp [doneE, slotBO (stW_ok h) hi, e], h.ht, h.hk, h.hb, ?_, h.hs⟩
  have := h.hw
  omega
/-- Behind sending: the packet is gone, or the station waits. -/
theorem doneWs {i : Nat} (h : OkW to k b 0 sd) (hi : i ≤ 60) :
    (k + 1 = most to ∧ ∃ b', (0 ≤ b' ∧ b' ≤ 5) ∧ doneE (stW to k b 0 sd) (i : Int) r0 = (stE b' sd, Up.zero, 0)) ∨
    (∃ b' w' sd', OkW to (k + 1) b' w' sd' ∧ doneE (stW to k b 0 sd) (i : Int) r0 = (stW to (k + 1) b' w' sd', Up.zero, 0)) := by
  have hp := planW (i := i) h
  rw [if_pos rfl] at hp
  have hk := h.hk
  have hs := h.hs
  have hb := h.hb
  have e : doneP (stW to k b 0 sd) (i : Int) r0 = (sentPk (stW to k b 0 sd) true (pkBO to) false, Up.zero) := by
    rw [done_sent hp rfl]; rfl
  have e2 : doneE (stW to k b 0 sd) (i : Int) r0 = (sentPk (stW to k b 0 sd) true (pkBO to) false, Up.zero, 0) := by simp [doneE, slotBO (stW_ok h) hi, e]
  rw [e2]
  by_cases ht : to = -1
  · left
    subst ht
    have hk0 : k = 0 := by have := hk.2; simp [most] at this; omega
    subst hk0
    exact ⟨rfl, b, hb, rfl⟩
  · have hm : most to = 4 := by simp [most, ht]
    rw [hm] at hk
    have hn : (if (stW to k b 0 sd).trying = (pkBO to).id then (stW to k b 0 sd).tries + 1 else 1) = k + 1 := by
      by_cases hk0 : k = 0 <;> simp [stW, pkBO, hk0]
    have hpt : ¬ (pkBO to).to = -1 := ht
    by_cases h4 : 4 ≤ k + 1
    · left
      refine ⟨by omega, 0, ⟨by decide, by decide⟩, ?_⟩
      have : sentPk (stW to k b 0 sd) true (pkBO to) false = stE 0 sd := by
        unfold sentPk
        rw [if_neg hpt]
        simp only [hn]
        rw [if_pos (.inr h4)]
        rfl
      rw [this]
    · right
      have hns : 0 ≤ nextSeed sd ∧ nextSeed sd ≤ 2147483647 := by
        unfold nextSeed
        rw [Int.tmod_eq_emod_of_nonneg (by omega)]
        omega
      have hpw : (0 : Int) < 2 ^ (min (b + 1) 5).toNat := Int.pow_pos (by decide)
      refine ⟨min (b + 1) 5, ((nextSeed sd).tdiv 65536).tmod (2 ^ (min (b + 1) 5).toNat), nextSeed sd, ⟨h.ht, by rw [hm]; omega, by omega, ?_, hns⟩, ?_⟩
      · have h0 : 0 ≤ (nextSeed sd).tdiv 65536 := by rw [Int.tdiv_eq_ediv_of_nonneg hns.1]; omega
        rw [Int.tmod_eq_emod_of_nonneg h0]
        exact ⟨Int.emod_nonneg _ (by omega), Int.emod_lt_of_pos _ hpw⟩
      · have hk1 : ¬ k + 1 = 0 := by omega
        have : sentPk (stW to k b 0 sd) true (pkBO to) false = stW to (k + 1) (min (b + 1) 5) (((nextSeed sd).tdiv 65536).tmod (2 ^ (min (b + 1) 5).toNat)) (nextSeed sd) := by
          unfold sentPk
          rw [if_neg hpt]
          simp only [hn]
          rw [if_neg (by simp; omega)]
          simp [stW, hk1, pkBO]
        rw [this]
end

def c4L1 : SC := (.seq (.reg [(.bin 59 .lss (.t 58) (.t 57))]) (.seq (.cond (.t 59) .skip (.exit 0)) (.seq (.block 1 (.seq (.reg [(.mv 60 (.t 58)), (.mv 14 (.t 60))]) (.seq (.reg [(.ld 62 (.t 7) true 14), (.mv 63 (.t 14)), (.call (some 64) (.c (.func 9 [] [])) [(.t 62), (.t 63)]), (.mv 61 (.t 64)), (.ext 65 (.t 61) 0), (.ext 66 (.t 61) 1), (.alc 15 46 [(.int .i64 0), (.int .i64 0), (.int .i64 0), (.int .i64 0), (.int .i64 0), (.int .i64 0), (.int .i64 0), (.int .i64 0), (.int .i64 0), (.int .i64 0), (.int .i64 0), (.int .i64 0), (.int .i64 0), (.str (ByteArray.mk #[]))]), (.st (.t 15) (.t 65) 14), (.mv 16 (.t 66))]) (.seq (.reg [(.ld 68 (.t 7) true 14), (.mv 69 (.t 14)), (.bld 70 [(.bool false), (.bool false), (.int .i64 0), (.int .i64 0), (.int .i64 0), (.int .i64 0), (.int .i64 0), (.int .i64 0), (.int .i64 0), (.int .i64 0), (.int .i64 0), (.int .i64 0), (.int .i64 0), (.str (ByteArray.mk #[])), (.int .i64 0)] []), (.call (some 71) (.c (.func 10 [] [])) [(.t 68), (.t 69), (.t 70)]), (.mv 67 (.t 71)), (.ext 72 (.t 67) 0), (.ext 73 (.t 67) 1), (.ext 74 (.t 67) 2), (.alc 17 35 [(.int .i64 0), (.int .i64 0), .nil, (.int .i64 0), .nil, .nil, .nil, (.int .i64 0), (.int .i64 0), (.int .i64 0), (.int .i64 0), (.int .i64 0), (.int .i64 0), (.int .i64 0)]), (.alc 18 52 [(.bool false), (.bool false), (.int .i64 0), (.int .i64 0), (.int .i64 0), (.int .i64 0), (.int .i64 0), (.int .i64 0), (.int .i64 0), (.int .i64 0), (.int .i64 0), (.int .i64 0), (.int .i64 0), (.str (ByteArray.mk #[]))]), (.st (.t 17) (.t 72) 14), (.st (.t 18) (.t 73) 14), (.mv 19 (.t 74))]) (.seq (.seq (.reg [(.mv 75 (.t 16)), (.bin 76 .neq (.t 75) (.c (.int .i64 0))), (.mv 77 (.t 76)), (.g 77 false (some 78) (.mv 78 (.t 19))), (.g 77 false (some 79) (.bin 79 .neq (.t 78) (.c (.int .i64 0)))), (.pick 80 (.t 77) (.c (.bool true)) (.t 79)), (.mv 81 (.t 80)), (.g 81 false (some 82) (.fa 82 (.t 17) 12)), (.g 81 false (some 83) (.ld 83 (.t 82) false 1)), (.g 81 false (some 84) (.bin 84 .lss (.t 83) (.c (.int .i64 0)))), (.pick 85 (.t 81) (.c (.bool true)) (.t 84)), (.mv 86 (.t 85)), (.g 86 false (some 87) (.fa 87 (.t 17) 12)), (.g 86 false (some 88) (.ld 88 (.t 87) false 1)), (.g 86 false (some 89) (.bin 89 .gtr (.t 88) (.c (.int .i64 31)))), (.pick 90 (.t 86) (.c (.bool true)) (.t 89))]) (.cond (.t 90) (.seq (.reg [(.mv 6 (.c (.bool false)))]) .ret) .skip)) (.seq (.block 2 (.seq (.reg [(.fa 105 (.t 7) 3), (.fa 106 (.t 105) 1), (.ld 107 (.t 106) false 1), (.len 108 false (.t 107)), (.bin 109 .eql (.t 108) (.c (.int .i64 0))), (.mv 110 (.t 109)), (.g 110 false (some 111) (.mv 111 (.t 13))), (.g 110 false (some 112) (.bin 112 .gtr (.t 111) (.c (.int .i64 0)))), (.pick 113 (.t 110) (.c (.bool true)) (.t 112)), (.mv 104 (.t 113))]) (.cond (.t 104) (.seq (.reg [(.fa 114 (.t 15) 0), (.ld 115 (.t 114) false 1), (.bin 116 .neq (.t 115) (.c (.int .i64 2))), (.mv 117 (.t 116)), (.g 117 false (some 118) (.mv 118 (.t 13))), (.g 117 false (some 119) (.bin 119 .gtr (.t 118) (.c (.int .i64 0)))), (.g 117 false (some 120) (.mv 120 (.t 119))), (.g 120 true (some 121) (.fa 121 (.t 17) 12)), (.g 120 true (some 122) (.ld 122 (.t 121) false 1)), (.g 120 true (some 123) (.mv 123 (.t 13))), (.g 120 true (some 124) (.bin 124 .sub (.t 123) (.c (.int .i64 1)))), (.g 120 true (some 125) (.bin 125 .neq (.t 122) (.t 124))), (.g 117 false (some 126) (.pick 126 (.t 120) (.t 125) (.c (.bool false)))), (.pick 127 (.t 117) (.c (.bool true)) (.t 126))]) (.cond (.t 127) (.seq (.reg [(.mv 6 (.c (.bool false)))]) .ret) .skip)) (.seq (.reg [(.mv 91 (.t 12)), (.bin 92 .add (.t 91) (.c (.int .i64 1))), (.mv 12 (.t 92))]) (.seq (.reg [(.fa 93 (.t 15) 0), (.ld 94 (.t 93) false 1), (.bin 95 .neq (.t 94) (.c (.int .i64 1))), (.mv 96 (.t 95)), (.g 96 false (some 97) (.fa 97 (.t 15) 2)), (.g 96 false (some 98) (.fa 98 (.t 97) 2)), (.g 96 false (some 99) (.ld 99 (.t 98) false 1)), (.g 96 false (some 100) (.fa 100 (.t 9) 1)), (.g 96 false (some 101) (.ld 101 (.t 100) false 1)), (.g 96 false (some 102) (.bin 102 .neq (.t 99) (.t 101))), (.pick 103 (.t 96) (.c (.bool true)) (.t 102))]) (.cond (.t 103) (.seq (.reg [(.mv 6 (.c (.bool false)))]) .ret) .skip)))))) (.seq (.reg [(.fa 128 (.t 17) 12), (.ld 129 (.t 128) false 1), (.mv 13 (.t 129))]) (.reg [(.ld 130 (.t 17) true 14), (.st (.t 7) (.t 130) 14)])))))))) (.reg [(.bin 131 .add (.t 58) (.c (.int .i64 1))), (.mv 58 (.t 131))]))))
def c4 : SC := (.seq (.reg [(.mv 6 (.c (.bool false)))]) (.seq (.seq (.reg [(.call (some 21) (.c (.func 5 [] [])) []), (.not 22 (.t 21))]) (.cond (.t 22) (.seq (.reg [(.mv 6 (.c (.bool false)))]) .ret) .skip)) (.seq (.reg [(.bld 24 [(.int .i64 0), (.int .i64 0), (.int .i64 0), (.bool false), (.int .i64 0), (.int .i64 0)] [(2, 1, (.c (.int .i64 3))), (4, 1, (.c (.int .i64 (-1)))), (5, 1, (.c (.int .i64 (-1))))]), (.bsl 25 60 6 [(.int .i64 0), (.int .i64 0), (.int .i64 0), (.bool false), (.int .i64 0), (.int .i64 0)] 1 [(0, (.t 24))]), (.bld 26 [(.int .i64 0), (.int .i64 0), .nil] [(0, 1, (.c (.int .i64 1))), (1, 1, (.c (.int .i64 1))), (2, 1, (.t 25))]), (.mv 27 (.t 0)), (.conv 28 .i64 (.t 27)), (.bin 29 .mul (.t 28) (.c (.int .i64 32768))), (.call (some 30) (.c (.func 11 [] [])) [(.t 26), (.c (.int .i64 4)), (.t 29)]), (.mv 23 (.t 30)), (.ext 31 (.t 23) 0), (.ext 32 (.t 23) 1), (.alc 7 35 [(.int .i64 0), (.int .i64 0), .nil, (.int .i64 0), .nil, .nil, .nil, (.int .i64 0), (.int .i64 0), (.int .i64 0), (.int .i64 0), (.int .i64 0), (.int .i64 0), (.int .i64 0)]), (.st (.t 7) (.t 31) 14), (.mv 8 (.t 32))]) (.seq (.reg [(.mv 33 (.t 1)), (.conv 34 .i64 (.t 33)), (.bin 35 .rem (.t 34) (.c (.int .i64 4))), (.bin 36 .sub (.t 35) (.c (.int .i64 1))), (.bld 37 [(.int .i64 0), (.int .i64 0), (.int .i64 0), (.int .i64 0), (.int .i64 0), (.str (ByteArray.mk #[]))] [(0, 1, (.c (.int .i64 1))), (1, 1, (.t 36)), (4, 1, (.c (.int .i64 4096))), (5, 1, (.c (.str (ByteArray.mk #[120]))))]), (.alc 9 42 [(.int .i64 0), (.int .i64 0), (.int .i64 0), (.int .i64 0), (.int .i64 0), (.str (ByteArray.mk #[]))]), (.st (.t 9) (.t 37) 6)]) (.seq (.seq (.reg [(.fa 38 (.t 9) 1), (.ld 39 (.t 38) false 1), (.bin 40 .eql (.t 39) (.c (.int .i64 1)))]) (.cond (.t 40) (.reg [(.fa 41 (.t 9) 1), (.st (.t 41) (.c (.int .i64 2)) 1)]) .skip)) (.seq (.reg [(.ld 43 (.t 7) true 14), (.ld 44 (.t 9) true 6), (.call (some 45) (.c (.func 8 [] [])) [(.t 43), (.t 44)]), (.mv 42 (.t 45)), (.ext 46 (.t 42) 0), (.ext 47 (.t 42) 1), (.ext 48 (.t 42) 2), (.st (.t 7) (.t 46) 14), (.mv 10 (.t 47)), (.mv 11 (.t 48))]) (.seq (.seq (.reg [(.mv 49 (.t 8)), (.bin 50 .neq (.t 49) (.c (.int .i64 0))), (.mv 51 (.t 50)), (.g 51 false (some 52) (.mv 52 (.t 11))), (.g 51 false (some 53) (.bin 53 .neq (.t 52) (.c (.int .i64 0)))), (.pick 54 (.t 51) (.c (.bool true)) (.t 53))]) (.cond (.t 54) (.seq (.reg [(.mv 6 (.c (.bool false)))]) .ret) .skip)) (.seq (.reg [(.mv 12 (.c (.int .i64 0))), (.mv 13 (.c (.int .i64 0)))]) (.seq (.seq (.reg [(.mv 55 (.t 2)), (.conv 56 .i64 (.t 55)), (.bin 57 .rem (.t 56) (.c (.int .i64 60))), (.mv 58 (.c (.int .i64 0)))]) (.block 0 (.loop c4L1))) (.seq (.reg [(.mv 20 (.c (.int .i64 4)))]) (.seq (.seq (.reg [(.fa 132 (.t 9) 1), (.ld 133 (.t 132) false 1), (.bin 134 .eql (.t 133) (.c (.int .i64 (-1))))]) (.cond (.t 134) (.reg [(.mv 20 (.c (.int .i64 1)))]) .skip)) (.seq (.reg [(.mv 135 (.t 12)), (.mv 136 (.t 20)), (.bin 137 .leq (.t 135) (.t 136)), (.mv 138 (.t 137)), (.g 138 true (some 139) (.mv 139 (.t 12))), (.g 138 true (some 140) (.mv 140 (.t 20))), (.g 138 true (some 141) (.bin 141 .lss (.t 139) (.t 140))), (.g 138 true (some 142) (.mv 142 (.t 141))), (.g 142 false (some 143) (.fa 143 (.t 7) 3)), (.g 142 false (some 144) (.fa 144 (.t 143) 1)), (.g 142 false (some 145) (.ld 145 (.t 144) false 1)), (.g 142 false (some 146) (.len 146 false (.t 145))), (.g 142 false (some 147) (.bin 147 .eql (.t 146) (.c (.int .i64 0)))), (.g 138 true (some 148) (.pick 148 (.t 142) (.c (.bool true)) (.t 147))), (.pick 149 (.t 138) (.t 148) (.c (.bool false))), (.mv 6 (.t 149))]) .ret))))))))))))
theorem e4 : compC prog f4.ntmps (f4.body.getD .skip) = c4 := by kernel_rfl
def hBO (to : Int) (s : Station) : Heap := [.dead, .cells 0 14 35 true [s.enc], .cells 0 6 42 true [(pkBO to).enc]]
section
variable {to k b w sd : Int}
theorem clW : ClBd (stW to k b w sd) := ⟨by show (1:Nat) * 48 ≤ _; decide, by show (1:Nat) * 56 ≤ _; decide, by show (0:Nat) * 64 ≤ _; decide, by show (0:Nat) * 16 ≤ _; decide, by intro h hh; cases hh⟩
theorem clE : ClBd (stE b sd) := ⟨by show (1:Nat) * 48 ≤ _; decide, by show (0:Nat) * 56 ≤ _; decide, by show (0:Nat) * 64 ≤ _; decide, by show (0:Nat) * 16 ≤ _; decide, by intro h hh; cases hh⟩
theorem clN : ClBd (stN sd) := ⟨by show (1:Nat) * 48 ≤ _; decide, by show (0:Nat) * 56 ≤ _; decide, by show (0:Nat) * 64 ≤ _; decide, by show (0:Nat) * 16 ≤ _; decide, by intro h hh; cases hh⟩
theorem dnW : DnBd (stW to k b w sd) := ⟨clW, by show (0:Nat) < _; decide, by intro h hh; cases hh⟩
theorem dnE : DnBd (stE b sd) := ⟨clE, by show (0:Nat) < _; decide, by intro h hh; cases hh⟩
theorem qW : (stW to k b w sd).q.pk = [pkBO to] := rfl
theorem qE : (stE b sd).q.pk = [] := rfl
theorem waW : (stW to k b w sd).wait = w := rfl
theorem waE : (stE b sd).wait = 0 := rfl
theorem mgW : (msgOf (stW to k b w sd) (pkBO to)).tgt = to := rfl
theorem pkt : (pkBO to).to = to := rfl
theorem ln0 : decide (((List.map Packet.enc []).length : Int) = 0) = true := rfl
theorem ln1 {p : Packet} : decide (((List.map Packet.enc [p]).length : Int) = 0) = false := rfl
theorem dsi {a : Int} : decide (a = a) = true := by simp
theorem l4 (ht : to = -1 ∨ to = 0 ∨ to = 2) {N : Nat} (hN : N ≤ 59) (k' : List It)
    (hW : ∀ k b w sd, OkW to k b w sd → ∀ zs, get zs 7 = .ptr 1 0 0 0 → get zs 9 = .ptr 2 0 0 0 → get zs 12 = .int .i64 k → V prog f4.ntmps 0 (Ret [.t 6] 0 (.bool true) []) k' zs (hBO to (stW to k b w sd)))
    (hE : ∀ b sd, ∀ zs, get zs 7 = .ptr 1 0 0 0 → get zs 9 = .ptr 2 0 0 0 → get zs 12 = .int .i64 (most to) → V prog f4.ntmps 0 (Ret [.t 6] 0 (.bool true) []) k' zs (hBO to (stE b sd))) :
    ∀ (n i : Nat), i + n = N →
    (∀ k b w sd, OkW to k b w sd → Lp prog f4.ntmps 0 (Ret [.t 6] 0 (.bool true) []) c4L1 (.blk 0 :: k') [(6, .bool false), (7, .ptr 1 0 0 0), (9, .ptr 2 0 0 0), (12, .int .i64 k), (13, .int .i64 w), (57, .int .i64 N), (58, .int .i64 i)] (hBO to (stW to k b w sd))) ∧
    (∀ b sd, (0 ≤ b ∧ b ≤ 5) → (0 ≤ sd ∧ sd ≤ 2147483647) → Lp prog f4.ntmps 0 (Ret [.t 6] 0 (.bool true) []) c4L1 (.blk 0 :: k') [(6, .bool false), (7, .ptr 1 0 0 0), (9, .ptr 2 0 0 0), (12, .int .i64 (most to)), (13, .int .i64 0), (57, .int .i64 N), (58, .int .i64 i)] (hBO to (stE b sd))) := by
  intro n
  induction n with
  | zero =>
    intro i hi
    have h1 : decide ((i : Int) < (N : Int)) = false := by simp; omega
    constructor
    · intro k b w sd h
      refine Lp.of_eq hmx c4L1.eq_1 ?_
      simp only [go_sem, seval, h1]
      exact hW _ _ _ _ h _ (by rfl) (by rfl) (by rfl)
    · intro b sd hb hs
      refine Lp.of_eq hmx c4L1.eq_1 ?_
      simp only [go_sem, seval, h1]
      exact hE _ _ _ (by rfl) (by rfl) (by rfl)
  | succ n ih =>
    intro i hi
    have h1 : decide ((i : Int) < (N : Int)) = true := by simp; omega
    have w1 : IntKind.i64.wrap ((i : Int) + 1) = ((i + 1 : Nat) : Int) := by rw [wrap_ok (by omega) (by omega)]; rfl
    have hi6 : i ≤ 60 := by omega
    obtain ⟨ihW, ihE⟩ := ih (i + 1) (by omega)
    constructor
    · intro k b w sd h
      have hk4 := h.k4
      have hk := h.hk
      have hw := h.hw
      refine Lp.of_eq hmx c4L1.eq_1 ?_
      have h25 := c25_act (s := stW to k b w sd) (slot := (i : Int)) clW
      rw [actW h hi6] at h25
      have h28 := c28_ok (s := stW to k b w sd) (slot := (i : Int)) (r := r0) dnW
      by_cases h0 : w = 0
      · subst h0
        rw [if_pos rfl] at h25
        have w2 : IntKind.i64.wrap (k + 1) = k + 1 := wrap_ok (by omega) (by omega)
        rcases doneWs h hi6 with ⟨hm, b', hb', hd⟩ | ⟨b', w', sd', h', hd⟩
        · rw [hd] at h28
          have ih' := ihE b' sd hb' h.hs
          rw [← hm] at ih'
          repeat' first | refine CX_pure (h25) rfl rfl rfl rfl ?_ | refine CX_pure (h28) rfl rfl rfl rfl ?_ | refine GX_call (fun _ => (h25)) (by rfl) (by intro h; simp only [h]; rfl) (by rfl) (by rfl) ?_ | refine GX_call (fun _ => (h28)) (by rfl) (by intro h; simp only [h]; rfl) (by rfl) (by rfl) ?_ | (with_reducible intro h; try simp only [h]) | (with_reducible refine And.intro ?_ ?_) | (change chk _ _ = true; rfl) | simp only [go_sem, seval, Vc_bool, hBO, h1, w1, w2, qW, qE, waW, waE, mgW, pkt, ln0, ln1, dsi] | refine (GX_split rfl).2 ?_
          have e2 := fun s T h1 => Lp.bkE (s := s) T ih' h1 (by rfl) (by rfl) (Nat.zero_le _) rfl
          unfold hBO at e2
          exact e2 _ [_, _, _] (by rfl)
        · rw [hd] at h28
          have ih' := ihW (k + 1) b' w' sd' h'
          have hw4 := h'.k4
          have hw5 := h'.hw
          have d1 : decide (w' < 0) = false := by simp; omega
          have d2 : decide (31 < w') = false := by simp; omega
          repeat' first | refine CX_pure (h25) rfl rfl rfl rfl ?_ | refine CX_pure (h28) rfl rfl rfl rfl ?_ | refine GX_call (fun _ => (h25)) (by rfl) (by intro h; simp only [h]; rfl) (by rfl) (by rfl) ?_ | refine GX_call (fun _ => (h28)) (by rfl) (by intro h; simp only [h]; rfl) (by rfl) (by rfl) ?_ | (with_reducible intro h; try simp only [h]) | (with_reducible refine And.intro ?_ ?_) | (change chk _ _ = true; rfl) | simp only [go_sem, seval, Vc_bool, hBO, h1, w1, w2, qW, qE, waW, waE, mgW, pkt, ln0, ln1, dsi, d1, d2] | refine (GX_split rfl).2 ?_
          have e2 := fun s T h1 => Lp.bkE (s := s) T ih' h1 (by rfl) (by rfl) (Nat.zero_le _) rfl
          unfold hBO at e2
          exact e2 _ [_, _, _] (by rfl)
      · rw [if_neg h0] at h25
        obtain ⟨hd, h'⟩ := doneWw (i := i) h h0 hi6
        rw [hd] at h28
        have ih' := ihW k b (w - 1) sd h'
        have w2 : IntKind.i64.wrap (w - 1) = w - 1 := wrap_ok (by omega) (by omega)
        have d1 : decide (w - 1 < 0) = false := by simp; omega
        have d2 : decide (31 < w - 1) = false := by simp; omega
        have d3 : decide (0 < w) = true := by simp; omega
        repeat' first | refine CX_pure (h25) rfl rfl rfl rfl ?_ | refine CX_pure (h28) rfl rfl rfl rfl ?_ | refine GX_call (fun _ => (h25)) (by rfl) (by intro h; simp only [h]; rfl) (by rfl) (by rfl) ?_ | refine GX_call (fun _ => (h28)) (by rfl) (by intro h; simp only [h]; rfl) (by rfl) (by rfl) ?_ | (with_reducible intro h; try simp only [h]) | (with_reducible refine And.intro ?_ ?_) | (change chk _ _ = true; rfl) | simp only [go_sem, seval, Vc_bool, hBO, h1, w1, w2, qW, qE, waW, waE, mgW, pkt, ln0, ln1, dsi, d1, d2, d3] | refine (GX_split rfl).2 ?_
        have e2 := fun s T h1 => Lp.bkE (s := s) T ih' h1 (by rfl) (by rfl) (Nat.zero_le _) rfl
        unfold hBO at e2
        exact e2 _ [_, _, _] (by rfl)
    · intro b sd hb hs
      refine Lp.of_eq hmx c4L1.eq_1 ?_
      have h25 := c25_act (s := stE b sd) (slot := (i : Int)) clE
      rw [actE hb hs hi6] at h25
      have h28 := c28_ok (s := stE b sd) (slot := (i : Int)) (r := r0) dnE
      rw [doneE0 hb hs hi6] at h28
      have ih' := ihE b sd hb hs
      repeat' first | refine CX_pure (h25) rfl rfl rfl rfl ?_ | refine CX_pure (h28) rfl rfl rfl rfl ?_ | refine GX_call (fun _ => (h25)) (by rfl) (by intro h; simp only [h]; rfl) (by rfl) (by rfl) ?_ | refine GX_call (fun _ => (h28)) (by rfl) (by intro h; simp only [h]; rfl) (by rfl) (by rfl) ?_ | (with_reducible intro h; try simp only [h]) | (with_reducible refine And.intro ?_ ?_) | (change chk _ _ = true; rfl) | simp only [go_sem, seval, Vc_bool, hBO, h1, w1, qW, qE, waW, waE, mgW, pkt, ln0, ln1, dsi] | refine (GX_split rfl).2 ?_
      have e2 := fun s T h1 => Lp.bkE (s := s) T ih' h1 (by rfl) (by rfl) (Nat.zero_le _) rfl
      unfold hBO at e2
      exact e2 _ [_, _, _] (by rfl)
end

section
variable {sd u v : Int}
theorem newBO (h : 0 ≤ sd ∧ sd ≤ 2147483647) : newSt tabBO 4 sd = (stN sd, 0) := by
  have e : wi sd 2147483647 = true := by simp [wi]; omega
  have e0 : tabErr tabBO = 0 := by decide
  rw [newSt, if_neg (by simp [e0]), if_neg (by simp [e])]
  rfl
theorem c20BO (h : 0 ≤ sd ∧ sd ≤ 2147483647) : ACalls prog 11 [.agg [.int .i64 1, .int .i64 1, .sl 6 [[.int .i64 0, .int .i64 0, .int .i64 3, .bool false, .int .i64 (-1), .int .i64 (-1)]]], .int .i64 4, .int .i64 sd] [] (.tup [.agg (stN sd).enc, .int .i64 0]) [] := by
  have h' := c20_pf tabBO 4 sd (by decide)
  rw [newBO h] at h'
  exact h'
theorem putBO {to : Int} (h : 0 ≤ sd ∧ sd ≤ 2147483647) (ht : to = -1 ∨ to = 0 ∨ to = 2) : ACalls prog 8 [.agg (stN sd).enc, .agg (pkBO to).enc] [] (.tup [.agg (stW to 0 0 0 sd).enc, .nil, .int .i64 0]) [] := by
  have h' := c47_put (s := stN sd) (p := pkBO to) clN (stN_ok h) (by show ((0:Nat) + 1) * 56 ≤ _; decide) (qBO ht).2 (by rfl) (by show ((0:Nat) : Int) ≠ 4; decide) (by show to ≠ 1; omega) (by show ((1:Nat) : Int) ≤ 100; decide)
  exact h'
theorem c4_ok (hs : 0 ≤ sd ∧ sd ≤ 65535) (hu : 0 ≤ u ∧ u ≤ 255) (hv : 0 ≤ v ∧ v ≤ 255) : ACalls prog 4 [.int .u16 sd, .int .u8 u, .int .u8 v] [] (.bool true) [] := by
  have wu : IntKind.i64.wrap u = u := wrap_ok (by omega) (by omega)
  have wv : IntKind.i64.wrap v = v := wrap_ok (by omega) (by omega)
  have ws : IntKind.i64.wrap sd = sd := wrap_ok (by omega) (by omega)
  have wm : IntKind.i64.wrap (sd * 32768) = sd * 32768 := wrap_ok (by omega) (by omega)
  have hsd : 0 ≤ sd * 32768 ∧ sd * 32768 ≤ 2147483647 := by omega
  obtain ⟨N, hN, hN2⟩ : ∃ N : Nat, v.tmod 60 = (N : Int) ∧ N ≤ 59 := by
    refine ⟨(v.tmod 60).toNat, ?_, ?_⟩ <;> rw [Int.tmod_eq_emod_of_nonneg hv.1] <;> omega
  refine calls_of hmx func4 (by kernel_rfl) (c := f4.body.getD .skip) rfl e4 (rs := [(.t 6)]) (by kernel_rfl) (by simp [ntmps4]) ?_
  simp only [c4, argS]
  repeat' first | refine CX_pure (c18_ok) rfl rfl rfl rfl ?_ | refine GX_call (fun _ => (c18_ok)) (by rfl) (by intro h; simp only [h]; rfl) (by rfl) (by rfl) ?_ | (with_reducible intro h; try simp only [h]) | (with_reducible refine And.intro ?_ ?_) | (change chk _ _ = true; rfl) | simp only [go_sem, seval, Vc_bool, ws, wm] | refine (GX_split rfl).2 ?_
  refine CX.gs (Gs_freeze 0 (s' := [(26, .agg [.int .i64 1, .int .i64 1, .sl 6 [[.int .i64 0, .int .i64 0, .int .i64 3, .bool false, .int .i64 (-1), .int .i64 (-1)]]]), (29, .int .i64 (sd * 32768)), (1, .int .u8 u), (2, .int .u8 v), (6, .bool false)]) (H' := [.dead]) rfl ?_ ?_) ?_
  · refine List.forall_mem_cons.2 ⟨?_, List.forall_mem_cons.2 ⟨?_, List.forall_mem_cons.2 ⟨?_, List.forall_mem_cons.2 ⟨?_, List.forall_mem_cons.2 ⟨?_, by simp⟩⟩⟩⟩⟩
    · exact Fz.aggL (.cons (.wk (.refl _)) (.cons (.wk (.refl _)) (.cons (Fz.row 0 1 rfl (cloE_map (f := TCell.enc) (xs := [⟨0, 0, 3, false, -1, -1⟩]) fun _ => by rfl)) .nil)))
    all_goals exact .wk (.refl _)
  · repeat' (first | exact FzL.nil | refine FzL.cons ?_ ?_ | exact Fz.wk (Wk.refl _) | exact Fz.wk (Wk.nil _) | exact Fz.wk (Wk.emp _) | exact Fz.row0 _ _ _ _ | exact FzH.nil _ | exact FzO.refl _ | refine FzO.one ?_ | refine FzH.cons (by decide) ?_ ?_ | refine FzH.this rfl ?_ | exact FzO.dead (by simp) | (simp only [List.forall_mem_cons, List.not_mem_nil, false_implies, implies_true, and_true, go_sem, seval]) | refine And.intro ?_ ?_)
  refine CX_pure (c20BO hsd) rfl rfl rfl rfl ?_
  have post : ∀ {to : Int} (ht : to = -1 ∨ to = 0 ∨ to = 2) (k' : List It) (hW : ∀ k b w sd, OkW to k b w sd → ∀ zs, get zs 7 = .ptr 1 0 0 0 → get zs 9 = .ptr 2 0 0 0 → get zs 12 = .int .i64 k → V prog f4.ntmps 0 (Ret [.t 6] 0 (.bool true) []) k' zs (hBO to (stW to k b w sd)))
    (hE : ∀ b sd, ∀ zs, get zs 7 = .ptr 1 0 0 0 → get zs 9 = .ptr 2 0 0 0 → get zs 12 = .int .i64 (most to) → V prog f4.ntmps 0 (Ret [.t 6] 0 (.bool true) []) k' zs (hBO to (stE b sd))), Lp prog f4.ntmps 0 (Ret [.t 6] 0 (.bool true) []) c4L1 (.blk 0 :: k') [(6, .bool false), (7, .ptr 1 0 0 0), (9, .ptr 2 0 0 0), (12, .int .i64 0), (13, .int .i64 0), (57, .int .i64 N), (58, .int .i64 0)] (hBO to (stW to 0 0 0 (sd * 32768))) := by
    intro to ht k' hW hE
    exact (l4 ht hN2 k' hW hE N 0 (by omega)).1 0 0 0 _ ⟨ht, ⟨by decide, by unfold most; split <;> decide⟩, ⟨by decide, by decide⟩, ⟨by decide, by decide⟩, hsd⟩
  have h4 : u.tmod 4 = 0 ∨ u.tmod 4 = 1 ∨ u.tmod 4 = 2 ∨ u.tmod 4 = 3 := by
    rw [Int.tmod_eq_emod_of_nonneg hu.1]; omega
  rcases h4 with h4 | h4 | h4 | h4
  · have hp := putBO hsd (to := -1) (by decide)
    repeat' first | refine CX_pure (hp) rfl rfl rfl rfl ?_ | refine GX_call (fun _ => (hp)) (by rfl) (by intro h; simp only [h]; rfl) (by rfl) (by rfl) ?_ | (with_reducible intro h; try simp only [h]) | (with_reducible refine And.intro ?_ ?_) | (change chk _ _ = true; rfl) | simp only [go_sem, seval, Vc_bool, wu, wv, h4, hN] | refine (GX_split rfl).2 ?_
    refine Lp.bkE0 (post (to := -1) (by decide) _ (fun k b w sd h zs g1 g2 g3 => ?_) (fun b sd zs g1 g2 g3 => ?_)) (by rfl) rfl
    · have hk : 0 ≤ k ∧ k < 1 := h.hk
      have d1 : decide (k ≤ 1) = true := by simp; omega
      have d2 : decide (k < 1) = true := by simp; omega
      repeat' first | (with_reducible intro h; try simp only [h]) | (with_reducible refine And.intro ?_ ?_) | (change chk _ _ = true; rfl) | simp only [go_sem, seval, Vc_bool, hBO, g1, g2, g3, pkt, d1, d2] | refine (GX_split rfl).2 ?_
      exact Rt_pure (by rfl) (by rfl)
    · have hmo : most (-1) = 1 := rfl
      repeat' first | (with_reducible intro h; try simp only [h]) | (with_reducible refine And.intro ?_ ?_) | (change chk _ _ = true; rfl) | simp only [go_sem, seval, Vc_bool, hBO, g1, g2, g3, pkt, hmo, qE, ln0] | refine (GX_split rfl).2 ?_
      exact Rt_pure (by rfl) (by rfl)
  · have hp := putBO hsd (to := 0) (by decide)
    repeat' first | refine CX_pure (hp) rfl rfl rfl rfl ?_ | refine GX_call (fun _ => (hp)) (by rfl) (by intro h; simp only [h]; rfl) (by rfl) (by rfl) ?_ | (with_reducible intro h; try simp only [h]) | (with_reducible refine And.intro ?_ ?_) | (change chk _ _ = true; rfl) | simp only [go_sem, seval, Vc_bool, wu, wv, h4, hN] | refine (GX_split rfl).2 ?_
    refine Lp.bkE0 (post (to := 0) (by decide) _ (fun k b w sd h zs g1 g2 g3 => ?_) (fun b sd zs g1 g2 g3 => ?_)) (by rfl) rfl
    · have hk : 0 ≤ k ∧ k < 4 := h.hk
      have d1 : decide (k ≤ 4) = true := by simp; omega
      have d2 : decide (k < 4) = true := by simp; omega
      repeat' first | (with_reducible intro h; try simp only [h]) | (with_reducible refine And.intro ?_ ?_) | (change chk _ _ = true; rfl) | simp only [go_sem, seval, Vc_bool, hBO, g1, g2, g3, pkt, d1, d2] | refine (GX_split rfl).2 ?_
      exact Rt_pure (by rfl) (by rfl)
    · have hmo : most (0) = 4 := rfl
      repeat' first | (with_reducible intro h; try simp only [h]) | (with_reducible refine And.intro ?_ ?_) | (change chk _ _ = true; rfl) | simp only [go_sem, seval, Vc_bool, hBO, g1, g2, g3, pkt, hmo, qE, ln0] | refine (GX_split rfl).2 ?_
      exact Rt_pure (by rfl) (by rfl)
  · have hp := putBO hsd (to := 2) (by decide)
    repeat' first | refine CX_pure (hp) rfl rfl rfl rfl ?_ | refine GX_call (fun _ => (hp)) (by rfl) (by intro h; simp only [h]; rfl) (by rfl) (by rfl) ?_ | (with_reducible intro h; try simp only [h]) | (with_reducible refine And.intro ?_ ?_) | (change chk _ _ = true; rfl) | simp only [go_sem, seval, Vc_bool, wu, wv, h4, hN] | refine (GX_split rfl).2 ?_
    refine Lp.bkE0 (post (to := 2) (by decide) _ (fun k b w sd h zs g1 g2 g3 => ?_) (fun b sd zs g1 g2 g3 => ?_)) (by rfl) rfl
    · have hk : 0 ≤ k ∧ k < 4 := h.hk
      have d1 : decide (k ≤ 4) = true := by simp; omega
      have d2 : decide (k < 4) = true := by simp; omega
      repeat' first | (with_reducible intro h; try simp only [h]) | (with_reducible refine And.intro ?_ ?_) | (change chk _ _ = true; rfl) | simp only [go_sem, seval, Vc_bool, hBO, g1, g2, g3, pkt, d1, d2] | refine (GX_split rfl).2 ?_
      exact Rt_pure (by rfl) (by rfl)
    · have hmo : most (2) = 4 := rfl
      repeat' first | (with_reducible intro h; try simp only [h]) | (with_reducible refine And.intro ?_ ?_) | (change chk _ _ = true; rfl) | simp only [go_sem, seval, Vc_bool, hBO, g1, g2, g3, pkt, hmo, qE, ln0] | refine (GX_split rfl).2 ?_
      exact Rt_pure (by rfl) (by rfl)
  · have hp := putBO hsd (to := 2) (by decide)
    repeat' first | refine CX_pure (hp) rfl rfl rfl rfl ?_ | refine GX_call (fun _ => (hp)) (by rfl) (by intro h; simp only [h]; rfl) (by rfl) (by rfl) ?_ | (with_reducible intro h; try simp only [h]) | (with_reducible refine And.intro ?_ ?_) | (change chk _ _ = true; rfl) | simp only [go_sem, seval, Vc_bool, wu, wv, h4, hN] | refine (GX_split rfl).2 ?_
    refine Lp.bkE0 (post (to := 2) (by decide) _ (fun k b w sd h zs g1 g2 g3 => ?_) (fun b sd zs g1 g2 g3 => ?_)) (by rfl) rfl
    · have hk : 0 ≤ k ∧ k < 4 := h.hk
      have d1 : decide (k ≤ 4) = true := by simp; omega
      have d2 : decide (k < 4) = true := by simp; omega
      repeat' first | (with_reducible intro h; try simp only [h]) | (with_reducible refine And.intro ?_ ?_) | (change chk _ _ = true; rfl) | simp only [go_sem, seval, Vc_bool, hBO, g1, g2, g3, pkt, d1, d2] | refine (GX_split rfl).2 ?_
      exact Rt_pure (by rfl) (by rfl)
    · have hmo : most (2) = 4 := rfl
      repeat' first | (with_reducible intro h; try simp only [h]) | (with_reducible refine And.intro ?_ ?_) | (change chk _ _ = true; rfl) | simp only [go_sem, seval, Vc_bool, hBO, g1, g2, g3, pkt, hmo, qE, ln0] | refine (GX_split rfl).2 ?_
      exact Rt_pure (by rfl) (by rfl)
end

end Go.Av.T
