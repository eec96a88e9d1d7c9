/- The seat: part T9. -/
import Derived.Test.YtmhchaedhmnofaaGreatT8
import Derived.KernelRfl
import Derived.Test.YtmhchaedhmnofaaGreatA7
set_option maxRecDepth 100000
set_option maxHeartbeats 1000000
set_option linter.unusedSimpArgs false
set_option linter.unusedVariables false
namespace Go.Av.T
open Go Go.Av Go.Av.Sp Go.Proofs.Tryz
def c101 : SC := (.seq (.reg [(.box 3 3 (.t 1)), (.mv 4 (.c (.int .i64 0)))]) (.seq (.reg [(.mv 5 (.t 0)), (.nck 6 (.t 5)), (.fa 7 (.t 6) 0), (.fa 8 (.t 7) 5), (.ld 9 (.t 8) false 1), (.mkf 10 201 [] [(.t 3)]), (.call (some 11) (.c (.func 200 [] [])) [(.t 9), (.t 10)]), (.mv 4 (.t 11))]) .ret))
theorem e101 : compC prog f101.ntmps (f101.body.getD .skip) = c101 := by kernel_rfl
def c201 : SC := (.seq (.reg [(.box 2 100 (.t 0)), (.mv 3 (.c (.bool false)))]) (.seq (.reg [(.fa 4 (.t 2) 0), (.ld 5 (.t 4) false 1), (.ld 6 (.t 1) false 1), (.bin 7 .eql (.t 5) (.t 6)), (.mv 3 (.t 7))]) .ret))
theorem e201 : compC prog f201.ntmps (f201.body.getD .skip) = c201 := by kernel_rfl
theorem c201_ok {h : Held} {flow : Int} : ACalls prog 201 [.agg h.enc, .ptr 0 0 0 0] [.cells 0 1 3 true [[.int .i64 flow]]] (.bool (decide (h.flow = flow))) [.cells 0 1 3 true [[.int .i64 flow]]] := by
  refine calls_of hmx func201 (by kernel_rfl) (c := f201.body.getD .skip) rfl e201 (rs := [(.t 3)]) (by kernel_rfl) (by simp [ntmps201]) ?_
  simp only [c201, argS]
  simp only [go_sem, seval]
  exact Rt_T (H := [_]) _ (by rfl) (by rfl) (by rfl) (Nat.le_refl _)
theorem c101_ok {s : Station} {slot : Int} {c : TCell} {flow : Int} (hL : s.held.length < 2 ^ 62) : ACalls prog 101 [.ptr 0 0 0 0, .int .i64 flow] [.cells 0 21 176 true [wEnc s slot c]] (.int .i64 (heldIdx s.held flow)) [.cells 0 21 176 true [wEnc s slot c]] := by
  refine calls_of hmx func101 (by kernel_rfl) (c := f101.body.getD .skip) rfl e101 (rs := [(.t 4)]) (by kernel_rfl) (by simp [ntmps101]) ?_
  simp only [c101, argS]
  simp only [go_sem, seval]
  refine CX_rd [1] (c200_idx (caps := [.ptr 0 0 0 0]) (first := []) (g := 201) hL (fun _ _ => by rfl) (fun _ _ => by rfl) (by rfl) (by rfl) (fun x _ => c201_ok (flow := flow))) (by rfl) (by rfl) (by rfl) (by rfl) (by rfl) (by decide) (by rfl) (by rfl) (by rfl) ?_
  simp only [go_sem, seval]
  exact Rt_T (H := [_]) _ (by rfl) (by rfl) (by rfl) (Nat.le_refl _)
/-- A station whose seen frames lie in an object of their own. -/
def sEncN (s : Station) (id : Nat) : List AVal := [.int .i64 s.tab.node, .int .i64 s.tab.len, .sl 6 (s.tab.cells.map TCell.enc), .int .i64 s.q.limit, .sl 6 (s.q.pk.map Packet.enc), .sl 5 (s.held.map Held.enc), .row id 1 0 s.seen.length, .int .i64 s.list, .int .i64 s.seq, .int .i64 s.trying, .int .i64 s.tries, .int .i64 s.back, .int .i64 s.wait, .int .i64 s.seed]
def wEncN (s : Station) (id : Nat) (slot : Int) (c : TCell) : List AVal := [.int .i64 s.tab.node, .int .i64 s.tab.len, .sl 6 (s.tab.cells.map TCell.enc), .int .i64 s.q.limit, .sl 6 (s.q.pk.map Packet.enc), .sl 5 (s.held.map Held.enc), .row id 1 0 s.seen.length, .int .i64 s.list, .int .i64 s.seq, .int .i64 s.trying, .int .i64 s.tries, .int .i64 s.back, .int .i64 s.wait, .int .i64 s.seed, .int .i64 slot, .int .i64 c.slot, .int .i64 c.off, .int .i64 c.kind, .bool c.send, .int .i64 c.peer, .int .i64 c.flow]
def seenO (s : Station) : AObj := .cells 1 2 160 false (s.seen.map Seen.enc)
attribute [go_sem] sEncN wEncN seenO
theorem lt_seen {l : List Seen} {m q : Nat} {fu : Bool} : ltO m (.cells q 2 160 fu (l.map Seen.enc)) = true := ltO_mono (Nat.zero_le m) (lt_map fun _ => by rfl)
theorem ren_seen {l : List Seen} {r : Nat → Nat} {q : Nat} {fu : Bool} : renO r (.cells q 2 160 fu (l.map Seen.enc)) = .cells q 2 160 fu (l.map Seen.enc) := renO_lt (m := 0) (fun id h => by omega) lt_seen
def sEncHN (s : Station) : List AVal := [.int .i64 s.tab.node, .int .i64 s.tab.len, .sl 6 (s.tab.cells.map TCell.enc), .int .i64 s.q.limit, .sl 6 (s.q.pk.map Packet.enc), .row 2 1 0 s.held.length, .row 3 1 0 s.seen.length, .int .i64 s.list, .int .i64 s.seq, .int .i64 s.trying, .int .i64 s.tries, .int .i64 s.back, .int .i64 s.wait, .int .i64 s.seed]
theorem l152n (s : Station) (hL : s.held.length < 2 ^ 62) (hA : ∀ h ∈ s.held, h.acked.length * 8 ≤ 140737488355328) (hr : AVal) (Hr : Heap) (k' : List It)
    (hk : ∀ zs, get zs 1 = .ptr 0 0 0 0 → get zs 2 = .ptr 1 0 0 0 → V prog f152.ntmps 0 (Ret [.cell 2 true 14] 0 hr Hr) k' zs [.cells 0 14 31 true [sEncHN s], .cells 0 14 31 true [zSt], .cells 1 5 100 false (s.held.map Held.enc), .cells 1 2 160 false (s.seen.map Seen.enc)]) :
    ∀ (rest done : List Held), s.held = done ++ rest →
    Lp prog f152.ntmps 0 (Ret [.cell 2 true 14] 0 hr Hr) c152L1 (.blk 0 :: k') [(1, .ptr 0 0 0 0), (2, .ptr 1 0 0 0), (26, .int .i64 s.held.length), (27, .int .i64 done.length)] [.cells 0 14 31 true [sEncHN s], .cells 0 14 31 true [zSt], .cells 1 5 100 false (s.held.map Held.enc), .cells 1 2 160 false (s.seen.map Seen.enc)] := by
  intro rest
  induction rest with
  | nil =>
    intro done hd
    refine Lp.of_eq hmx c152L1.eq_1 ?_
    have h1 := rg_end hd
    simp only [go_sem, seval, h1, List.length_map]
    exact hk _ (by rfl) (by rfl)
  | cons c rest ih =>
    intro done hd
    refine Lp.of_eq hmx c152L1.eq_1 ?_
    obtain ⟨h1, h2, h3, h4⟩ := rg_hd Held.enc hd hL
    have hAc := hA c (by rw [hd]; simp)
    have ih' := ih _ h4
    have hlt : done.length < s.held.length := by rw [hd]; simp
    simp only [go_sem, seval, sEncHN, h1, h2, h3, Int.toNat_natCast, Int.natCast_nonneg, List.length_map, hlt, Nat.zero_add]
    refine ⟨Int.ofNat_lt.2 hlt, ?_⟩
    refine CX_pure (c153_ok hAc) rfl rfl rfl rfl ?_
    have hse : (s.held.map Held.enc).set done.length [.int .i64 c.flow, .int .i64 c.frame, .int .i64 c.upto, .str c.data, .sl 1 (c.acked.map eI)] = s.held.map Held.enc := set_same h2
    simp only [go_sem, seval, h1, h2, h3, Int.toNat_natCast, Int.natCast_nonneg, List.length_map, hlt, Nat.zero_add, hse]
    refine ⟨Int.ofNat_lt.2 hlt, by rfl, ?_⟩
    exact Lp.bkE0 ih' (by rfl) rfl
/-- Clone, of which the seen frames are wanted for writing. -/
theorem c152n_ok {s : Station} (hB : ClBd s) : ACalls prog 152 [.agg s.enc] [] (.agg (sEncN s 0)) [seenO s] := by
  obtain ⟨b1, b2, b3, b4, b5⟩ := hB
  refine calls_of hmx func152 (by kernel_rfl) (c := f152.body.getD .skip) rfl e152 (rs := [(.cell 2 true 14)]) (by kernel_rfl) (by simp [ntmps152]) ?_
  simp only [c152, argS]
  simp only [go_sem, seval]
  repeat' first | refine CX_pure (c82_ok b1) rfl rfl rfl rfl ?_ | refine GX_call (fun _ => (c82_ok b1)) (by rfl) (by intro h; simp only [h]; rfl) (by rfl) (by rfl) ?_ | (with_reducible intro h; try simp only [h]) | (with_reducible refine And.intro ?_ ?_) | (change chk _ _ = true; rfl) | simp only [go_sem, seval, Vc_bool] | refine (GX_split rfl).2 ?_
  repeat' first | refine CX_pure (c260_ok b2) rfl rfl rfl rfl ?_ | refine GX_call (fun _ => (c260_ok b2)) (by rfl) (by intro h; simp only [h]; rfl) (by rfl) (by rfl) ?_ | (with_reducible intro h; try simp only [h]) | (with_reducible refine And.intro ?_ ?_) | (change chk _ _ = true; rfl) | simp only [go_sem, seval, Vc_bool] | refine (GX_split rfl).2 ?_
  repeat' first | (with_reducible intro h; try simp only [h]) | (with_reducible refine And.intro ?_ ?_) | (change chk _ _ = true; rfl) | simp only [go_sem, seval, Vc_bool] | refine (GX_split rfl).2 ?_
  by_cases h0 : s.held = []
  · repeat' first | refine CX_pure (c261_ok b3) rfl rfl rfl rfl ?_ | refine GX_call (fun _ => (c261_ok b3)) (by rfl) (by intro h; simp only [h]; rfl) (by rfl) (by rfl) ?_ | (with_reducible intro h; try simp only [h]) | (with_reducible refine And.intro ?_ ?_) | (change chk _ _ = true; rfl) | simp only [go_sem, seval, Vc_bool] | refine (GX_split rfl).2 ?_
    refine CX_new (r1 := .row 2 1 0 s.seen.length) (c262w_ok b4) rfl rfl rfl (by rw [List.all_cons, List.all_nil, Bool.and_true]; exact lt_map fun _ => by rfl) (by rfl) ?_
    repeat' first | (with_reducible intro h; try simp only [h]) | (with_reducible refine And.intro ?_ ?_) | (change chk _ _ = true; rfl) | simp only [go_sem, seval, Vc_bool] | refine (GX_split rfl).2 ?_
    refine Lp.of_eq hmx c152L1.eq_1 ?_
    simp only [go_sem, seval, h0, List.map_nil, List.length_nil, show decide ((0:Int) < ((0:Nat):Int)) = false from rfl]
    refine Rt.gs (Gs_tell (s' := [(2, .ptr 1 0 0 0)]) (H' := [.dead, .cells 0 14 31 true [sEncN { s with held := [] } 2], seenO s]) ?_ ?_) (Rt_sel [2] (r0 := .agg (sEncN { s with held := [] } 2)) (by rfl) (by rfl) (by rfl) ?_ (by rfl) (by decide) ?_ (Nat.zero_le _) (by rfl))
    · repeat' (first | exact FzL.nil | refine FzL.cons ?_ ?_ | exact Fz.wk (Wk.refl _) | exact Fz.wk (Wk.nil _) | exact Fz.wk (Wk.emp _) | exact Fz.row0 _ _ _ _ | exact FzH.nil _ | exact FzO.refl _ | refine FzO.one ?_ | refine FzH.cons (by decide) ?_ ?_ | refine FzH.this rfl ?_ | exact FzO.dead (by simp) | (simp only [List.forall_mem_cons, List.not_mem_nil, false_implies, implies_true, and_true, go_sem, seval]) | refine And.intro ?_ ?_)
    · repeat' (first | exact FzL.nil | refine FzL.cons ?_ ?_ | exact Fz.wk (Wk.refl _) | exact Fz.wk (Wk.nil _) | exact Fz.wk (Wk.emp _) | exact Fz.row0 _ _ _ _ | exact FzH.nil _ | exact FzO.refl _ | refine FzO.one ?_ | refine FzH.cons (by decide) ?_ ?_ | refine FzH.this rfl ?_ | exact FzO.dead (by simp) | (simp only [List.forall_mem_cons, List.not_mem_nil, false_implies, implies_true, and_true, go_sem, seval]) | refine And.intro ?_ ?_)
    · rw [List.all_cons, List.all_nil, Bool.and_true]; exact lt_seen
    · rw [List.map_cons, List.map_nil, List.map_cons, List.map_nil, ren_seen]; rfl
  · refine CX_new (r1 := .row 2 1 0 s.held.length) (c261w_ok b3) rfl rfl rfl (by rw [List.all_cons, List.all_nil, Bool.and_true]; exact lt_map (xs := s.held) fun _ => by rfl) (by rfl) ?_
    repeat' first | (with_reducible intro h; try simp only [h]) | (with_reducible refine And.intro ?_ ?_) | (change chk _ _ = true; rfl) | simp only [go_sem, seval, Vc_bool] | refine (GX_split rfl).2 ?_
    refine CX_new (r1 := .row 3 1 0 s.seen.length) (c262w_ok b4) rfl rfl rfl (by rw [List.all_cons, List.all_nil, Bool.and_true]; exact lt_map fun _ => by rfl) (by rfl) ?_
    repeat' first | (with_reducible intro h; try simp only [h]) | (with_reducible refine And.intro ?_ ?_) | (change chk _ _ = true; rfl) | simp only [go_sem, seval, Vc_bool] | refine (GX_split rfl).2 ?_
    refine Lp.bkE0 (l152n s (by omega) b5 _ _ _ (fun zs z1 z2 => ?_) s.held [] rfl) (by rfl) rfl
    simp only [go_sem, seval, z1, z2, sEncHN, zSt]
    refine Rt.gs (Gs_freeze 2 (s' := [(2, .ptr 1 0 0 0)]) (H' := [.dead, .cells 0 14 31 true [sEncN s 3], .dead, seenO s]) rfl ?_ ?_) (Rt_sel [3] (r0 := .agg (sEncN s 3)) (by rfl) (by rfl) (by rfl) ?_ (by rfl) (by decide) ?_ (Nat.zero_le _) (by rfl))
    · refine List.forall_mem_cons.2 ⟨?_, by simp⟩
      simp only [go_sem, seval, z2]
      exact Fz.wk (Wk.refl _)
    · repeat' (first | exact FzL.nil | refine FzL.cons ?_ ?_ | exact Fz.wk (Wk.refl _) | exact Fz.wk (Wk.nil _) | exact Fz.wk (Wk.emp _) | exact Fz.row0 _ _ _ _ | exact FzH.nil _ | exact FzO.refl _ | refine FzO.one ?_ | refine FzH.cons (by decide) ?_ ?_ | refine FzH.this rfl ?_ | exact FzO.dead (by simp) | (simp only [List.forall_mem_cons, List.not_mem_nil, false_implies, implies_true, and_true, go_sem, seval]) | refine And.intro ?_ ?_)
      all_goals first | exact Fz.wk (Wk.refl _) | exact Fz.row 0 _ (by rw [List.drop_zero]; exact List.take_of_length_le (by simp)) (cloE_map fun _ => by rfl)
    · rw [List.all_cons, List.all_nil, Bool.and_true]; exact lt_seen
    · rw [List.map_cons, List.map_nil, List.map_cons, List.map_nil, ren_seen]; rfl

end Go.Av.T
set_option maxRecDepth 100000
set_option maxHeartbeats 1000000
set_option linter.unusedSimpArgs false
set_option linter.unusedVariables false
namespace Go.Av.T
open Go Go.Av Go.Av.Sp Go.Proofs.Tryz
def seenC (s : Station) : AObj := .cells 1 2 160 false (s.seen.map Seen.enc)
theorem c96n_ok {s : Station} {slot : Int} (hB : ClBd s) (hE : slotErr s slot = 0) : ACalls prog 96 [.agg s.enc, .int .i64 slot] [] (.tup [.ptr 0 0 0 0, .int .i64 0]) [.cells 0 21 176 true [wEncN s 1 slot (cellAt s slot)], .cells 1 2 160 false (s.seen.map Seen.enc)] := by
  refine calls_of hmx func96 (by kernel_rfl) (c := f96.body.getD .skip) rfl e96 (rs := [(.t 4), (.t 5)]) (by kernel_rfl) (by simp [ntmps96]) ?_
  simp only [c96, argS]
  simp only [go_sem, seval]
  repeat' first | refine CX_pure (c22_pf s hB.st) rfl rfl rfl rfl ?_ | refine CX_pure c81_ok rfl rfl rfl rfl ?_ | refine GX_call (fun _ => (c22_pf s hB.st)) (by rfl) (by intro h; simp only [h]; rfl) (by rfl) (by rfl) ?_ | refine GX_call (fun _ => c81_ok) (by rfl) (by intro h; simp only [h]; rfl) (by rfl) (by rfl) ?_ | (with_reducible intro h; try simp only [h]) | (with_reducible refine And.intro ?_ ?_) | (change chk _ _ = true; rfl) | simp only [go_sem, seval, Vc_bool] | refine (GX_split rfl).2 ?_
  · exact absurd hE (by grind [slotErr, stErr])
  · exact absurd hE (by grind [slotErr, stErr, wi])
  · refine CX_new (r1 := .agg (sEncN s 1)) (c152n_ok hB) rfl rfl rfl (by rw [List.all_cons, List.all_nil, Bool.and_true]; exact lt_seen) (by rfl) ?_
    repeat' first | refine CX_pure (c191_at hB.st.1) rfl rfl rfl rfl ?_ | refine GX_call (fun _ => (c191_at hB.st.1)) (by rfl) (by intro h; simp only [h]; rfl) (by rfl) (by rfl) ?_ | (with_reducible intro h; try simp only [h]) | (with_reducible refine And.intro ?_ ?_) | (change chk _ _ = true; rfl) | simp only [go_sem, seval, Vc_bool] | refine (GX_split rfl).2 ?_
    refine Rt_sel [2, 1] (r0 := .tup [.ptr 2 0 0 0, .int .i64 0]) (by rfl) (by rfl) rfl ?_ rfl (by decide) ?_ (Nat.zero_le _) rfl
    · rw [List.all_cons, List.all_cons, List.all_nil, Bool.and_true, lt_seen, Bool.and_true]; rfl
    · rw [List.map_cons, List.map_cons, List.map_nil, List.map_cons, List.map_cons, List.map_nil, ren_seen]; rfl
theorem c193n_ok {s : Station} {slot : Int} {c : TCell} (hs : c.send = false) : ACalls prog 193 [.ptr 0 0 0 0] [.cells 0 21 176 true [wEncN s 1 slot c], .cells 1 2 160 false (s.seen.map Seen.enc)] (.agg (Action.enc ⟨2, 0, Frame.zero⟩)) [.cells 0 21 176 true [wEncN s 1 slot c], .cells 1 2 160 false (s.seen.map Seen.enc)] := by
  rcases c with ⟨cs, co, ck, cd, cp, cf⟩
  obtain rfl : cd = false := hs
  refine calls_of hmx func193 (by kernel_rfl) (c := f193.body.getD .skip) rfl e193 (rs := [(.cell 2 true 14)]) (by kernel_rfl) (by simp [ntmps193]) ?_
  simp only [c193, argS]
  simp only [go_sem, seval]
  exact Rt_T (H := [_, _]) _ (by rfl) (by rfl) (by rw [List.all_cons, List.all_cons, List.all_nil, Bool.and_true, lt_seen, Bool.and_true]; rfl) (Nat.le_refl _)
theorem c97n_2 {s : Station} {slot : Int} {c : TCell} (hk : c.kind = 2) (hs : c.send = false) :
    ACalls prog 97 [.ptr 0 0 0 0] [.cells 0 21 176 true [wEncN s 1 slot c], .cells 1 2 160 false (s.seen.map Seen.enc)] (.agg (Action.enc ⟨2, c.off, Frame.zero⟩)) [.cells 0 21 176 true [wEncN s 1 slot c], .cells 1 2 160 false (s.seen.map Seen.enc)] := by
  have hg := c193n_ok (s := s) (slot := slot) hs
  rcases c with ⟨cs, co, ck, cd, cp, cf⟩
  obtain rfl : ck = 2 := hk
  obtain rfl : cd = false := hs
  refine calls_of hmx func97 (by kernel_rfl) (c := f97.body.getD .skip) rfl e97 (rs := [(.cell 2 true 14)]) (by kernel_rfl) (by simp [ntmps97]) ?_
  simp only [c97, argS]
  simp only [go_sem, seval]
  repeat' first | refine CX_rd [0, 1] (hg) (by rfl) (by rfl) (by rfl) (by rw [List.all_cons, List.all_cons, List.all_nil, Bool.and_true, lt_seen, Bool.and_true]; rfl) (by rfl) (by decide) (by rfl) (by rw [List.map_cons, List.map_cons, List.map_nil, List.map_cons, List.map_cons, List.map_nil, ren_seen]; rfl) (by rfl) ?_ | (with_reducible intro h; try simp only [h]) | (with_reducible refine And.intro ?_ ?_) | (change chk _ _ = true; rfl) | simp only [go_sem, seval, Vc_bool, mapSet_cons, mapSet_nil, mapAt_cons, mapAt_nil] | refine (GX_split rfl).2 ?_
  exact Rt_T (H := [_, _]) _ (by rfl) (by rfl) (by rw [List.all_cons, List.all_cons, List.all_nil, Bool.and_true, lt_seen, Bool.and_true]; rfl) (Nat.le_refl _)

end Go.Av.T
set_option maxRecDepth 100000
set_option maxHeartbeats 1000000
set_option linter.unusedSimpArgs false
set_option linter.unusedVariables false
namespace Go.Av.T
open Go Go.Av Go.Av.Sp Go.Proofs.Tryz
theorem seen_lt {l : List Seen} : ([.cells 1 2 160 false (l.map Seen.enc)] : Heap).all (ltO 1) = true := by rw [List.all_cons, List.all_nil, Bool.and_true]; exact lt_seen
theorem l311r (l : List Seen) (x : Seen) (hL : l.length < 2 ^ 62) (k' : List It) (hk : ∀ zs, V prog f311.ntmps 1 (Ret [.t 4] 1 (.int .i64 (-1)) [.cells 1 2 160 false (l.map Seen.enc)]) k' zs [.cells 1 2 160 false (l.map Seen.enc), .cells 0 2 160 true [x.enc]]) : ∀ (rest done : List Seen), l = done ++ rest →
    Lp prog f311.ntmps 1 (Ret [.t 4] 1 (.int .i64 (idxFrom (fun y => decide (x = y)) done.length rest)) [.cells 1 2 160 false (l.map Seen.enc)]) c311L1 (.blk 0 :: k') [(0, .row 0 1 0 l.length), (3, .ptr 1 0 0 0), (7, .int .i64 l.length), (8, .int .i64 done.length)] [.cells 1 2 160 false (l.map Seen.enc), .cells 0 2 160 true [x.enc]] := by
  intro rest
  induction rest with
  | nil =>
    intro done hd
    refine Lp.of_eq hmx c311L1.eq_1 ?_
    have h1 := rg_end hd
    simp only [go_sem, seval, h1]
    exact hk _
  | cons c rest ih =>
    intro done hd
    refine Lp.of_eq hmx c311L1.eq_1 ?_
    obtain ⟨h1, h2, h3, h4⟩ := rg_hd Seen.enc hd hL
    have ih' := ih _ h4
    have hlt : ((done.length : Int) < (l.length : Int)) = True := eq_true (by have := congrArg List.length hd; simp at this; omega)
    repeat' first | (with_reducible intro h; try simp only [h]) | (with_reducible refine And.intro ?_ ?_) | (change chk _ _ = true; rfl) | simp only [go_sem, seval, Vc_bool, h1, h2, h3, hlt, seen_eq, Int.toNat_natCast, Int.natCast_nonneg, Nat.zero_add] | refine (GX_split rfl).2 ?_
    · have e : idxFrom (fun y => decide (x = y)) done.length (c :: rest) = done.length := by rw [idxFrom, if_pos h]
      rw [e]
      exact Rt_T (H := [_]) _ (by rfl) (by rfl) seen_lt (Nat.le_refl _)
    · have e : idxFrom (fun y => decide (x = y)) done.length (c :: rest) = idxFrom (fun y => decide (x = y)) (done ++ [c]).length rest := by rw [idxFrom, if_neg (by simpa using h)]; simp
      rw [e]
      exact Lp.bkE0 ih' (by rfl) rfl
theorem c311r_ok {l : List Seen} {x : Seen} (hL : l.length < 2 ^ 62) : ACalls prog 311 [.row 0 1 0 l.length, .agg x.enc] [.cells 1 2 160 false (l.map Seen.enc)] (.int .i64 (idxFrom (fun y => decide (x = y)) 0 l)) [.cells 1 2 160 false (l.map Seen.enc)] := by
  refine calls_of hmx func311 (by kernel_rfl) (c := f311.body.getD .skip) rfl e311 (rs := [(.t 4)]) (by kernel_rfl) (by simp [ntmps311]) ?_
  simp only [c311, argS]
  simp only [go_sem, seval, List.length_map]
  refine Lp.bkE0 (l311r l x hL _ (fun s => ?_) l [] rfl) (by rfl) rfl
  simp only [go_sem, seval]
  exact Rt_T (H := [_]) _ (by rfl) (by rfl) seen_lt (Nat.le_refl _)
theorem c211r_ok {l : List Seen} {x : Seen} (hL : l.length < 2 ^ 62) : ACalls prog 211 [.row 0 1 0 l.length, .agg x.enc] [.cells 1 2 160 false (l.map Seen.enc)] (.bool (l.any fun y => decide (x = y))) [.cells 1 2 160 false (l.map Seen.enc)] := by
  refine calls_of hmx func211 (by kernel_rfl) (c := f211.body.getD .skip) rfl e211 (rs := [(.t 4)]) (by kernel_rfl) (by simp [ntmps211]) ?_
  simp only [c211, argS]
  simp only [go_sem, seval]
  refine CX_read (Hc := [_]) (c311r_ok hL) (by rfl) (by rfl) (by rfl) (by rfl) seen_lt ?_
  simp only [go_sem, seval, idxFrom_any]
  exact Rt_T (H := [_]) _ (by rfl) (by rfl) seen_lt (Nat.le_refl _)
section
variable {xs : List Seen} {t : Seen}
theorem bs2r_loop (hlen : xs.length < 2 ^ 62) (hs : ∀ i x, xs[i]? = some x → (cmp x.node t.node < 0 ↔ i < bsLo (fun y : Seen => cmp y.node t.node) xs)) (rs : List RS) (r : AVal) (k' : List It)
    (hk : ∀ s, get s 0 = .row 0 1 0 xs.length → get s 4 = .ptr 1 0 0 0 → get s 2 = .func 213 [] [] → get s 8 = .int .i64 xs.length → get s 9 = .int .i64 (bsLo (fun y : Seen => cmp y.node t.node) xs) → V prog f212.ntmps 1 (Ret rs 1 r [.cells 1 2 160 false (xs.map Seen.enc)]) k' s [.cells 1 2 160 false (xs.map Seen.enc), .cells 0 2 160 true [t.enc]]) : ∀ (m i j : Nat), j - i ≤ m → i ≤ bsLo (fun y : Seen => cmp y.node t.node) xs → bsLo (fun y : Seen => cmp y.node t.node) xs ≤ j → j ≤ xs.length →
    Lp prog f212.ntmps 1 (Ret rs 1 r [.cells 1 2 160 false (xs.map Seen.enc)]) c212L1 (.blk 0 :: k') [(0, .row 0 1 0 xs.length), (4, .ptr 1 0 0 0), (2, .func 213 [] []), (8, .int .i64 xs.length), (9, .int .i64 i), (10, .int .i64 j)] [.cells 1 2 160 false (xs.map Seen.enc), .cells 0 2 160 true [t.enc]] := by
  intro m
  induction m with
  | zero =>
    intro i j h1 h2 h3 h4
    refine Lp.of_eq hmx c212L1.eq_1 ?_
    have e1 : decide ((i : Int) < (j : Int)) = false := by simp; omega
    simp only [go_sem, seval, e1]
    exact hk _ (by rfl) (by rfl) (by rfl) (by rfl) (by show AVal.int .i64 _ = _; congr 1; omega)
  | succ m ih =>
    intro i j h1 h2 h3 h4
    refine Lp.of_eq hmx c212L1.eq_1 ?_
    rcases Nat.lt_or_ge i j with hij | hij
    · have e1 : decide ((i : Int) < (j : Int)) = true := by simp; omega
      have e2 := mid_ok (i := i) (j := j) (by omega)
      have hm : (i + j) / 2 < xs.length := by omega
      have e3 : (xs.map Seen.enc)[(i + j) / 2]? = some (Seen.enc xs[(i + j) / 2]) := by rw [List.getElem?_map, List.getElem?_eq_getElem hm]; rfl
      have e4 : IntKind.i64.wrap (((i + j) / 2 : Nat) + (1 : Int)) = (((i + j) / 2 + 1 : Nat) : Int) := by rw [wrap_ok (by omega) (by omega)]; omega
      have hsx := hs ((i + j) / 2) _ (List.getElem?_eq_getElem hm)
      generalize xs[(i + j) / 2] = c at *
      have hlt : ((((i + j) / 2 : Nat) : Int) < (xs.length : Int)) = True := eq_true (by omega)
      repeat' first | refine CX_pure (c213_ok) rfl rfl rfl rfl ?_ | refine GX_call (fun _ => (c213_ok)) (by rfl) (by intro h; simp only [h]; rfl) (by rfl) (by rfl) ?_ | (with_reducible intro h; try simp only [h]) | (with_reducible refine And.intro ?_ ?_) | (change chk _ _ = true; rfl) | simp only [go_sem, seval, Vc_bool, e1, e2, e3, e4, hlt, Nat.zero_add, Int.toNat_natCast, Int.natCast_nonneg] | refine (GX_split rfl).2 ?_
      · exact Lp.bk0 (ih ((i + j) / 2 + 1) j (by omega) (by have := of_decide_eq_true h; rw [hsx] at this; omega) h3 h4) (by rfl)
      · exact Lp.bk0 (ih i ((i + j) / 2) (by omega) h2 (by have := of_decide_eq_false h; rw [hsx] at this; omega) (by omega)) (by rfl)
    · have e1 : decide ((i : Int) < (j : Int)) = false := by simp; omega
      simp only [go_sem, seval, e1]
      exact hk _ (by rfl) (by rfl) (by rfl) (by rfl) (by show AVal.int .i64 _ = _; congr 1; omega)
end
theorem c212r_ok {xs : List Seen} {t : Seen} (hlen : xs.length < 2 ^ 62) (hs : ∀ i x, xs[i]? = some x → (cmp x.node t.node < 0 ↔ i < bsLo (fun y : Seen => cmp y.node t.node) xs)) :
    ACalls prog 212 [.row 0 1 0 xs.length, .agg t.enc, .func 213 [] []] [.cells 1 2 160 false (xs.map Seen.enc)] (.tup [.int .i64 (bsLo (fun y : Seen => cmp y.node t.node) xs), .bool (bsHit (fun y : Seen => cmp y.node t.node) xs)]) [.cells 1 2 160 false (xs.map Seen.enc)] := by
  refine calls_of hmx func212 (by kernel_rfl) (c := f212.body.getD .skip) rfl e212 (rs := [(.t 6), (.t 7)]) (by kernel_rfl) (by simp [ntmps212]) ?_
  simp only [c212, argS]
  simp only [go_sem, seval, List.length_map]
  refine Lp.bk0 (bs2r_loop hlen hs _ _ _ (fun s z0 z1 z2 z8 z9 => ?_) xs.length 0 xs.length (by omega) (Nat.zero_le _) (bsLo_le _) (Nat.le_refl _)) (by rfl)
  have hle := bsLo_le (c := fun y : Seen => cmp y.node t.node) xs
  rcases Nat.lt_or_ge (bsLo (fun y : Seen => cmp y.node t.node) xs) xs.length with h | h
  · have e1 : decide (((bsLo (fun y : Seen => cmp y.node t.node) xs : Nat) : Int) < (xs.length : Int)) = true := by simp; omega
    have e2 : (xs.map Seen.enc)[bsLo (fun y : Seen => cmp y.node t.node) xs]? = some (Seen.enc xs[bsLo (fun y : Seen => cmp y.node t.node) xs]) := by rw [List.getElem?_map, List.getElem?_eq_getElem h]; rfl
    have e3 : bsHit (fun y : Seen => cmp y.node t.node) xs = decide (cmp xs[bsLo (fun y : Seen => cmp y.node t.node) xs].node t.node = 0) := by rw [bsHit, List.getElem?_eq_getElem h]
    rw [e3]
    generalize xs[bsLo (fun y : Seen => cmp y.node t.node) xs] = c at *
    have hlt : (((bsLo (fun y : Seen => cmp y.node t.node) xs : Nat) : Int) < (xs.length : Int)) = True := eq_true (by omega)
    repeat' first | refine CX_pure (c213_ok) rfl rfl rfl rfl ?_ | refine GX_call (fun _ => (c213_ok)) (by rfl) (by intro h; simp only [h]; rfl) (by rfl) (by rfl) ?_ | (with_reducible intro h; try simp only [h]) | (with_reducible refine And.intro ?_ ?_) | (change chk _ _ = true; rfl) | simp only [go_sem, seval, Vc_bool, z0, z1, z2, z8, z9, e1, e2, hlt, Nat.zero_add, Int.toNat_natCast, Int.natCast_nonneg] | refine (GX_split rfl).2 ?_
    exact Rt_T (H := [_]) _ (by rfl) (by rfl) seen_lt (Nat.le_refl _)
  · have e1 : decide (((bsLo (fun y : Seen => cmp y.node t.node) xs : Nat) : Int) < (xs.length : Int)) = false := by simp; omega
    have e3 : bsHit (fun y : Seen => cmp y.node t.node) xs = false := by rw [bsHit, List.getElem?_eq_none h]
    rw [e3]
    simp only [go_sem, seval, z0, z1, z2, z8, z9, e1]
    exact Rt_T (H := [_]) _ (by rfl) (by rfl) seen_lt (Nat.le_refl _)

end Go.Av.T
set_option maxRecDepth 100000
set_option maxHeartbeats 1000000
set_option linter.unusedSimpArgs false
set_option linter.unusedVariables false
namespace Go.Av.T
open Go Go.Av Go.Av.Sp Go.Proofs.Tryz
def c105 : SC := (.seq (.reg [(.box 3 41 (.t 1)), (.alc 4 51 [(.bool false), (.bool false), (.int .i64 0), (.int .i64 0), (.int .i64 0), (.int .i64 0), (.int .i64 0), (.int .i64 0), (.int .i64 0), (.int .i64 0), (.int .i64 0), (.int .i64 0), (.int .i64 0), (.str (ByteArray.mk #[]))])]) (.seq (.seq (.regD [(.ld 10 (.t 3) true 12), (.mv 11 (.t 0)), (.nck 12 (.t 11)), (.fa 13 (.t 12) 0), (.fa 14 (.t 13) 0), (.fa 15 (.t 14) 0), (.ld 16 (.t 15) false 1), (.call (some 17) (.c (.func 210 [] [])) [(.t 10), (.t 16)]), (.not 18 (.t 17)), (.mv 19 (.t 18)), (.g 19 false (some 20) (.fa 20 (.t 3) 0)), (.g 19 false (some 21) (.ld 21 (.t 20) false 1)), (.g 19 false (some 22) (.bin 22 .eql (.t 21) (.c (.int .i64 2)))), (.pick 23 (.t 19) (.c (.bool true)) (.t 22))] []) (.cond (.t 23) (.seq (.reg [(.bld 24 [(.bool false), (.bool false), (.int .i64 0), (.int .i64 0), (.int .i64 0), (.int .i64 0), (.int .i64 0), (.int .i64 0), (.int .i64 0), (.int .i64 0), (.int .i64 0), (.int .i64 0), (.int .i64 0), (.str (ByteArray.mk #[]))] []), (.st (.t 4) (.t 24) 14)]) .ret) .skip)) (.seq (.reg [(.ld 25 (.t 3) true 12), (.bld 26 [(.bool false), (.bool false), (.int .i64 0), (.int .i64 0), (.int .i64 0), (.int .i64 0), (.int .i64 0), (.int .i64 0), (.int .i64 0), (.int .i64 0), (.int .i64 0), (.int .i64 0), (.int .i64 0), (.str (ByteArray.mk #[]))] [(0, 1, (.c (.bool true))), (1, 1, (.c (.bool true))), (2, 12, (.t 25))]), (.alc 5 51 [(.bool false), (.bool false), (.int .i64 0), (.int .i64 0), (.int .i64 0), (.int .i64 0), (.int .i64 0), (.int .i64 0), (.int .i64 0), (.int .i64 0), (.int .i64 0), (.int .i64 0), (.int .i64 0), (.str (ByteArray.mk #[]))]), (.st (.t 5) (.t 26) 14)]) (.seq (.block 0 (.seq (.reg [(.fa 28 (.t 3) 0), (.ld 29 (.t 28) false 1), (.bin 30 .eql (.t 29) (.c (.int .i64 1))), (.mv 27 (.t 30))]) (.cond (.t 27) (.seq (.reg [(.mv 31 (.t 0)), (.fa 32 (.t 3) 5), (.ld 33 (.t 32) false 1), (.call (some 34) (.c (.func 101 [] [])) [(.t 31), (.t 33)]), (.mv 6 (.t 34))]) (.regD [(.mv 35 (.t 6)), (.bin 36 .lss (.t 35) (.c (.int .i64 0))), (.mv 37 (.t 36)), (.g 37 false (some 38) (.mv 38 (.t 0))), (.g 37 false (some 39) (.nck 39 (.t 38))), (.g 37 false (some 40) (.fa 40 (.t 39) 0)), (.g 37 false (some 41) (.fa 41 (.t 40) 5)), (.g 37 false (some 42) (.ld 42 (.t 41) false 1)), (.g 37 false (some 43) (.mv 43 (.t 6))), (.g 37 false (some 44) (.ia 44 (.t 42) (.t 43) 5)), (.g 37 false (some 45) (.fa 45 (.t 44) 1)), (.g 37 false (some 46) (.ld 46 (.t 45) false 1)), (.g 37 false (some 47) (.fa 47 (.t 3) 6)), (.g 37 false (some 48) (.ld 48 (.t 47) false 1)), (.g 37 false (some 49) (.bin 49 .neq (.t 46) (.t 48))), (.pick 50 (.t 37) (.c (.bool true)) (.t 49)), (.fa 51 (.t 5) 1), (.st (.t 51) (.t 50) 1)] [])) (.seq (.regD [(.fa 53 (.t 3) 0), (.ld 54 (.t 53) false 1), (.bin 55 .eql (.t 54) (.c (.int .i64 4))), (.mv 56 (.t 55)), (.g 56 true (some 57) (.fa 57 (.t 3) 2)), (.g 56 true (some 58) (.ld 58 (.t 57) false 1)), (.g 56 true (some 59) (.mv 59 (.t 0))), (.g 56 true (some 60) (.nck 60 (.t 59))), (.g 56 true (some 61) (.fa 61 (.t 60) 0)), (.g 56 true (some 62) (.fa 62 (.t 61) 0)), (.g 56 true (some 63) (.fa 63 (.t 62) 0)), (.g 56 true (some 64) (.ld 64 (.t 63) false 1)), (.g 56 true (some 65) (.bin 65 .eql (.t 58) (.t 64))), (.pick 66 (.t 56) (.t 65) (.c (.bool false))), (.mv 52 (.t 66))] []) (.cond (.t 52) (.seq (.reg [(.fa 67 (.t 3) 1), (.ld 68 (.t 67) false 1), (.fa 69 (.t 3) 4), (.ld 70 (.t 69) false 1), (.bld 71 [(.int .i64 0), (.int .i64 0)] [(0, 1, (.t 68)), (1, 1, (.t 70))]), (.alc 7 160 [(.int .i64 0), (.int .i64 0)]), (.st (.t 7) (.t 71) 2)]) (.seq (.regD [(.mv 72 (.t 0)), (.nck 73 (.t 72)), (.fa 74 (.t 73) 0), (.fa 75 (.t 74) 6), (.ld 76 (.t 75) false 1), (.ld 77 (.t 7) true 2), (.call (some 78) (.c (.func 211 [] [])) [(.t 76), (.t 77)]), (.not 79 (.t 78)), (.fa 80 (.t 5) 1), (.st (.t 80) (.t 79) 1)] []) (.seq (.regD [(.mv 82 (.t 0)), (.nck 83 (.t 82)), (.fa 84 (.t 83) 0), (.fa 85 (.t 84) 6), (.ld 86 (.t 85) false 1), (.ld 87 (.t 7) true 2), (.call (some 88) (.c (.func 212 [] [])) [(.t 86), (.t 87), (.c (.func 213 [] []))]), (.mv 81 (.t 88)), (.ext 89 (.t 81) 0), (.ext 90 (.t 81) 1), (.mv 8 (.t 89)), (.mv 9 (.t 90))] []) (.seq (.reg [(.mv 91 (.t 9))]) (.cond (.t 91) (.regD [(.mv 92 (.t 0)), (.nck 93 (.t 92)), (.fa 94 (.t 93) 0), (.fa 95 (.t 94) 6), (.ld 96 (.t 95) false 1), (.mv 97 (.t 8)), (.ld 98 (.t 7) true 2), (.ia 99 (.t 96) (.t 97) 2), (.st (.t 99) (.t 98) 2)] []) (.regD [(.mv 100 (.t 0)), (.mv 101 (.t 0)), (.nck 102 (.t 101)), (.fa 103 (.t 102) 0), (.fa 104 (.t 103) 6), (.ld 105 (.t 104) false 1), (.mv 106 (.t 8)), (.ld 107 (.t 7) true 2), (.bsl 108 160 2 [(.int .i64 0), (.int .i64 0)] 1 [(0, (.t 107))]), (.call (some 109) (.c (.func 214 [] [])) [(.t 105), (.t 106), (.t 108)]), (.nck 110 (.t 100)), (.fa 111 (.t 110) 0), (.fa 112 (.t 111) 6), (.st (.t 112) (.t 109) 1)] [(5, 8)])))))) .skip))))) (.seq (.reg [(.ld 113 (.t 5) true 14), (.st (.t 4) (.t 113) 14)]) .ret)))))
theorem e105 : compC prog f105.ntmps (f105.body.getD .skip) = c105 := by kernel_rfl
theorem c101n_ok {s : Station} {slot : Int} {c : TCell} {flow : Int} (hL : s.held.length < 2 ^ 62) : ACalls prog 101 [.ptr 0 0 0 0, .int .i64 flow] [.cells 0 21 176 true [wEncN s 1 slot c], .cells 1 2 160 false (s.seen.map Seen.enc)] (.int .i64 (heldIdx s.held flow)) [.cells 0 21 176 true [wEncN s 1 slot c], .cells 1 2 160 false (s.seen.map Seen.enc)] := by
  refine calls_of hmx func101 (by kernel_rfl) (c := f101.body.getD .skip) rfl e101 (rs := [(.t 4)]) (by kernel_rfl) (by simp [ntmps101]) ?_
  simp only [c101, argS]
  simp only [go_sem, seval]
  refine CX_rd [2] (c200_idx (caps := [.ptr 0 0 0 0]) (first := []) (g := 201) hL (fun _ _ => by rfl) (fun _ _ => by rfl) (by rfl) (by rfl) (fun x _ => c201_ok (flow := flow))) (by rfl) (by rfl) (by rfl) (by rfl) (by rfl) (by decide) (by rfl) (by rfl) (by rfl) ?_
  simp only [go_sem, seval]
  exact Rt_T (H := [_, _]) _ (by rfl) (by rfl) (by rw [List.all_cons, List.all_cons, List.all_nil, Bool.and_true, lt_seen, Bool.and_true]; rfl) (Nat.le_refl _)
def seenLo (l : List Seen) (x : Seen) : Nat := bsLo (fun y : Seen => cmp y.node x.node) l
/-- The seen frames, with one more. -/
def seeAt (l : List Seen) (x : Seen) : List Seen := if bsHit (fun y : Seen => cmp y.node x.node) l = true then l.set (bsLo (fun y : Seen => cmp y.node x.node) l) x else l.take (bsLo (fun y : Seen => cmp y.node x.node) l) ++ x :: l.drop (bsLo (fun y : Seen => cmp y.node x.node) l)
theorem c105_4 {s : Station} {slot : Int} {c : TCell} {f : Sp.Frame} (hL : s.seen.length < 2 ^ 40) (hs : s.seen.Pairwise (fun a b => a.node ≤ b.node)) (hF : frFor f s.tab.node = true) (hk : f.kind = 4) (ht : f.tgt = s.tab.node) :
    ACalls prog 105 [.ptr 0 0 0 0, .agg f.enc] [.cells 0 21 176 true [wEncN s 1 slot c], .cells 1 2 160 false (s.seen.map Seen.enc)] (.agg (Up.enc ⟨true, !(s.seen.any fun y => decide ((⟨f.src, f.seq⟩ : Seen) = y)), f⟩)) [.cells 0 21 176 true [wEnc { s with seen := seeAt s.seen ⟨f.src, f.seq⟩ } slot c], .dead] := by
  rcases f with ⟨fk, f2, f3, f4, f5, f6, f7, f8, f9, f10, f11, f12⟩
  obtain rfl : fk = 4 := hk
  obtain rfl : f3 = s.tab.node := ht
  have i1 : decide (s.tab.node = s.tab.node) = true := by simp
  refine calls_of hmx func105 (by kernel_rfl) (c := f105.body.getD .skip) rfl e105 (rs := [(.cell 4 true 14)]) (by kernel_rfl) (by simp [ntmps105]) ?_
  simp only [c105, argS]
  simp only [go_sem, seval]
  repeat' first | refine CX_pure (c210_ok) rfl rfl rfl rfl ?_ | refine GX_call (fun _ => (c210_ok)) (by rfl) (by intro h; simp only [h]; rfl) (by rfl) (by rfl) ?_ | (with_reducible intro h; try simp only [h]) | (with_reducible refine And.intro ?_ ?_) | (change chk _ _ = true; rfl) | simp only [go_sem, seval, Vc_bool, hF, i1] | refine (GX_split rfl).2 ?_
  refine CX_rd [1] (c211r_ok (l := s.seen) (x := ⟨f2, f5⟩) (by omega)) (by rfl) (by rfl) (by rfl) seen_lt (by rfl) (by decide) (by rfl) (by rw [List.map_cons, List.map_nil, List.map_cons, List.map_nil, ren_seen]; rfl) (by rfl) ?_
  repeat' first | (with_reducible intro h; try simp only [h]) | (with_reducible refine And.intro ?_ ?_) | (change chk _ _ = true; rfl) | simp only [go_sem, seval, Vc_bool] | refine (GX_split rfl).2 ?_
  refine CX_rd [1] (c212r_ok (xs := s.seen) (t := ⟨f2, f5⟩) (by omega) (bs_srt (f := fun y : Seen => y.node) hs)) (by rfl) (by rfl) (by rfl) seen_lt (by rfl) (by decide) (by rfl) (by rw [List.map_cons, List.map_nil, List.map_cons, List.map_nil, ren_seen]; rfl) (by rfl) ?_
  have hle := bsLo_le (c := fun y : Seen => cmp y.node f2) s.seen
  have hlo : bsHit (fun y : Seen => cmp y.node f2) s.seen = true → bsLo (fun y : Seen => cmp y.node f2) s.seen < s.seen.length := by
    intro h
    rcases Nat.lt_or_ge (bsLo (fun y : Seen => cmp y.node f2) s.seen) s.seen.length with h1 | h1
    · exact h1
    · rw [bsHit, List.getElem?_eq_none h1] at h; cases h
  have hset : (s.seen.map Seen.enc).set (bsLo (fun y : Seen => cmp y.node f2) s.seen) [.int .i64 f2, .int .i64 f5] = (s.seen.set (bsLo (fun y : Seen => cmp y.node f2) s.seen) ⟨f2, f5⟩).map Seen.enc := by rw [List.map_set]; rfl
  have hsee : seeAt s.seen ⟨f2, f5⟩ = if bsHit (fun y : Seen => cmp y.node f2) s.seen = true then s.seen.set (bsLo (fun y : Seen => cmp y.node f2) s.seen) ⟨f2, f5⟩ else s.seen.take (bsLo (fun y : Seen => cmp y.node f2) s.seen) ++ ⟨f2, f5⟩ :: s.seen.drop (bsLo (fun y : Seen => cmp y.node f2) s.seen) := rfl
  rw [hsee]
  cases hh : bsHit (fun y : Seen => cmp y.node f2) s.seen with
  | true =>
    have hlt := hlo hh
    generalize bsLo (fun y : Seen => cmp y.node f2) s.seen = lo at *
    have e2 : (s.seen.map Seen.enc)[lo]? = some (Seen.enc s.seen[lo]) := by rw [List.getElem?_map, List.getElem?_eq_getElem hlt]; rfl
    have hltI : ((lo : Int) < (s.seen.length : Int)) = True := eq_true (by omega)
    rw [if_pos rfl]
    repeat' first | (with_reducible intro h; try simp only [h]) | (with_reducible refine And.intro ?_ ?_) | (change chk _ _ = true; rfl) | simp only [go_sem, seval, Vc_bool, hltI, Int.toNat_natCast, Int.natCast_nonneg, Nat.zero_add, e2, hset] | refine (GX_split rfl).2 ?_
    refine Rt.gs (Gs_freeze 1 (s' := [(4, .ptr 3 0 0 0)]) (H' := [.cells 0 21 176 true [wEnc { s with seen := s.seen.set lo ⟨f2, f5⟩ } slot c], .dead, .dead, .cells 0 14 51 true [Up.enc ⟨true, !(s.seen.any fun y => decide ((⟨f2, f5⟩ : Seen) = y)), ⟨4, f2, s.tab.node, f4, f5, f6, f7, f8, f9, f10, f11, f12⟩⟩], .dead, .dead]) rfl ?_ ?_) (Rt_T (H := [_, _]) _ (by rfl) (by rfl) (by rfl) (Nat.le_refl _))
    · repeat' (first | exact FzL.nil | refine FzL.cons ?_ ?_ | exact Fz.wk (Wk.refl _) | exact Fz.wk (Wk.nil _) | exact Fz.wk (Wk.emp _) | exact Fz.row0 _ _ _ _ | exact FzH.nil _ | exact FzO.refl _ | refine FzO.one ?_ | refine FzH.cons (by decide) ?_ ?_ | refine FzH.this rfl ?_ | exact FzO.dead (by simp) | (simp only [List.forall_mem_cons, List.not_mem_nil, false_implies, implies_true, and_true, go_sem, seval]) | refine And.intro ?_ ?_)
    · repeat' (first | exact FzL.nil | refine FzL.cons ?_ ?_ | exact Fz.wk (Wk.refl _) | exact Fz.wk (Wk.nil _) | exact Fz.wk (Wk.emp _) | exact Fz.row0 _ _ _ _ | exact FzH.nil _ | exact FzO.refl _ | refine FzO.one ?_ | refine FzH.cons (by decide) ?_ ?_ | refine FzH.this rfl ?_ | exact FzO.dead (by simp) | (simp only [List.forall_mem_cons, List.not_mem_nil, false_implies, implies_true, and_true, go_sem, seval]) | refine And.intro ?_ ?_)
      all_goals first | exact Fz.wk (Wk.refl _) | exact Fz.row 0 _ (by rw [List.drop_zero]; exact List.take_of_length_le (by simp)) (cloE_map fun _ => by rfl)
  | false =>
    generalize bsLo (fun y : Seen => cmp y.node f2) s.seen = lo at *
    rw [if_neg (by decide)]
    repeat' first | (with_reducible intro h; try simp only [h]) | (with_reducible refine And.intro ?_ ?_) | (change chk _ _ = true; rfl) | simp only [go_sem, seval, Vc_bool] | refine (GX_split rfl).2 ?_
    refine CX_eat2 1 6 (c214_ok (xs := s.seen) (v := ⟨f2, f5⟩) (i := lo) (q := 1) hle (by omega)) (by rfl) (by rfl) (by rfl) (lt_map fun _ => by rfl) (by rfl) (by decide) (by rfl) (by rfl) (by rfl) (by rfl) (by rfl) ?_
    repeat' first | (with_reducible intro h; try simp only [h]) | (with_reducible refine And.intro ?_ ?_) | (change chk _ _ = true; rfl) | simp only [go_sem, seval, Vc_bool] | refine (GX_split rfl).2 ?_
    exact Rt_T (H := [_, _]) _ (by rfl) (by rfl) (by rfl) (Nat.le_refl _)

end Go.Av.T
