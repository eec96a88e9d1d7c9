/- The seat: part Bo9. -/
import Derived.Test.YtmhchaedhmnofaaBo8
import Derived.Test.YtmhchaedhmnofaaBo5
import Derived.KernelRfl
set_option maxRecDepth 100000
set_option maxHeartbeats 1000000
set_option linter.unusedSimpArgs false
set_option linter.unusedVariables false
namespace Go.Av.T
open Go Go.Av Go.Av.Sp Go.Proofs.Try
def c105 : SC := (.seq (.reg [(.box 3 44 (.t 1)), (.alc 4 52 [(.bool false), (.bool false), (.int .i64 0), (.int .i64 0), (.int .i64 0), (.int .i64 0), (.int .i64 0), (.int .i64 0), (.int .i64 0), (.int .i64 0), (.int .i64 0), (.int .i64 0), (.int .i64 0), (.str (ByteArray.mk #[]))])]) (.seq (.seq (.regD [(.ld 10 (.t 3) true 12), (.mv 11 (.t 0)), (.nck 12 (.t 11)), (.fa 13 (.t 12) 0), (.fa 14 (.t 13) 0), (.fa 15 (.t 14) 0), (.ld 16 (.t 15) false 1), (.call (some 17) (.c (.func 56 [] [])) [(.t 10), (.t 16)]), (.not 18 (.t 17)), (.mv 19 (.t 18)), (.g 19 false (some 20) (.fa 20 (.t 3) 0)), (.g 19 false (some 21) (.ld 21 (.t 20) false 1)), (.g 19 false (some 22) (.bin 22 .eql (.t 21) (.c (.int .i64 2)))), (.pick 23 (.t 19) (.c (.bool true)) (.t 22))] []) (.cond (.t 23) (.seq (.reg [(.bld 24 [(.bool false), (.bool false), (.int .i64 0), (.int .i64 0), (.int .i64 0), (.int .i64 0), (.int .i64 0), (.int .i64 0), (.int .i64 0), (.int .i64 0), (.int .i64 0), (.int .i64 0), (.int .i64 0), (.str (ByteArray.mk #[]))] []), (.st (.t 4) (.t 24) 14)]) .ret) .skip)) (.seq (.reg [(.ld 25 (.t 3) true 12), (.bld 26 [(.bool false), (.bool false), (.int .i64 0), (.int .i64 0), (.int .i64 0), (.int .i64 0), (.int .i64 0), (.int .i64 0), (.int .i64 0), (.int .i64 0), (.int .i64 0), (.int .i64 0), (.int .i64 0), (.str (ByteArray.mk #[]))] [(0, 1, (.c (.bool true))), (1, 1, (.c (.bool true))), (2, 12, (.t 25))]), (.alc 5 52 [(.bool false), (.bool false), (.int .i64 0), (.int .i64 0), (.int .i64 0), (.int .i64 0), (.int .i64 0), (.int .i64 0), (.int .i64 0), (.int .i64 0), (.int .i64 0), (.int .i64 0), (.int .i64 0), (.str (ByteArray.mk #[]))]), (.st (.t 5) (.t 26) 14)]) (.seq (.block 0 (.seq (.reg [(.fa 28 (.t 3) 0), (.ld 29 (.t 28) false 1), (.bin 30 .eql (.t 29) (.c (.int .i64 1))), (.mv 27 (.t 30))]) (.cond (.t 27) (.seq (.reg [(.mv 31 (.t 0)), (.fa 32 (.t 3) 5), (.ld 33 (.t 32) false 1), (.call (some 34) (.c (.func 20 [] [])) [(.t 31), (.t 33)]), (.mv 6 (.t 34))]) (.regD [(.mv 35 (.t 6)), (.bin 36 .lss (.t 35) (.c (.int .i64 0))), (.mv 37 (.t 36)), (.g 37 false (some 38) (.mv 38 (.t 0))), (.g 37 false (some 39) (.nck 39 (.t 38))), (.g 37 false (some 40) (.fa 40 (.t 39) 0)), (.g 37 false (some 41) (.fa 41 (.t 40) 5)), (.g 37 false (some 42) (.ld 42 (.t 41) false 1)), (.g 37 false (some 43) (.mv 43 (.t 6))), (.g 37 false (some 44) (.ia 44 (.t 42) (.t 43) 5)), (.g 37 false (some 45) (.fa 45 (.t 44) 1)), (.g 37 false (some 46) (.ld 46 (.t 45) false 1)), (.g 37 false (some 47) (.fa 47 (.t 3) 6)), (.g 37 false (some 48) (.ld 48 (.t 47) false 1)), (.g 37 false (some 49) (.bin 49 .neq (.t 46) (.t 48))), (.pick 50 (.t 37) (.c (.bool true)) (.t 49)), (.fa 51 (.t 5) 1), (.st (.t 51) (.t 50) 1)] [])) (.seq (.regD [(.fa 53 (.t 3) 0), (.ld 54 (.t 53) false 1), (.bin 55 .eql (.t 54) (.c (.int .i64 4))), (.mv 56 (.t 55)), (.g 56 true (some 57) (.fa 57 (.t 3) 2)), (.g 56 true (some 58) (.ld 58 (.t 57) false 1)), (.g 56 true (some 59) (.mv 59 (.t 0))), (.g 56 true (some 60) (.nck 60 (.t 59))), (.g 56 true (some 61) (.fa 61 (.t 60) 0)), (.g 56 true (some 62) (.fa 62 (.t 61) 0)), (.g 56 true (some 63) (.fa 63 (.t 62) 0)), (.g 56 true (some 64) (.ld 64 (.t 63) false 1)), (.g 56 true (some 65) (.bin 65 .eql (.t 58) (.t 64))), (.pick 66 (.t 56) (.t 65) (.c (.bool false))), (.mv 52 (.t 66))] []) (.cond (.t 52) (.seq (.reg [(.fa 67 (.t 3) 1), (.ld 68 (.t 67) false 1), (.fa 69 (.t 3) 4), (.ld 70 (.t 69) false 1), (.bld 71 [(.int .i64 0), (.int .i64 0)] [(0, 1, (.t 68)), (1, 1, (.t 70))]), (.alc 7 102 [(.int .i64 0), (.int .i64 0)]), (.st (.t 7) (.t 71) 2)]) (.seq (.regD [(.mv 72 (.t 0)), (.nck 73 (.t 72)), (.fa 74 (.t 73) 0), (.fa 75 (.t 74) 6), (.ld 76 (.t 75) false 1), (.ld 77 (.t 7) true 2), (.call (some 78) (.c (.func 57 [] [])) [(.t 76), (.t 77)]), (.not 79 (.t 78)), (.fa 80 (.t 5) 1), (.st (.t 80) (.t 79) 1)] []) (.seq (.regD [(.mv 82 (.t 0)), (.nck 83 (.t 82)), (.fa 84 (.t 83) 0), (.fa 85 (.t 84) 6), (.ld 86 (.t 85) false 1), (.ld 87 (.t 7) true 2), (.call (some 88) (.c (.func 58 [] [])) [(.t 86), (.t 87), (.c (.func 59 [] []))]), (.mv 81 (.t 88)), (.ext 89 (.t 81) 0), (.ext 90 (.t 81) 1), (.mv 8 (.t 89)), (.mv 9 (.t 90))] []) (.seq (.reg [(.mv 91 (.t 9))]) (.cond (.t 91) (.regD [(.mv 92 (.t 0)), (.nck 93 (.t 92)), (.fa 94 (.t 93) 0), (.fa 95 (.t 94) 6), (.ld 96 (.t 95) false 1), (.mv 97 (.t 8)), (.ld 98 (.t 7) true 2), (.ia 99 (.t 96) (.t 97) 2), (.st (.t 99) (.t 98) 2)] []) (.regD [(.mv 100 (.t 0)), (.mv 101 (.t 0)), (.nck 102 (.t 101)), (.fa 103 (.t 102) 0), (.fa 104 (.t 103) 6), (.ld 105 (.t 104) false 1), (.mv 106 (.t 8)), (.ld 107 (.t 7) true 2), (.bsl 108 102 2 [(.int .i64 0), (.int .i64 0)] 1 [(0, (.t 107))]), (.call (some 109) (.c (.func 61 [] [])) [(.t 105), (.t 106), (.t 108)]), (.nck 110 (.t 100)), (.fa 111 (.t 110) 0), (.fa 112 (.t 111) 6), (.st (.t 112) (.t 109) 1)] [(5, 8)])))))) .skip))))) (.seq (.reg [(.ld 113 (.t 5) true 14), (.st (.t 4) (.t 113) 14)]) .ret)))))
theorem e105 : compC prog f24.ntmps (f24.body.getD .skip) = c105 := by kernel_rfl
theorem c101n_ok {s : Station} {slot : Int} {c : TCell} {flow : Int} (hL : s.held.length < 2 ^ 62) : ACalls prog 20 [.ptr 0 0 0 0, .int .i64 flow] [.cells 0 21 77 true [wEncN s 1 slot c], .cells 1 2 102 false (s.seen.map Seen.enc)] (.int .i64 (heldIdx s.held flow)) [.cells 0 21 77 true [wEncN s 1 slot c], .cells 1 2 102 false (s.seen.map Seen.enc)] := by
  refine calls_of hmx func20 (by kernel_rfl) (c := f20.body.getD .skip) rfl e101 (rs := [(.t 4)]) (by kernel_rfl) (by simp [ntmps20]) ?_
  simp only [c101, argS]
  simp only [go_sem, seval]
  refine CX_rd [2] (c200_idx (caps := [.ptr 0 0 0 0]) (first := []) (g := 48) hL (fun _ _ => by rfl) (fun _ _ => by rfl) (by rfl) (by rfl) (fun x _ => c201_ok (flow := flow))) (by rfl) (by rfl) (by rfl) (by rfl) (by rfl) (by decide) (by rfl) (by rfl) (by rfl) ?_
  simp only [go_sem, seval]
  exact Rt_T (H := [_, _]) _ (by rfl) (by rfl) (by rw [List.all_cons, List.all_cons, List.all_nil, Bool.and_true, lt_seen, Bool.and_true]; rfl) (Nat.le_refl _)
/-- The seen frames, with one more. -/
def seeAt (l : List Seen) (x : Seen) : List Seen := if bsHit (fun y : Seen => cmp y.node x.node) l = true then l.set (bsLo (fun y : Seen => cmp y.node x.node) l) x else l.take (bsLo (fun y : Seen => cmp y.node x.node) l) ++ x :: l.drop (bsLo (fun y : Seen => cmp y.node x.node) l)
theorem c105_4 {s : Station} {slot : Int} {c : TCell} {f : Sp.Frame} (hL : s.seen.length < 2 ^ 40) (hs : s.seen.Pairwise (fun a b => a.node ≤ b.node)) (hF : frFor f s.tab.node = true) (hk : f.kind = 4) (ht : f.tgt = s.tab.node) :
    ACalls prog 24 [.ptr 0 0 0 0, .agg f.enc] [.cells 0 21 77 true [wEncN s 1 slot c], .cells 1 2 102 false (s.seen.map Seen.enc)] (.agg (Up.enc ⟨true, !(s.seen.any fun y => decide ((⟨f.src, f.seq⟩ : Seen) = y)), f⟩)) [.cells 0 21 77 true [wEnc { s with seen := seeAt s.seen ⟨f.src, f.seq⟩ } slot c], .dead] := by
  rcases f with ⟨fk, zf2, zf3, zf4, zf5, zf6, zf7, zf8, zf9, zf10, zf11, zf12⟩
  obtain rfl : fk = 4 := hk
  obtain rfl : zf3 = s.tab.node := ht
  have i1 : decide (s.tab.node = s.tab.node) = true := by simp
  refine calls_of hmx func24 (by kernel_rfl) (c := f24.body.getD .skip) rfl e105 (rs := [(.cell 4 true 14)]) (by kernel_rfl) (by simp [ntmps24]) ?_
  simp only [c105, argS]
  simp only [go_sem, seval]
  repeat' first | refine CX_pure (c210_ok) rfl rfl rfl rfl ?_ | refine GX_call (fun _ => (c210_ok)) (by rfl) (by intro h; simp only [h]; rfl) (by rfl) (by rfl) ?_ | (with_reducible intro h; try simp only [h]) | (with_reducible refine And.intro ?_ ?_) | (change chk _ _ = true; rfl) | simp only [go_sem, seval, Vc_bool, hF, i1] | refine (GX_split rfl).2 ?_
  refine CX_rd [1] (c211r_ok (l := s.seen) (x := ⟨zf2, zf5⟩) (by omega)) (by rfl) (by rfl) (by rfl) seen_lt (by rfl) (by decide) (by rfl) (by rw [List.map_cons, List.map_nil, List.map_cons, List.map_nil, ren_seen]; rfl) (by rfl) ?_
  repeat' first | (with_reducible intro h; try simp only [h]) | (with_reducible refine And.intro ?_ ?_) | (change chk _ _ = true; rfl) | simp only [go_sem, seval, Vc_bool] | refine (GX_split rfl).2 ?_
  refine CX_rd [1] (c212r_ok (xs := s.seen) (t := ⟨zf2, zf5⟩) (by omega) (bs_srt (f := fun y : Seen => y.node) hs)) (by rfl) (by rfl) (by rfl) seen_lt (by rfl) (by decide) (by rfl) (by rw [List.map_cons, List.map_nil, List.map_cons, List.map_nil, ren_seen]; rfl) (by rfl) ?_
  have hle := bsLo_le (c := fun y : Seen => cmp y.node zf2) s.seen
  have hlo : bsHit (fun y : Seen => cmp y.node zf2) s.seen = true → bsLo (fun y : Seen => cmp y.node zf2) s.seen < s.seen.length := by
    intro h
    rcases Nat.lt_or_ge (bsLo (fun y : Seen => cmp y.node zf2) s.seen) s.seen.length with h1 | h1
    · exact h1
    · rw [bsHit, List.getElem?_eq_none h1] at h; cases h
  have hset : (s.seen.map Seen.enc).set (bsLo (fun y : Seen => cmp y.node zf2) s.seen) [.int .i64 zf2, .int .i64 zf5] = (s.seen.set (bsLo (fun y : Seen => cmp y.node zf2) s.seen) ⟨zf2, zf5⟩).map Seen.enc := by rw [List.map_set]; rfl
  have hsee : seeAt s.seen ⟨zf2, zf5⟩ = if bsHit (fun y : Seen => cmp y.node zf2) s.seen = true then s.seen.set (bsLo (fun y : Seen => cmp y.node zf2) s.seen) ⟨zf2, zf5⟩ else s.seen.take (bsLo (fun y : Seen => cmp y.node zf2) s.seen) ++ ⟨zf2, zf5⟩ :: s.seen.drop (bsLo (fun y : Seen => cmp y.node zf2) s.seen) := rfl
  rw [hsee]
  cases hh : bsHit (fun y : Seen => cmp y.node zf2) s.seen with
  | true =>
    have hlt := hlo hh
    generalize bsLo (fun y : Seen => cmp y.node zf2) s.seen = lo at *
    have e2 : (s.seen.map Seen.enc)[lo]? = some (Seen.enc s.seen[lo]) := by rw [List.getElem?_map, List.getElem?_eq_getElem hlt]; rfl
    have hltI : ((lo : Int) < (s.seen.length : Int)) = True := eq_true (by omega)
    rw [if_pos rfl]
    repeat' first | (with_reducible intro h; try simp only [h]) | (with_reducible refine And.intro ?_ ?_) | (change chk _ _ = true; rfl) | simp only [go_sem, seval, Vc_bool, hltI, Int.toNat_natCast, Int.natCast_nonneg, Nat.zero_add, e2, hset] | refine (GX_split rfl).2 ?_
    refine Rt.gs (Gs_freeze 1 (s' := [(4, .ptr 3 0 0 0)]) (H' := [.cells 0 21 77 true [wEnc { s with seen := s.seen.set lo ⟨zf2, zf5⟩ } slot c], .dead, .dead, .cells 0 14 52 true [Up.enc ⟨true, !(s.seen.any fun y => decide ((⟨zf2, zf5⟩ : Seen) = y)), ⟨4, zf2, s.tab.node, zf4, zf5, zf6, zf7, zf8, zf9, zf10, zf11, zf12⟩⟩], .dead, .dead]) rfl ?_ ?_) (Rt_T (H := [_, _]) _ (by rfl) (by rfl) (by rfl) (Nat.le_refl _))
    · repeat' (first | exact FzL.nil | refine FzL.cons ?_ ?_ | exact Fz.wk (Wk.refl _) | exact Fz.wk (Wk.nil _) | exact Fz.wk (Wk.emp _) | exact Fz.row0 _ _ _ _ | exact FzH.nil _ | exact FzO.refl _ | refine FzO.one ?_ | refine FzH.cons (by decide) ?_ ?_ | refine FzH.this rfl ?_ | exact FzO.dead (by simp) | (simp only [List.forall_mem_cons, List.not_mem_nil, false_implies, implies_true, and_true, go_sem, seval]) | refine And.intro ?_ ?_)
    · repeat' (first | exact FzL.nil | refine FzL.cons ?_ ?_ | exact Fz.wk (Wk.refl _) | exact Fz.wk (Wk.nil _) | exact Fz.wk (Wk.emp _) | exact Fz.row0 _ _ _ _ | exact FzH.nil _ | exact FzO.refl _ | refine FzO.one ?_ | refine FzH.cons (by decide) ?_ ?_ | refine FzH.this rfl ?_ | exact FzO.dead (by simp) | (simp only [List.forall_mem_cons, List.not_mem_nil, false_implies, implies_true, and_true, go_sem, seval]) | refine And.intro ?_ ?_)
      all_goals first | exact Fz.wk (Wk.refl _) | exact Fz.row 0 _ (by rw [List.drop_zero]; exact List.take_of_length_le (by simp)) (cloE_map fun _ => by rfl)
  | false =>
    generalize bsLo (fun y : Seen => cmp y.node zf2) s.seen = lo at *
    rw [if_neg (by decide)]
    repeat' first | (with_reducible intro h; try simp only [h]) | (with_reducible refine And.intro ?_ ?_) | (change chk _ _ = true; rfl) | simp only [go_sem, seval, Vc_bool] | refine (GX_split rfl).2 ?_
    refine CX_eat2 1 6 (c214_ok (xs := s.seen) (v := ⟨zf2, zf5⟩) (i := lo) (q := 1) hle (by omega)) (by rfl) (by rfl) (by rfl) (lt_map fun _ => by rfl) (by rfl) (by decide) (by rfl) (by rfl) (by rfl) (by rfl) (by rfl) ?_
    repeat' first | (with_reducible intro h; try simp only [h]) | (with_reducible refine And.intro ?_ ?_) | (change chk _ _ = true; rfl) | simp only [go_sem, seval, Vc_bool] | refine (GX_split rfl).2 ?_
    exact Rt_T (H := [_, _]) _ (by rfl) (by rfl) (by rfl) (Nat.le_refl _)

def c104 : SC := (.seq (.reg [(.box 1 68 (.t 0)), (.alc 2 42 [(.int .i64 0), (.int .i64 0), (.int .i64 0), (.int .i64 0), (.int .i64 0), (.str (ByteArray.mk #[]))]), (.mv 3 (.c (.bool false)))]) (.seq (.reg [(.ld 5 (.t 1) false 1), (.nck 6 (.t 5)), (.fa 7 (.t 6) 0), (.fa 8 (.t 7) 3), (.fa 9 (.t 8) 1), (.ld 10 (.t 9) false 1), (.mkf 11 53 [] [(.t 1)]), (.call (some 12) (.c (.func 37 [] [])) [(.t 10), (.t 11)]), (.mv 4 (.t 12))]) (.seq (.seq (.reg [(.mv 13 (.t 4)), (.bin 14 .lss (.t 13) (.c (.int .i64 0)))]) (.cond (.t 14) (.seq (.reg [(.bld 15 [(.int .i64 0), (.int .i64 0), (.int .i64 0), (.int .i64 0), (.int .i64 0), (.str (ByteArray.mk #[]))] []), (.st (.t 2) (.t 15) 6), (.mv 3 (.c (.bool false)))]) .ret) .skip)) (.seq (.reg [(.ld 16 (.t 1) false 1), (.nck 17 (.t 16)), (.fa 18 (.t 17) 0), (.fa 19 (.t 18) 3), (.fa 20 (.t 19) 1), (.ld 21 (.t 20) false 1), (.mv 22 (.t 4)), (.ia 23 (.t 21) (.t 22) 6), (.ld 24 (.t 23) true 6), (.st (.t 2) (.t 24) 6), (.mv 3 (.c (.bool true)))]) .ret))))
theorem e104 : compC prog f23.ntmps (f23.body.getD .skip) = c104 := by kernel_rfl
def c207 : SC := (.seq (.reg [(.box 2 42 (.t 0)), (.mv 3 (.c (.bool false)))]) (.seq (.reg [(.fa 4 (.t 2) 1), (.ld 5 (.t 4) false 1), (.bin 6 .eql (.t 5) (.c (.int .i64 (-1)))), (.mv 7 (.t 6)), (.g 7 false (some 8) (.ld 8 (.t 1) false 1)), (.g 7 false (some 9) (.nck 9 (.t 8))), (.g 7 false (some 10) (.fa 10 (.t 9) 0)), (.g 7 false (some 11) (.fa 11 (.t 10) 0)), (.g 7 false (some 12) (.fa 12 (.t 11) 2)), (.g 7 false (some 13) (.ld 13 (.t 12) false 1)), (.g 7 false (some 14) (.mkf 14 55 [] [(.t 2)])), (.g 7 false (some 15) (.call (some 15) (.c (.func 54 [] [])) [(.t 13), (.t 14)])), (.g 7 false (some 16) (.not 16 (.t 15))), (.pick 17 (.t 7) (.c (.bool true)) (.t 16)), (.mv 3 (.t 17))]) .ret))
theorem e207 : compC prog f53.ntmps (f53.body.getD .skip) = c207 := by kernel_rfl
def c209 : SC := (.seq (.reg [(.box 2 60 (.t 0)), (.mv 3 (.c (.bool false)))]) (.seq (.reg [(.fa 4 (.t 2) 2), (.ld 5 (.t 4) false 1), (.bin 6 .eql (.t 5) (.c (.int .i64 2))), (.mv 7 (.t 6)), (.g 7 true (some 8) (.fa 8 (.t 2) 3)), (.g 7 true (some 9) (.ld 9 (.t 8) false 1)), (.pick 10 (.t 7) (.t 9) (.c (.bool false))), (.mv 11 (.t 10)), (.g 11 true (some 12) (.fa 12 (.t 2) 4)), (.g 11 true (some 13) (.ld 13 (.t 12) false 1)), (.g 11 true (some 14) (.fa 14 (.t 1) 1)), (.g 11 true (some 15) (.ld 15 (.t 14) false 1)), (.g 11 true (some 16) (.bin 16 .eql (.t 13) (.t 15))), (.pick 17 (.t 11) (.t 16) (.c (.bool false))), (.mv 3 (.t 17))]) .ret))
theorem e209 : compC prog f55.ntmps (f55.body.getD .skip) = c209 := by kernel_rfl
def candP (s : Station) (p : Packet) : Bool := decide (p.to = -1) || !(s.tab.cells.any fun c => decide (c.kind = 2) && c.send && decide (c.peer = p.to))
theorem c209_ok {y : TCell} {p : Packet} : ACalls prog 55 ([] ++ [.agg y.enc] ++ [.ptr 0 0 0 0]) [.cells 0 6 42 true [p.enc]] (.bool (decide (y.kind = 2) && y.send && decide (y.peer = p.to))) [.cells 0 6 42 true [p.enc]] := by
  refine calls_of hmx func55 (by kernel_rfl) (c := f55.body.getD .skip) rfl e209 (rs := [(.t 3)]) (by kernel_rfl) (by simp [ntmps55]) ?_
  simp only [c209, argS, List.nil_append, List.singleton_append]
  simp only [go_sem, seval]
  repeat' first | (with_reducible intro h; try simp only [h]) | (with_reducible refine And.intro ?_ ?_) | (change chk _ _ = true; rfl) | simp only [go_sem, seval, Vc_bool] | refine (GX_split rfl).2 ?_
  all_goals exact Rt_T (H := [_]) _ (by rfl) (by rfl) (by rfl) (Nat.le_refl _)

theorem c207_ok {s : Station} {slot : Int} {c : TCell} {p : Packet} (hL : s.tab.cells.length < 2 ^ 62) : ACalls prog 53 ([] ++ [.agg p.enc] ++ [.ptr 1 0 0 0]) [.cells 0 21 77 true [wEnc s slot c], .cells 0 1 68 true [[.ptr 0 0 0 0]]] (.bool (candP s p)) [.cells 0 21 77 true [wEnc s slot c], .cells 0 1 68 true [[.ptr 0 0 0 0]]] := by
  refine calls_of hmx func53 (by kernel_rfl) (c := f53.body.getD .skip) rfl e207 (rs := [(.t 3)]) (by kernel_rfl) (by simp [ntmps53]) ?_
  simp only [c207, argS, List.nil_append, List.singleton_append]
  cases h0 : decide (p.to = -1)
  · have e : candP s p = !(s.tab.cells.any fun y => decide (y.kind = 2) && y.send && decide (y.peer = p.to)) := by rw [candP, h0, Bool.false_or]
    rw [e]
    repeat' first | (with_reducible intro h; try simp only [h]) | (with_reducible refine And.intro ?_ ?_) | (change chk _ _ = true; rfl) | simp only [go_sem, seval, Vc_bool, h0] | refine (GX_split rfl).2 ?_
    refine CX_rd [2] (c208_has (en := TCell.enc) (xs := s.tab.cells) (p := fun y => decide (y.kind = 2) && y.send && decide (y.peer = p.to)) (caps := [.ptr 0 0 0 0]) (first := []) (g := 55) hL (fun _ _ => by rfl) (fun _ _ => by rfl) (by rfl) (by rfl) (fun y _ => c209_ok (p := p))) (by rfl) (by rfl) (by rfl) (by rfl) (by rfl) (by decide) (by rfl) (by rfl) (by rfl) ?_
    repeat' first | (with_reducible intro h; try simp only [h]) | (with_reducible refine And.intro ?_ ?_) | (change chk _ _ = true; rfl) | simp only [go_sem, seval, Vc_bool] | refine (GX_split rfl).2 ?_
    exact Rt_T (H := [_, _]) _ (by rfl) (by rfl) (by rfl) (Nat.le_refl _)
  · have e : candP s p = true := by rw [candP, h0, Bool.true_or]
    rw [e]
    repeat' first | (with_reducible intro h; try simp only [h]) | (with_reducible refine And.intro ?_ ?_) | (change chk _ _ = true; rfl) | simp only [go_sem, seval, Vc_bool, h0] | refine (GX_split rfl).2 ?_
    exact Rt_T (H := [_, _]) _ (by rfl) (by rfl) (by rfl) (Nat.le_refl _)
theorem c104_ok {s : Station} {slot : Int} {c : TCell} (hC : s.tab.cells.length < 2 ^ 62) (hL : s.q.pk.length < 2 ^ 62) : ACalls prog 23 [.ptr 0 0 0 0] [.cells 0 21 77 true [wEnc s slot c]] (oPk (candidate s)) [.cells 0 21 77 true [wEnc s slot c]] := by
  refine calls_of hmx func23 (by kernel_rfl) (c := f23.body.getD .skip) rfl e104 (rs := [(.cell 2 true 6), (.t 3)]) (by kernel_rfl) (by simp [ntmps23]) ?_
  simp only [c104, argS]
  have hcand : candidate s = s.q.pk.find? (candP s) := rfl
  rw [hcand]
  repeat' first | (with_reducible intro h; try simp only [h]) | (with_reducible refine And.intro ?_ ?_) | (change chk _ _ = true; rfl) | simp only [go_sem, seval, Vc_bool] | refine (GX_split rfl).2 ?_
  refine CX_rd [0, 1] (c206_idx (en := Packet.enc) (xs := s.q.pk) (p := candP s) (caps := [.ptr 1 0 0 0]) (first := []) (g := 53) hL (fun _ _ => by rfl) (fun _ _ => by rfl) (by rfl) (by rfl) (fun p _ => c207_ok (s := s) (slot := slot) (c := c) (p := p) hC)) (by rfl) (by rfl) (by rfl) (by rfl) (by rfl) (by decide) (by rfl) (by rfl) (by rfl) ?_
  rcases idxFrom_find (candP s) s.q.pk with ⟨h1, h2⟩ | ⟨i, x, h1, h2, h3, h4, h5⟩
  · rw [h2]
    repeat' first | (with_reducible intro h; try simp only [h]) | (with_reducible refine And.intro ?_ ?_) | (change chk _ _ = true; rfl) | simp only [go_sem, seval, Vc_bool, h1] | refine (GX_split rfl).2 ?_
    exact Rt_T (H := [_]) _ (by rfl) (by rfl) (by rfl) (Nat.le_refl _)
  · rw [h4]
    have e2 : (s.q.pk.map Packet.enc)[i]? = some x.enc := by rw [List.getElem?_map, h1]; rfl
    have e3 : decide ((i : Int) < 0) = false := by simp
    repeat' first | (with_reducible intro h; try simp only [h]) | (with_reducible refine And.intro ?_ ?_) | (change chk _ _ = true; rfl) | simp only [go_sem, seval, Vc_bool, h3, e2, e3, Int.toNat_natCast, Int.natCast_nonneg] | refine (GX_split rfl).2 ?_
    exact Rt_T (H := [_]) _ (by rfl) (by rfl) (by rfl) (Nat.le_refl _)

theorem c207n_ok {s : Station} {slot : Int} {c : TCell} {p : Packet} (hL : s.tab.cells.length < 2 ^ 62) : ACalls prog 53 ([] ++ [.agg p.enc] ++ [.ptr 2 0 0 0]) [.cells 0 21 77 true [wEncN s 1 slot c], .cells 1 2 102 false (s.seen.map Seen.enc), .cells 0 1 68 true [[.ptr 0 0 0 0]]] (.bool (candP s p)) [.cells 0 21 77 true [wEncN s 1 slot c], .cells 1 2 102 false (s.seen.map Seen.enc), .cells 0 1 68 true [[.ptr 0 0 0 0]]] := by
  refine calls_of hmx func53 (by kernel_rfl) (c := f53.body.getD .skip) rfl e207 (rs := [(.t 3)]) (by kernel_rfl) (by simp [ntmps53]) ?_
  simp only [c207, argS, List.nil_append, List.singleton_append]
  cases h0 : decide (p.to = -1)
  · have e : candP s p = !(s.tab.cells.any fun y => decide (y.kind = 2) && y.send && decide (y.peer = p.to)) := by rw [candP, h0, Bool.false_or]
    rw [e]
    repeat' first | (with_reducible intro h; try simp only [h]) | (with_reducible refine And.intro ?_ ?_) | (change chk _ _ = true; rfl) | simp only [go_sem, seval, Vc_bool, h0] | refine (GX_split rfl).2 ?_
    refine CX_rd [3] (c208_has (en := TCell.enc) (xs := s.tab.cells) (p := fun y => decide (y.kind = 2) && y.send && decide (y.peer = p.to)) (caps := [.ptr 0 0 0 0]) (first := []) (g := 55) hL (fun _ _ => by rfl) (fun _ _ => by rfl) (by rfl) (by rfl) (fun y _ => c209_ok (p := p))) (by rfl) (by rfl) (by rfl) (by rfl) (by rfl) (by decide) (by rfl) (by rfl) (by rfl) ?_
    repeat' first | (with_reducible intro h; try simp only [h]) | (with_reducible refine And.intro ?_ ?_) | (change chk _ _ = true; rfl) | simp only [go_sem, seval, Vc_bool] | refine (GX_split rfl).2 ?_
    exact Rt_T (H := [_, _, _]) _ (by rfl) (by rfl) (by rw [List.all_cons, List.all_cons, List.all_cons, List.all_nil, Bool.and_true, lt_seen, Bool.true_and]; rfl) (Nat.le_refl _)
  · have e : candP s p = true := by rw [candP, h0, Bool.true_or]
    rw [e]
    repeat' first | (with_reducible intro h; try simp only [h]) | (with_reducible refine And.intro ?_ ?_) | (change chk _ _ = true; rfl) | simp only [go_sem, seval, Vc_bool, h0] | refine (GX_split rfl).2 ?_
    exact Rt_T (H := [_, _, _]) _ (by rfl) (by rfl) (by rw [List.all_cons, List.all_cons, List.all_cons, List.all_nil, Bool.and_true, lt_seen, Bool.true_and]; rfl) (Nat.le_refl _)
theorem c104n_ok {s : Station} {slot : Int} {c : TCell} (hC : s.tab.cells.length < 2 ^ 62) (hL : s.q.pk.length < 2 ^ 62) : ACalls prog 23 [.ptr 0 0 0 0] [.cells 0 21 77 true [wEncN s 1 slot c], .cells 1 2 102 false (s.seen.map Seen.enc)] (oPk (candidate s)) [.cells 0 21 77 true [wEncN s 1 slot c], .cells 1 2 102 false (s.seen.map Seen.enc)] := by
  refine calls_of hmx func23 (by kernel_rfl) (c := f23.body.getD .skip) rfl e104 (rs := [(.cell 2 true 6), (.t 3)]) (by kernel_rfl) (by simp [ntmps23]) ?_
  simp only [c104, argS]
  have hcand : candidate s = s.q.pk.find? (candP s) := rfl
  rw [hcand]
  repeat' first | (with_reducible intro h; try simp only [h]) | (with_reducible refine And.intro ?_ ?_) | (change chk _ _ = true; rfl) | simp only [go_sem, seval, Vc_bool] | refine (GX_split rfl).2 ?_
  refine CX_rd [0, 1, 2] (c206_idx (en := Packet.enc) (xs := s.q.pk) (p := candP s) (caps := [.ptr 2 0 0 0]) (first := []) (g := 53) hL (fun _ _ => by rfl) (fun _ _ => by rfl) (by rfl) (by rw [List.all_cons, List.all_cons, List.all_cons, List.all_nil, Bool.and_true, lt_seen, Bool.true_and]; rfl) (fun p _ => c207n_ok (s := s) (slot := slot) (c := c) (p := p) hC)) (by rfl) (by rfl) (by rfl) (by rw [List.all_cons, List.all_cons, List.all_cons, List.all_nil, Bool.and_true, lt_seen, Bool.true_and]; rfl) (by rfl) (by decide) (by rfl) (by rw [List.map_cons, List.map_cons, List.map_cons, List.map_nil, List.map_cons, List.map_cons, List.map_cons, List.map_nil, ren_seen]; rfl) (by rfl) ?_
  rcases idxFrom_find (candP s) s.q.pk with ⟨h1, h2⟩ | ⟨i, x, h1, h2, h3, h4, h5⟩
  · rw [h2]
    repeat' first | (with_reducible intro h; try simp only [h]) | (with_reducible refine And.intro ?_ ?_) | (change chk _ _ = true; rfl) | simp only [go_sem, seval, Vc_bool, h1] | refine (GX_split rfl).2 ?_
    exact Rt_T (H := [_, _]) _ (by rfl) (by rfl) (by rw [List.all_cons, List.all_cons, List.all_nil, Bool.and_true, lt_seen, Bool.and_true]; rfl) (Nat.le_refl _)
  · rw [h4]
    have e2 : (s.q.pk.map Packet.enc)[i]? = some x.enc := by rw [List.getElem?_map, h1]; rfl
    have e3 : decide ((i : Int) < 0) = false := by simp
    repeat' first | (with_reducible intro h; try simp only [h]) | (with_reducible refine And.intro ?_ ?_) | (change chk _ _ = true; rfl) | simp only [go_sem, seval, Vc_bool, h3, e2, e3, Int.toNat_natCast, Int.natCast_nonneg] | refine (GX_split rfl).2 ?_
    exact Rt_T (H := [_, _]) _ (by rfl) (by rfl) (by rw [List.all_cons, List.all_cons, List.all_nil, Bool.and_true, lt_seen, Bool.and_true]; rfl) (Nat.le_refl _)

def c28 : SC := (.seq (.reg [(.box 3 35 (.t 0)), (.box 5 50 (.t 2)), (.alc 6 35 [(.int .i64 0), (.int .i64 0), .nil, (.int .i64 0), .nil, .nil, .nil, (.int .i64 0), (.int .i64 0), (.int .i64 0), (.int .i64 0), (.int .i64 0), (.int .i64 0), (.int .i64 0)]), (.alc 7 52 [(.bool false), (.bool false), (.int .i64 0), (.int .i64 0), (.int .i64 0), (.int .i64 0), (.int .i64 0), (.int .i64 0), (.int .i64 0), (.int .i64 0), (.int .i64 0), (.int .i64 0), (.int .i64 0), (.str (ByteArray.mk #[]))]), (.mv 8 (.c (.int .i64 0)))]) (.seq (.reg [(.ld 17 (.t 3) true 14), (.mv 18 (.t 1)), (.call (some 19) (.c (.func 18 [] [])) [(.t 17), (.t 18)]), (.mv 16 (.t 19)), (.ext 20 (.t 16) 0), (.ext 21 (.t 16) 1), (.mv 9 (.t 20)), (.mv 10 (.t 21))]) (.seq (.seq (.reg [(.mv 22 (.t 10)), (.bin 23 .neq (.t 22) (.c (.int .i64 0)))]) (.cond (.t 23) (.seq (.reg [(.bld 24 [(.int .i64 0), (.int .i64 0), .nil, (.int .i64 0), .nil, .nil, .nil, (.int .i64 0), (.int .i64 0), (.int .i64 0), (.int .i64 0), (.int .i64 0), (.int .i64 0), (.int .i64 0)] []), (.bld 25 [(.bool false), (.bool false), (.int .i64 0), (.int .i64 0), (.int .i64 0), (.int .i64 0), (.int .i64 0), (.int .i64 0), (.int .i64 0), (.int .i64 0), (.int .i64 0), (.int .i64 0), (.int .i64 0), (.str (ByteArray.mk #[]))] []), (.mv 26 (.t 10)), (.st (.t 6) (.t 24) 14), (.st (.t 7) (.t 25) 14), (.mv 8 (.t 26))]) .ret) .skip)) (.seq (.reg [(.bld 27 [(.bool false), (.bool false), (.int .i64 0), (.int .i64 0), (.int .i64 0), (.int .i64 0), (.int .i64 0), (.int .i64 0), (.int .i64 0), (.int .i64 0), (.int .i64 0), (.int .i64 0), (.int .i64 0), (.str (ByteArray.mk #[]))] []), (.alc 11 52 [(.bool false), (.bool false), (.int .i64 0), (.int .i64 0), (.int .i64 0), (.int .i64 0), (.int .i64 0), (.int .i64 0), (.int .i64 0), (.int .i64 0), (.int .i64 0), (.int .i64 0), (.int .i64 0), (.str (ByteArray.mk #[]))]), (.st (.t 11) (.t 27) 14)]) (.seq (.seq (.reg [(.mv 28 (.t 9)), (.call (some 29) (.c (.func 19 [] [])) [(.t 28)]), (.alc 12 46 [(.int .i64 0), (.int .i64 0), (.int .i64 0), (.int .i64 0), (.int .i64 0), (.int .i64 0), (.int .i64 0), (.int .i64 0), (.int .i64 0), (.int .i64 0), (.int .i64 0), (.int .i64 0), (.int .i64 0), (.str (ByteArray.mk #[]))]), (.st (.t 12) (.t 29) 14)]) (.block 0 (.seq (.reg [(.fa 31 (.t 12) 0), (.ld 32 (.t 31) false 1), (.bin 33 .eql (.t 32) (.c (.int .i64 1))), (.mv 34 (.t 33)), (.g 34 true (some 35) (.fa 35 (.t 12) 2)), (.g 34 true (some 36) (.fa 36 (.t 35) 0)), (.g 34 true (some 37) (.ld 37 (.t 36) false 1)), (.g 34 true (some 38) (.bin 38 .eql (.t 37) (.c (.int .i64 1)))), (.pick 39 (.t 34) (.t 38) (.c (.bool false))), (.mv 30 (.t 39))]) (.cond (.t 30) (.seq (.reg [(.fa 40 (.t 5) 0), (.ld 41 (.t 40) false 1)]) (.cond (.t 41) (.seq (.regD [(.mv 42 (.t 9)), (.nck 43 (.t 42)), (.fa 44 (.t 43) 0), (.fa 45 (.t 44) 5), (.ld 46 (.t 45) false 1), (.mv 47 (.t 9)), (.fa 48 (.t 12) 2), (.fa 49 (.t 48) 5), (.ld 50 (.t 49) false 1), (.call (some 51) (.c (.func 20 [] [])) [(.t 47), (.t 50)]), (.ia 52 (.t 46) (.t 51) 5), (.mv 13 (.t 52))] [(4, 9)]) (.regD [(.mv 53 (.t 13)), (.mv 54 (.t 13)), (.nck 55 (.t 54)), (.fa 56 (.t 55) 4), (.ld 57 (.t 56) false 1), (.fa 58 (.t 12) 2), (.fa 59 (.t 58) 2), (.ld 60 (.t 59) false 1), (.call (some 61) (.c (.func 21 [] [])) [(.t 57), (.t 60)]), (.nck 62 (.t 53)), (.fa 63 (.t 62) 4), (.st (.t 63) (.t 61) 1)] [])) .skip)) (.seq (.reg [(.fa 65 (.t 12) 0), (.ld 66 (.t 65) false 1), (.bin 67 .eql (.t 66) (.c (.int .i64 1))), (.mv 64 (.t 67))]) (.cond (.t 64) (.reg [(.mv 68 (.t 9)), (.fa 69 (.t 5) 0), (.ld 70 (.t 69) false 1), (.call (some 71) (.c (.func 22 [] [])) [(.t 68), (.t 70)])]) (.seq (.reg [(.fa 73 (.t 12) 0), (.ld 74 (.t 73) false 1), (.bin 75 .eql (.t 74) (.c (.int .i64 2))), (.mv 72 (.t 75))]) (.cond (.t 72) (.seq (.seq (.reg [(.mv 77 (.t 9)), (.call (some 78) (.c (.func 23 [] [])) [(.t 77)]), (.mv 76 (.t 78)), (.ext 79 (.t 76) 0), (.ext 80 (.t 76) 1), (.alc 14 42 [(.int .i64 0), (.int .i64 0), (.int .i64 0), (.int .i64 0), (.int .i64 0), (.str (ByteArray.mk #[]))]), (.st (.t 14) (.t 79) 6), (.mv 15 (.t 80))]) (.seq (.reg [(.mv 81 (.t 15)), (.mv 82 (.t 81)), (.g 82 true (some 83) (.mv 83 (.t 9))), (.g 82 true (some 84) (.nck 84 (.t 83))), (.g 82 true (some 85) (.fa 85 (.t 84) 15)), (.g 82 true (some 86) (.fa 86 (.t 85) 2)), (.g 82 true (some 87) (.ld 87 (.t 86) false 1)), (.g 82 true (some 88) (.bin 88 .eql (.t 87) (.c (.int .i64 3)))), (.pick 89 (.t 82) (.t 88) (.c (.bool false)))]) (.cond (.t 89) (.reg [(.mv 90 (.t 9)), (.nck 91 (.t 90)), (.fa 92 (.t 91) 0), (.fa 93 (.t 92) 12), (.ld 94 (.t 93) false 1), (.bin 95 .sub (.t 94) (.c (.int .i64 1))), (.nck 96 (.t 90)), (.fa 97 (.t 96) 0), (.fa 98 (.t 97) 12), (.st (.t 98) (.t 95) 1)]) .skip))) (.seq (.reg [(.fa 99 (.t 5) 1), (.ld 100 (.t 99) false 1)]) (.cond (.t 100) (.reg [(.mv 101 (.t 9)), (.fa 102 (.t 5) 2), (.ld 103 (.t 102) true 12), (.call (some 104) (.c (.func 24 [] [])) [(.t 101), (.t 103)]), (.st (.t 11) (.t 104) 14)]) .skip))) .skip)))))))) (.seq (.regD [(.mv 105 (.t 9)), (.nck 106 (.t 105)), (.fa 107 (.t 106) 0), (.ld 108 (.t 107) true 14), (.ld 109 (.t 11) true 14), (.st (.t 6) (.t 108) 14), (.st (.t 7) (.t 109) 14), (.mv 8 (.c (.int .i64 0)))] [(4, 5)]) .ret))))))
theorem e28 : compC prog f10.ntmps (f10.body.getD .skip) = c28 := by kernel_rfl
theorem c28_err {s : Station} {slot : Int} {r : Sp.Result} (hB : ClBd s) (hE : slotErr s slot ≠ 0) : ACalls prog 10 [.agg s.enc, .int .i64 slot, .agg r.enc] [] (.tup [.agg Station.zero.enc, .agg Up.zero.enc, .int .i64 (slotErr s slot)]) [] := by
  have e : decide (slotErr s slot = 0) = false := by simpa using hE
  refine calls_of hmx func10 (by kernel_rfl) (c := f10.body.getD .skip) rfl e28 (rs := [(.cell 6 true 14), (.cell 7 true 14), (.t 8)]) (by kernel_rfl) (by simp [ntmps10]) ?_
  simp only [c28, argS]
  repeat' first | refine CX_pure (c96_err hB hE) rfl rfl rfl rfl ?_ | refine GX_call (fun _ => (c96_err hB hE)) (by rfl) (by intro h; simp only [h]; rfl) (by rfl) (by rfl) ?_ | (with_reducible intro h; try simp only [h]) | (with_reducible refine And.intro ?_ ?_) | (change chk _ _ = true; rfl) | simp only [go_sem, seval, Vc_bool, e] | refine (GX_split rfl).2 ?_
  refine Rt.gs (Gs_tell (s' := [(6, .ptr 2 0 0 0), (7, .ptr 3 0 0 0), (8, .int .i64 (slotErr s slot))]) (H' := [.dead, .dead, .cells 0 14 35 true [Station.zero.enc], .cells 0 14 52 true [Up.zero.enc]]) ?_ ?_) (Rt_pure ?_ rfl)
  · repeat' (first | exact FzL.nil | refine FzL.cons ?_ ?_ | exact Fz.wk (Wk.refl _) | exact Fz.wk (Wk.nil _) | exact Fz.wk (Wk.emp _) | exact Fz.row0 _ _ _ _ | exact FzH.nil _ | exact FzO.refl _ | refine FzO.one ?_ | refine FzH.cons (by decide) ?_ ?_ | refine FzH.this rfl ?_ | exact FzO.dead (by simp) | (simp only [List.forall_mem_cons, List.not_mem_nil, false_implies, implies_true, and_true, go_sem, seval]) | refine And.intro ?_ ?_)
  · repeat' (first | exact FzL.nil | refine FzL.cons ?_ ?_ | exact Fz.wk (Wk.refl _) | exact Fz.wk (Wk.nil _) | exact Fz.wk (Wk.emp _) | exact Fz.row0 _ _ _ _ | exact FzH.nil _ | exact FzO.refl _ | refine FzO.one ?_ | refine FzH.cons (by decide) ?_ ?_ | refine FzH.this rfl ?_ | exact FzO.dead (by simp) | (simp only [List.forall_mem_cons, List.not_mem_nil, false_implies, implies_true, and_true, go_sem, seval]) | refine And.intro ?_ ?_)
  · rfl
theorem c28_sent {s s' : Station} {slot : Int} {r : Sp.Result} {a : Action} (hB : ClBd s) (hE : slotErr s slot = 0) (hA : ACalls prog 19 [.ptr 0 0 0 0] [.cells 0 21 77 true [wEnc s slot (cellAt s slot)]] (.agg a.enc) [.cells 0 21 77 true [wEnc s slot (cellAt s slot)]])
    (ha : a.kind = 1) (hf : a.fr.kind = 4) (h103 : ACalls prog 22 [.ptr 0 0 0 0, .bool r.acked] [.cells 0 21 77 true [wEnc s slot (cellAt s slot)]] (.tup []) [.cells 0 21 77 true [wEnc s' slot (cellAt s slot)]]) :
    ACalls prog 10 [.agg s.enc, .int .i64 slot, .agg r.enc] [] (.tup [.agg s'.enc, .agg Up.zero.enc, .int .i64 0]) [] := by
  rcases a with ⟨ak, ao, ⟨fk, zf2, zf3, zf4, zf5, zf6, zf7, zf8, zf9, zf10, zf11, zf12⟩⟩
  obtain rfl : ak = 1 := ha
  obtain rfl : fk = 4 := hf
  refine calls_of hmx func10 (by kernel_rfl) (c := f10.body.getD .skip) rfl e28 (rs := [(.cell 6 true 14), (.cell 7 true 14), (.t 8)]) (by kernel_rfl) (by simp [ntmps10]) ?_
  simp only [c28, argS]
  repeat' first | (with_reducible intro h; try simp only [h]) | (with_reducible refine And.intro ?_ ?_) | (change chk _ _ = true; rfl) | simp only [go_sem, seval, Vc_bool] | refine (GX_split rfl).2 ?_
  refine CX_new (r1 := .tup [.ptr 4 0 0 0, .int .i64 0]) (c96_ok hB hE) rfl rfl rfl (by rfl) (by rfl) ?_
  repeat' first | refine CX_rd [4] (hA) (by rfl) (by rfl) (by rfl) (by rfl) (by rfl) (by decide) (by rfl) (by rfl) (by rfl) ?_ | refine CX_put 4 (h103) (by rfl) (by rfl) (by rfl) (by rfl) (by rfl) (by rfl) (by rfl) (by rfl) ?_ | (with_reducible intro h; try simp only [h]) | (with_reducible refine And.intro ?_ ?_) | (change chk _ _ = true; rfl) | simp only [go_sem, seval, Vc_bool] | refine (GX_split rfl).2 ?_
  exact Rt_pure (by rfl) (by rfl)
theorem c28_heard {s s' : Station} {slot : Int} {r : Sp.Result} {a : Action} {up : Sp.Up} (hB : ClBd s) (hE : slotErr s slot = 0) (hA : ACalls prog 19 [.ptr 0 0 0 0] [.cells 0 21 77 true [wEncN s 1 slot (cellAt s slot)], .cells 1 2 102 false (s.seen.map Seen.enc)] (.agg a.enc) [.cells 0 21 77 true [wEncN s 1 slot (cellAt s slot)], .cells 1 2 102 false (s.seen.map Seen.enc)])
    (ha : a.kind = 2) (hk : (cellAt s slot).kind ≠ 3 ∨ candidate s = none) (hh : r.heard = true) (h105 : ACalls prog 24 [.ptr 0 0 0 0, .agg r.fr.enc] [.cells 0 21 77 true [wEncN s 1 slot (cellAt s slot)], .cells 1 2 102 false (s.seen.map Seen.enc)] (.agg up.enc) [.cells 0 21 77 true [wEnc s' slot (cellAt s slot)], .dead]) :
    ACalls prog 10 [.agg s.enc, .int .i64 slot, .agg r.enc] [] (.tup [.agg s'.enc, .agg up.enc, .int .i64 0]) [] := by
  have h96 := c96n_ok hB hE
  have h104 := c104n_ok (slot := slot) (c := cellAt s slot) hB.st.1 hB.st.2.1
  revert hA h105 h96 h104 hk
  generalize cellAt s slot = c
  rcases c with ⟨cs, co, ck, cd, cp, cf⟩
  intro hA (hk : ck ≠ 3 ∨ candidate s = none) h105 h96 h104
  rcases a with ⟨ak, ao, ⟨fk, zf2, zf3, zf4, zf5, zf6, zf7, zf8, zf9, zf10, zf11, zf12⟩⟩
  obtain rfl : ak = 2 := ha
  have hcl : ([.cells 0 21 77 true [wEncN s 1 slot ⟨cs, co, ck, cd, cp, cf⟩], .cells 1 2 102 false (s.seen.map Seen.enc)] : Heap).all (ltO 2) = true := by rw [List.all_cons, List.all_cons, List.all_nil, Bool.and_true, lt_seen, Bool.and_true]; rfl
  refine calls_of hmx func10 (by kernel_rfl) (c := f10.body.getD .skip) rfl e28 (rs := [(.cell 6 true 14), (.cell 7 true 14), (.t 8)]) (by kernel_rfl) (by simp [ntmps10]) ?_
  simp only [c28, argS]
  repeat' first | (with_reducible intro h; try simp only [h]) | (with_reducible refine And.intro ?_ ?_) | (change chk _ _ = true; rfl) | simp only [go_sem, seval, Vc_bool] | refine (GX_split rfl).2 ?_
  refine CX_w [] [] (r1 := .tup [.ptr 4 0 0 0, .int .i64 0]) (H1 := [_, _, _, _, .cells 0 21 77 true [wEncN s 5 slot ⟨cs, co, ck, cd, cp, cf⟩], .cells 1 2 102 false (s.seen.map Seen.enc)]) h96 (by rfl) (by rfl) (by rfl) (by rfl) (by rfl) (by decide) (by rfl) (by rfl) (Nat.zero_le _) trivial (by rfl) (by rfl) (by show _ ++ List.map _ [_, _] = _; rw [List.map_cons, List.map_cons, List.map_nil, ren_seen]; rfl) ?_
  repeat' first | refine CX_rd [4, 5] (hA) (by rfl) (by rfl) (by rfl) (by rw [List.all_cons, List.all_cons, List.all_nil, Bool.and_true, lt_seen, Bool.and_true]; rfl) (by rfl) (by decide) (by rfl) (by rw [List.map_cons, List.map_cons, List.map_nil, List.map_cons, List.map_cons, List.map_nil, ren_seen]; rfl) (by rfl) ?_ | (with_reducible intro h; try simp only [h]) | (with_reducible refine And.intro ?_ ?_) | (change chk _ _ = true; rfl) | simp only [go_sem, seval, Vc_bool] | refine (GX_split rfl).2 ?_
  cases hc : candidate s with
  | none =>
    rw [hc] at h104
    repeat' first | refine CX_rd [4, 5] (h104) (by rfl) (by rfl) (by rfl) (by rw [List.all_cons, List.all_cons, List.all_nil, Bool.and_true, lt_seen, Bool.and_true]; rfl) (by rfl) (by decide) (by rfl) (by rw [List.map_cons, List.map_cons, List.map_nil, List.map_cons, List.map_cons, List.map_nil, ren_seen]; rfl) (by rfl) ?_ | (with_reducible intro h; try simp only [h]) | (with_reducible refine And.intro ?_ ?_) | (change chk _ _ = true; rfl) | simp only [go_sem, seval, Vc_bool, oPk_none, hh] | refine (GX_split rfl).2 ?_
    refine CX_put2 4 5 h105 (by rfl) (by rfl) (by rfl) (by rfl) lt_seen (by rfl) (by rfl) (by decide) (by rfl) ren_seen.symm (by rfl) (by rfl) (by rfl) ?_
    repeat' first | (with_reducible intro h; try simp only [h]) | (with_reducible refine And.intro ?_ ?_) | (change chk _ _ = true; rfl) | simp only [go_sem, seval, Vc_bool] | refine (GX_split rfl).2 ?_
    exact Rt_pure (by rfl) (by rfl)
  | some p =>
    rw [hc] at h104
    have k3 : decide (ck = 3) = false := by simpa [hc] using hk
    repeat' first | refine CX_rd [4, 5] (h104) (by rfl) (by rfl) (by rfl) (by rw [List.all_cons, List.all_cons, List.all_nil, Bool.and_true, lt_seen, Bool.and_true]; rfl) (by rfl) (by decide) (by rfl) (by rw [List.map_cons, List.map_cons, List.map_nil, List.map_cons, List.map_cons, List.map_nil, ren_seen]; rfl) (by rfl) ?_ | (with_reducible intro h; try simp only [h]) | (with_reducible refine And.intro ?_ ?_) | (change chk _ _ = true; rfl) | simp only [go_sem, seval, Vc_bool, oPk_some, hh, k3] | refine (GX_split rfl).2 ?_
    refine CX_put2 4 5 h105 (by rfl) (by rfl) (by rfl) (by rfl) lt_seen (by rfl) (by rfl) (by decide) (by rfl) ren_seen.symm (by rfl) (by rfl) (by rfl) ?_
    repeat' first | (with_reducible intro h; try simp only [h]) | (with_reducible refine And.intro ?_ ?_) | (change chk _ _ = true; rfl) | simp only [go_sem, seval, Vc_bool] | refine (GX_split rfl).2 ?_
    exact Rt_pure (by rfl) (by rfl)

def c155 : SC := (.seq (.reg [(.box 2 31 (.t 0)), (.box 3 42 (.t 1)), (.alc 4 31 [(.int .i64 0), .nil]), (.mv 5 (.c .nil)), (.mv 6 (.c (.int .i64 0)))]) (.seq (.seq (.reg [(.ld 12 (.t 2) true 2), (.call (some 13) (.c (.func 33 [] [])) [(.t 12)]), (.bin 14 .neq (.t 13) (.c (.int .i64 0)))]) (.cond (.t 14) (.seq (.reg [(.bld 15 [(.int .i64 0), .nil] []), (.st (.t 4) (.t 15) 2), (.mv 5 (.c .nil)), (.mv 6 (.c (.int .i64 1)))]) .ret) .skip)) (.seq (.seq (.reg [(.ld 16 (.t 3) true 6), (.call (some 17) (.c (.func 34 [] [])) [(.t 16)]), (.mv 7 (.t 17))]) (.seq (.reg [(.mv 18 (.t 7)), (.bin 19 .neq (.t 18) (.c (.int .i64 0)))]) (.cond (.t 19) (.seq (.reg [(.bld 20 [(.int .i64 0), .nil] []), (.mv 21 (.t 7)), (.st (.t 4) (.t 20) 2), (.mv 5 (.c .nil)), (.mv 6 (.t 21))]) .ret) .skip))) (.seq (.seq (.reg [(.ld 22 (.t 2) true 2), (.fa 23 (.t 3) 0), (.ld 24 (.t 23) false 1), (.call (some 25) (.c (.func 35 [] [])) [(.t 22), (.t 24)]), (.bin 26 .geq (.t 25) (.c (.int .i64 0)))]) (.cond (.t 26) (.seq (.reg [(.bld 27 [(.int .i64 0), .nil] []), (.st (.t 4) (.t 27) 2), (.mv 5 (.c .nil)), (.mv 6 (.c (.int .i64 6)))]) .ret) .skip)) (.seq (.reg [(.fa 28 (.t 2) 1), (.ld 29 (.t 28) false 1), (.call (some 30) (.c (.func 36 [] [])) [(.t 29)]), (.mv 8 (.t 30))]) (.seq (.reg [(.mv 9 (.c .nil))]) (.seq (.seq (.reg [(.mv 31 (.t 8)), (.len 32 false (.t 31)), (.bin 33 .sub (.t 32) (.c (.int .i64 1))), (.mv 10 (.t 33))]) (.seq (.reg [(.mv 34 (.t 8)), (.len 35 false (.t 34)), (.fa 36 (.t 2) 0), (.ld 37 (.t 36) false 1), (.bin 38 .eql (.t 35) (.t 37))]) (.cond (.t 38) (.seq (.seq (.regD [(.mv 39 (.t 8)), (.mv 40 (.t 10)), (.ia 41 (.t 39) (.t 40) 6), (.fa 42 (.t 41) 2), (.ld 43 (.t 42) false 1), (.fa 44 (.t 3) 2), (.ld 45 (.t 44) false 1), (.bin 46 .leq (.t 43) (.t 45))] []) (.cond (.t 46) (.seq (.reg [(.bld 47 [(.int .i64 0), .nil] []), (.st (.t 4) (.t 47) 2), (.mv 5 (.c .nil)), (.mv 6 (.c (.int .i64 13)))]) .ret) .skip)) (.regD [(.mv 48 (.t 9)), (.mv 49 (.t 8)), (.mv 50 (.t 10)), (.ia 51 (.t 49) (.t 50) 6), (.ld 52 (.t 51) true 6), (.bsl 53 42 6 [(.int .i64 0), (.int .i64 0), (.int .i64 0), (.int .i64 0), (.int .i64 0), (.str (ByteArray.mk #[]))] 1 [(0, (.t 52))]), (.app 54 42 6 56 (.t 48) (.t 53)), (.mv 55 (.t 8)), (.mv 56 (.t 10)), (.slc 57 6 (.t 55) none (some (.t 56)) none), (.mv 9 (.t 54)), (.mv 8 (.t 57))] [(5, 9), (6, 9)])) .skip))) (.seq (.reg [(.mv 58 (.t 8)), (.mkf 59 38 [] [(.t 3)]), (.call (some 60) (.c (.func 37 [] [])) [(.t 58), (.t 59)]), (.mv 11 (.t 60))]) (.seq (.seq (.reg [(.mv 61 (.t 11)), (.bin 62 .lss (.t 61) (.c (.int .i64 0)))]) (.cond (.t 62) (.reg [(.mv 63 (.t 8)), (.len 64 false (.t 63)), (.mv 11 (.t 64))]) .skip)) (.seq (.regD [(.fa 65 (.t 2) 0), (.ld 66 (.t 65) false 1), (.mv 67 (.t 8)), (.mv 68 (.t 11)), (.ld 69 (.t 3) true 6), (.bsl 70 42 6 [(.int .i64 0), (.int .i64 0), (.int .i64 0), (.int .i64 0), (.int .i64 0), (.str (ByteArray.mk #[]))] 1 [(0, (.t 69))]), (.call (some 71) (.c (.func 39 [] [])) [(.t 67), (.t 68), (.t 70)]), (.bld 72 [(.int .i64 0), .nil] [(0, 1, (.t 66)), (1, 1, (.t 71))]), (.mv 73 (.t 9)), (.st (.t 4) (.t 72) 2), (.mv 5 (.t 73)), (.mv 6 (.c (.int .i64 0)))] [(1, 5), (1, 6)]) .ret))))))))))
theorem e155 : compC prog f15.ntmps (f15.body.getD .skip) = c155 := by kernel_rfl
def c267 : SC := (.seq (.reg [(.box 2 42 (.t 0)), (.mv 3 (.c (.bool false)))]) (.seq (.reg [(.fa 4 (.t 2) 2), (.ld 5 (.t 4) false 1), (.fa 6 (.t 1) 2), (.ld 7 (.t 6) false 1), (.bin 8 .gtr (.t 5) (.t 7)), (.mv 3 (.t 8))]) .ret))
theorem e267 : compC prog f38.ntmps (f38.body.getD .skip) = c267 := by kernel_rfl
theorem lt_pk {l : List Packet} {m q : Nat} {fu : Bool} : ltO m (.cells q 6 42 fu (l.map Packet.enc)) = true := ltO_mono (Nat.zero_le m) (lt_map fun _ => by rfl)
theorem ren_pk {l : List Packet} {r : Nat → Nat} {q : Nat} {fu : Bool} : renO r (.cells q 6 42 fu (l.map Packet.enc)) = .cells q 6 42 fu (l.map Packet.enc) := renO_lt (m := 0) (fun id h => by omega) lt_pk
theorem c267_ok {y p : Packet} : ACalls prog 38 [.agg y.enc, .ptr 0 0 0 0] [.cells 0 6 42 true [p.enc]] (.bool (decide (p.pri < y.pri))) [.cells 0 6 42 true [p.enc]] := by
  refine calls_of hmx func38 (by kernel_rfl) (c := f38.body.getD .skip) rfl e267 (rs := [(.t 3)]) (by kernel_rfl) (by simp [ntmps38]) ?_
  simp only [c267, argS]
  repeat' first | (with_reducible intro h; try simp only [h]) | (with_reducible refine And.intro ?_ ?_) | (change chk _ _ = true; rfl) | simp only [go_sem, seval, Vc_bool] | refine (GX_split rfl).2 ?_
  exact Rt_T (H := [_]) _ (by rfl) (by rfl) (by rfl) (Nat.le_refl _)
theorem pk_lt2 {l : List Packet} {p : Packet} {q : Nat} : ([.cells q 6 42 false (l.map Packet.enc), .cells 0 6 42 true [p.enc]] : Heap).all (ltO 2) = true := by rw [List.all_cons, List.all_cons, List.all_nil, Bool.and_true, lt_pk, Bool.true_and]; rfl
theorem l206r (l : List Packet) (p : Packet) (q : Nat) (hL : l.length < 2 ^ 62) (k' : List It) (hk : ∀ zs, V prog f37.ntmps 2 (Ret [.t 4] 2 (.int .i64 (-1)) [.cells q 6 42 false (l.map Packet.enc), .cells 0 6 42 true [p.enc]]) k' zs [.cells q 6 42 false (l.map Packet.enc), .cells 0 6 42 true [p.enc]]) : ∀ (rest done : List Packet), l = done ++ rest →
    Lp prog f37.ntmps 2 (Ret [.t 4] 2 (.int .i64 (idxFrom (fun y : Packet => decide (p.pri < y.pri)) done.length rest)) [.cells q 6 42 false (l.map Packet.enc), .cells 0 6 42 true [p.enc]]) (cIdxL 6) (.blk 0 :: k') [(0, .row 0 q 0 l.length), (1, .func 38 [] [.ptr 1 0 0 0]), (7, .int .i64 l.length), (8, .int .i64 done.length)] [.cells q 6 42 false (l.map Packet.enc), .cells 0 6 42 true [p.enc]] := by
  intro rest
  induction rest with
  | nil =>
    intro done hd
    refine Lp.of_eq hmx (cIdxL.eq_1 6) ?_
    have h1 := rg_end hd
    simp only [go_sem, seval, h1]
    exact hk _
  | cons c rest ih =>
    intro done hd
    refine Lp.of_eq hmx (cIdxL.eq_1 6) ?_
    obtain ⟨h1, h2, h3, h4⟩ := rg_hd Packet.enc hd hL
    have ih' := ih _ h4
    have hlt : ((done.length : Int) < (l.length : Int)) = True := eq_true (by have := congrArg List.length hd; simp at this; omega)
    repeat' first | refine CX_rd [1] (c267_ok (y := c) (p := p)) (by rfl) (by rfl) (by rfl) (by rfl) (by rfl) (by decide) (by rfl) (by rfl) (by rfl) ?_ | (with_reducible intro h; try simp only [h]) | (with_reducible refine And.intro ?_ ?_) | (change chk _ _ = true; rfl) | simp only [go_sem, seval, Vc_bool, h1, h2, h3, hlt, Int.toNat_natCast, Int.natCast_nonneg, Nat.zero_add] | refine (GX_split rfl).2 ?_
    · have e : idxFrom (fun y : Packet => decide (p.pri < y.pri)) done.length (c :: rest) = done.length := by rw [idxFrom, if_pos h]
      rw [e]
      exact Rt_all (by rfl) (by rfl) pk_lt2 (Nat.le_refl _)
    · have e : idxFrom (fun y : Packet => decide (p.pri < y.pri)) done.length (c :: rest) = idxFrom (fun y : Packet => decide (p.pri < y.pri)) (done ++ [c]).length rest := by rw [idxFrom, if_neg (by simpa using h)]; simp
      rw [e]
      exact Lp.bkE0 ih' (by rfl) rfl
theorem c206r_ok {l : List Packet} {p : Packet} {q : Nat} (hL : l.length < 2 ^ 62) : ACalls prog 37 [.row 0 q 0 l.length, .func 38 [] [.ptr 1 0 0 0]] [.cells q 6 42 false (l.map Packet.enc), .cells 0 6 42 true [p.enc]] (.int .i64 (idxFrom (fun y : Packet => decide (p.pri < y.pri)) 0 l)) [.cells q 6 42 false (l.map Packet.enc), .cells 0 6 42 true [p.enc]] := by
  refine calls_of hmx func37 (by kernel_rfl) (c := f37.body.getD .skip) rfl e206 (rs := [(.t 4)]) (by kernel_rfl) (by simp [ntmps37]) ?_
  simp only [cIdx, argS]
  simp only [go_sem, seval, List.length_map]
  refine Lp.bkE0 (l206r l p q hL _ (fun s => ?_) l [] rfl) (by rfl) rfl
  simp only [go_sem, seval]
  exact Rt_all (by rfl) (by rfl) pk_lt2 (Nat.le_refl _)
def putIdx (l : List Packet) (pri : Int) : Nat := if idxFrom (fun y : Packet => decide (pri < y.pri)) 0 l < 0 then l.length else (idxFrom (fun y : Packet => decide (pri < y.pri)) 0 l).toNat
def putAt (l : List Packet) (p : Packet) : List Packet := l.take (putIdx l p.pri) ++ p :: l.drop (putIdx l p.pri)
theorem c155_put {q : Queue} {p : Packet} (hb : (q.pk.length + 1) * 56 ≤ 140737488355328) (hq : qErr q = 0) (hp : pkErr p = 0) (hn : pkIdx q.pk p.id = -1) (hf : (q.pk.length : Int) ≠ q.limit) :
    ACalls prog 15 [.agg q.enc, .agg p.enc] [] (.tup [.agg (Queue.enc ⟨q.limit, putAt q.pk p⟩), .nil, .int .i64 0]) [] := by
  have w1 : IntKind.i64.wrap ((q.pk.length : Int) - 1) = (q.pk.length : Int) - 1 := wrap_ok (by omega) (by omega)
  have zf1 : decide ((q.pk.length : Int) = q.limit) = false := by simpa using hf
  refine calls_of hmx func15 (by kernel_rfl) (c := f15.body.getD .skip) rfl e155 (rs := [(.cell 4 true 2), (.t 5), (.t 6)]) (by kernel_rfl) (by simp [ntmps15]) ?_
  simp only [c155, argS]
  repeat' first | refine CX_pure (c188_ok (by omega)) rfl rfl rfl rfl ?_ | refine CX_pure (c265_ok) rfl rfl rfl rfl ?_ | refine CX_pure (c266_ok (by omega)) rfl rfl rfl rfl ?_ | refine GX_call (fun _ => (c188_ok (by omega))) (by rfl) (by intro h; simp only [h]; rfl) (by rfl) (by rfl) ?_ | refine GX_call (fun _ => (c265_ok)) (by rfl) (by intro h; simp only [h]; rfl) (by rfl) (by rfl) ?_ | refine GX_call (fun _ => (c266_ok (by omega))) (by rfl) (by intro h; simp only [h]; rfl) (by rfl) (by rfl) ?_ | (with_reducible intro h; try simp only [h]) | (with_reducible refine And.intro ?_ ?_) | (change chk _ _ = true; rfl) | simp only [go_sem, seval, Vc_bool, hq, hp, hn] | refine (GX_split rfl).2 ?_
  refine CX_new (r1 := .row 3 1 0 q.pk.length) (c260w_ok (xs := q.pk) (by omega)) rfl rfl rfl (by rw [List.all_cons, List.all_nil, Bool.and_true]; exact lt_pk) (by rfl) ?_
  repeat' first | (with_reducible intro h; try simp only [h]) | (with_reducible refine And.intro ?_ ?_) | (change chk _ _ = true; rfl) | simp only [go_sem, seval, Vc_bool, w1, zf1] | refine (GX_split rfl).2 ?_
  refine CX_rd [3, 1] (c206r_ok (l := q.pk) (p := p) (q := 1) (by omega)) (by rfl) (by rfl) (by rfl) pk_lt2 (by rfl) (by decide) (by rfl) (by rw [List.map_cons, List.map_cons, List.map_nil, List.map_cons, List.map_cons, List.map_nil, ren_pk]; rfl) (by rfl) ?_
  rcases idxFrom_find (fun y : Packet => decide (p.pri < y.pri)) q.pk with ⟨h1, h2⟩ | ⟨i, x, h1, h2, h3, h4, h5⟩
  · have e : putAt q.pk p = q.pk.take q.pk.length ++ p :: q.pk.drop q.pk.length := by rw [putAt, putIdx, h1]; rfl
    rw [e]
    repeat' first | (with_reducible intro h; try simp only [h]) | (with_reducible refine And.intro ?_ ?_) | (change chk _ _ = true; rfl) | simp only [go_sem, seval, Vc_bool, h1] | refine (GX_split rfl).2 ?_
    refine CX_eat2 3 4 (c268_ok (xs := q.pk) (v := p) (i := q.pk.length) (q := 1) (Nat.le_refl _) hb) (by rfl) (by rfl) (by rfl) lt_pk (by rfl) (by decide) (by rfl) (by rfl) (by rfl) (by rfl) (by rfl) ?_
    repeat' first | (with_reducible intro h; try simp only [h]) | (with_reducible refine And.intro ?_ ?_) | (change chk _ _ = true; rfl) | simp only [go_sem, seval, Vc_bool] | refine (GX_split rfl).2 ?_
    exact Rt_pure (by rfl) (by rfl)
  · have e : putAt q.pk p = q.pk.take i ++ p :: q.pk.drop i := by rw [putAt, putIdx, h3, if_neg (by omega)]; rfl
    have e3 : decide ((i : Int) < 0) = false := by simp
    rw [e]
    repeat' first | (with_reducible intro h; try simp only [h]) | (with_reducible refine And.intro ?_ ?_) | (change chk _ _ = true; rfl) | simp only [go_sem, seval, Vc_bool, h3, e3] | refine (GX_split rfl).2 ?_
    refine CX_eat2 3 4 (c268_ok (xs := q.pk) (v := p) (i := i) (q := 1) (by omega) hb) (by rfl) (by rfl) (by rfl) lt_pk (by rfl) (by decide) (by rfl) (by rfl) (by rfl) (by rfl) (by rfl) ?_
    repeat' first | (with_reducible intro h; try simp only [h]) | (with_reducible refine And.intro ?_ ?_) | (change chk _ _ = true; rfl) | simp only [go_sem, seval, Vc_bool] | refine (GX_split rfl).2 ?_
    exact Rt_pure (by rfl) (by rfl)

def c156 : SC := (.seq (.reg [(.box 1 35 (.t 0)), (.alc 2 35 [(.int .i64 0), (.int .i64 0), .nil, (.int .i64 0), .nil, .nil, .nil, (.int .i64 0), (.int .i64 0), (.int .i64 0), (.int .i64 0), (.int .i64 0), (.int .i64 0), (.int .i64 0)])]) (.seq (.seq (.reg [(.fa 3 (.t 1) 9), (.ld 4 (.t 3) false 1), (.bin 5 .geq (.t 4) (.c (.int .i64 0))), (.mv 6 (.t 5)), (.g 6 true (some 7) (.fa 7 (.t 1) 3)), (.g 6 true (some 8) (.ld 8 (.t 7) true 2)), (.g 6 true (some 9) (.fa 9 (.t 1) 9)), (.g 6 true (some 10) (.ld 10 (.t 9) false 1)), (.g 6 true (some 11) (.call (some 11) (.c (.func 29 [] [])) [(.t 8), (.t 10)])), (.g 6 true (some 12) (.not 12 (.t 11))), (.pick 13 (.t 6) (.t 12) (.c (.bool false)))]) (.cond (.t 13) (.reg [(.fa 14 (.t 1) 9), (.st (.t 14) (.c (.int .i64 (-1))) 1), (.fa 15 (.t 1) 10), (.st (.t 15) (.c (.int .i64 0)) 1)]) .skip)) (.seq (.reg [(.ld 16 (.t 1) true 14), (.st (.t 2) (.t 16) 14)]) .ret)))
theorem e156 : compC prog f17.ntmps (f17.body.getD .skip) = c156 := by kernel_rfl
def c47 : SC := (.seq (.reg [(.box 2 35 (.t 0)), (.box 3 42 (.t 1)), (.alc 4 35 [(.int .i64 0), (.int .i64 0), .nil, (.int .i64 0), .nil, .nil, .nil, (.int .i64 0), (.int .i64 0), (.int .i64 0), (.int .i64 0), (.int .i64 0), (.int .i64 0), (.int .i64 0)]), (.mv 5 (.c .nil)), (.mv 6 (.c (.int .i64 0)))]) (.seq (.seq (.reg [(.ld 10 (.t 2) true 14), (.call (some 11) (.c (.func 14 [] [])) [(.t 10)]), (.bin 12 .neq (.t 11) (.c (.int .i64 0)))]) (.cond (.t 12) (.seq (.reg [(.bld 13 [(.int .i64 0), (.int .i64 0), .nil, (.int .i64 0), .nil, .nil, .nil, (.int .i64 0), (.int .i64 0), (.int .i64 0), (.int .i64 0), (.int .i64 0), (.int .i64 0), (.int .i64 0)] []), (.st (.t 4) (.t 13) 14), (.mv 5 (.c .nil)), (.mv 6 (.c (.int .i64 1)))]) .ret) .skip)) (.seq (.reg [(.fa 15 (.t 2) 3), (.ld 16 (.t 15) true 2), (.ld 17 (.t 3) true 6), (.call (some 18) (.c (.func 15 [] [])) [(.t 16), (.t 17)]), (.mv 14 (.t 18)), (.ext 19 (.t 14) 0), (.ext 20 (.t 14) 1), (.ext 21 (.t 14) 2), (.alc 7 31 [(.int .i64 0), .nil]), (.st (.t 7) (.t 19) 2), (.mv 8 (.t 20)), (.mv 9 (.t 21))]) (.seq (.block 0 (.seq (.reg [(.mv 23 (.t 9)), (.bin 24 .neq (.t 23) (.c (.int .i64 0))), (.mv 22 (.t 24))]) (.cond (.t 22) (.seq (.reg [(.bld 25 [(.int .i64 0), (.int .i64 0), .nil, (.int .i64 0), .nil, .nil, .nil, (.int .i64 0), (.int .i64 0), (.int .i64 0), (.int .i64 0), (.int .i64 0), (.int .i64 0), (.int .i64 0)] []), (.mv 26 (.t 9)), (.st (.t 4) (.t 25) 14), (.mv 5 (.c .nil)), (.mv 6 (.t 26))]) .ret) (.seq (.reg [(.fa 28 (.t 3) 1), (.ld 29 (.t 28) false 1), (.fa 30 (.t 2) 0), (.fa 31 (.t 30) 0), (.ld 32 (.t 31) false 1), (.bin 33 .eql (.t 29) (.t 32)), (.mv 27 (.t 33))]) (.cond (.t 27) (.seq (.reg [(.bld 34 [(.int .i64 0), (.int .i64 0), .nil, (.int .i64 0), .nil, .nil, .nil, (.int .i64 0), (.int .i64 0), (.int .i64 0), (.int .i64 0), (.int .i64 0), (.int .i64 0), (.int .i64 0)] []), (.st (.t 4) (.t 34) 14), (.mv 5 (.c .nil)), (.mv 6 (.c (.int .i64 12)))]) .ret) (.seq (.reg [(.fa 36 (.t 3) 5), (.ld 37 (.t 36) false 1), (.len 38 true (.t 37)), (.bin 39 .gtr (.t 38) (.c (.int .i64 100))), (.mv 35 (.t 39))]) (.cond (.t 35) (.seq (.reg [(.bld 40 [(.int .i64 0), (.int .i64 0), .nil, (.int .i64 0), .nil, .nil, .nil, (.int .i64 0), (.int .i64 0), (.int .i64 0), (.int .i64 0), (.int .i64 0), (.int .i64 0), (.int .i64 0)] []), (.st (.t 4) (.t 40) 14), (.mv 5 (.c .nil)), (.mv 6 (.c (.int .i64 8)))]) .ret) .skip))))))) (.seq (.reg [(.ld 41 (.t 2) true 14), (.call (some 42) (.c (.func 16 [] [])) [(.t 41)]), (.st (.t 2) (.t 42) 14)]) (.seq (.reg [(.ld 43 (.t 7) true 2), (.fa 44 (.t 2) 3), (.st (.t 44) (.t 43) 2)]) (.seq (.reg [(.ld 45 (.t 2) true 14), (.call (some 46) (.c (.func 17 [] [])) [(.t 45)]), (.mv 47 (.t 8)), (.st (.t 4) (.t 46) 14), (.mv 5 (.t 47)), (.mv 6 (.c (.int .i64 0)))]) .ret)))))))
theorem e47 : compC prog f8.ntmps (f8.body.getD .skip) = c47 := by kernel_rfl
def settleG (s : Station) : Station := if (decide (0 ≤ s.trying) && !hasId s.q.pk s.trying) = true then { s with trying := -1, tries := 0 } else s
theorem c156_pf (s : Station) (hL : s.q.pk.length < 2 ^ 62) : ACalls prog 17 [.agg [.int .i64 s.tab.node, .int .i64 s.tab.len, .sl 6 (s.tab.cells.map TCell.enc), .int .i64 s.q.limit, .sl 6 (s.q.pk.map Packet.enc), .sl 5 (s.held.map Held.enc), .sl 2 (s.seen.map Seen.enc), .int .i64 s.list, .int .i64 s.seq, .int .i64 s.trying, .int .i64 s.tries, .int .i64 s.back, .int .i64 s.wait, .int .i64 s.seed]] [] (.agg (settleG s).enc) [] := by
  refine calls_of hmx func17 (by kernel_rfl) (c := f17.body.getD .skip) rfl e156 (rs := [(.cell 2 true 14)]) (by kernel_rfl) (by simp [ntmps17]) ?_
  simp only [c156, argS]
  repeat' first | refine CX_pure (c84_ok hL) rfl rfl rfl rfl ?_ | refine GX_call (fun _ => (c84_ok hL)) (by rfl) (by intro h; simp only [h]; rfl) (by rfl) (by rfl) ?_ | (with_reducible intro h; try simp only [h]) | (with_reducible refine And.intro ?_ ?_) | (change chk _ _ = true; rfl) | simp only [go_sem, seval, Vc_bool] | refine (GX_split rfl).2 ?_
  · have e : settleG s = { s with trying := -1, tries := 0 } := by rw [settleG, if_pos h]
    rw [e]
    exact Rt_pure (by rfl) (by rfl)
  · have e : settleG s = s := by rw [settleG, if_neg (by rw [h]; decide)]
    rw [e]
    exact Rt_pure (by rfl) (by rfl)
theorem c47_put {s : Station} {p : Packet} (hB : ClBd s) (h0 : stOk s = true) (hb : (s.q.pk.length + 1) * 56 ≤ 140737488355328) (hp : pkErr p = 0) (hn : pkIdx s.q.pk p.id = -1) (hf : (s.q.pk.length : Int) ≠ s.q.limit) (ht : p.to ≠ s.tab.node) (hd : (p.data.size : Int) ≤ 100) :
    ACalls prog 8 [.agg s.enc, .agg p.enc] [] (.tup [.agg (settleG { s with q := ⟨s.q.limit, putAt s.q.pk p⟩ }).enc, .nil, .int .i64 0]) [] := by
  have hq : qErr s.q = 0 := by simp only [stOk, pksOk, Bool.and_eq_true, decide_eq_true_eq] at h0; exact h0.1.1.1.1.1.1.1.1.2.1
  have e1 : stErr s = 0 := by rw [stErr, if_pos h0]
  have e2 : decide (p.to = s.tab.node) = false := by simpa using ht
  have e3 : decide (100 < (p.data.size : Int)) = false := by simp; omega
  have hl : (putAt s.q.pk p).length < 2 ^ 62 := by
    have h1 : (putAt s.q.pk p).length ≤ s.q.pk.length + (s.q.pk.length + 1) := by
      simp only [putAt, List.length_append, List.length_cons, List.length_take, List.length_drop]; omega
    omega
  refine calls_of hmx func8 (by kernel_rfl) (c := f8.body.getD .skip) rfl e47 (rs := [(.cell 4 true 14), (.t 5), (.t 6)]) (by kernel_rfl) (by simp [ntmps8]) ?_
  simp only [c47, argS]
  repeat' first | refine CX_pure (c22_pf s hB.st) rfl rfl rfl rfl ?_ | refine CX_pure (c155_put hb hq hp hn hf) rfl rfl rfl rfl ?_ | refine CX_pure (c152_pf s hB) rfl rfl rfl rfl ?_ | refine CX_pure (c156_pf { s with q := ⟨s.q.limit, putAt s.q.pk p⟩ } hl) rfl rfl rfl rfl ?_ | refine GX_call (fun _ => (c22_pf s hB.st)) (by rfl) (by intro h; simp only [h]; rfl) (by rfl) (by rfl) ?_ | refine GX_call (fun _ => (c155_put hb hq hp hn hf)) (by rfl) (by intro h; simp only [h]; rfl) (by rfl) (by rfl) ?_ | refine GX_call (fun _ => (c152_pf s hB)) (by rfl) (by intro h; simp only [h]; rfl) (by rfl) (by rfl) ?_ | refine GX_call (fun _ => (c156_pf { s with q := ⟨s.q.limit, putAt s.q.pk p⟩ } hl)) (by rfl) (by intro h; simp only [h]; rfl) (by rfl) (by rfl) ?_ | (with_reducible intro h; try simp only [h]) | (with_reducible refine And.intro ?_ ?_) | (change chk _ _ = true; rfl) | simp only [go_sem, seval, Vc_bool, e1, e2, e3] | refine (GX_split rfl).2 ?_
  exact Rt_pure (by rfl) (by rfl)

def c78 : SC := (.seq (.reg [(.alc 0 35 [(.int .i64 0), (.int .i64 0), .nil, (.int .i64 0), .nil, .nil, .nil, (.int .i64 0), (.int .i64 0), (.int .i64 0), (.int .i64 0), (.int .i64 0), (.int .i64 0), (.int .i64 0)]), (.alc 1 35 [(.int .i64 0), (.int .i64 0), .nil, (.int .i64 0), .nil, .nil, .nil, (.int .i64 0), (.int .i64 0), (.int .i64 0), (.int .i64 0), (.int .i64 0), (.int .i64 0), (.int .i64 0)]), (.mv 2 (.c (.bool false)))]) (.seq (.reg [(.bld 8 [(.int .i64 0), (.int .i64 0), (.int .i64 0), (.bool false), (.int .i64 0), (.int .i64 0)] [(2, 1, (.c (.int .i64 2))), (3, 1, (.c (.bool true))), (4, 1, (.c (.int .i64 2))), (5, 1, (.c (.int .i64 (-1))))]), (.bsl 9 60 6 [(.int .i64 0), (.int .i64 0), (.int .i64 0), (.bool false), (.int .i64 0), (.int .i64 0)] 1 [(0, (.t 8))]), (.bld 10 [(.int .i64 0), (.int .i64 0), .nil] [(0, 1, (.c (.int .i64 1))), (1, 1, (.c (.int .i64 2))), (2, 1, (.t 9))]), (.call (some 11) (.c (.func 11 [] [])) [(.t 10), (.c (.int .i64 8)), (.c (.int .i64 0))]), (.mv 7 (.t 11)), (.ext 12 (.t 7) 0), (.ext 13 (.t 7) 1), (.alc 3 35 [(.int .i64 0), (.int .i64 0), .nil, (.int .i64 0), .nil, .nil, .nil, (.int .i64 0), (.int .i64 0), (.int .i64 0), (.int .i64 0), (.int .i64 0), (.int .i64 0), (.int .i64 0)]), (.st (.t 3) (.t 12) 14), (.mv 4 (.t 13))]) (.seq (.reg [(.bld 15 [(.int .i64 0), (.int .i64 0), (.int .i64 0), (.bool false), (.int .i64 0), (.int .i64 0)] [(2, 1, (.c (.int .i64 2))), (4, 1, (.c (.int .i64 1))), (5, 1, (.c (.int .i64 (-1))))]), (.bsl 16 60 6 [(.int .i64 0), (.int .i64 0), (.int .i64 0), (.bool false), (.int .i64 0), (.int .i64 0)] 1 [(0, (.t 15))]), (.bld 17 [(.int .i64 0), (.int .i64 0), .nil] [(0, 1, (.c (.int .i64 2))), (1, 1, (.c (.int .i64 2))), (2, 1, (.t 16))]), (.call (some 18) (.c (.func 11 [] [])) [(.t 17), (.c (.int .i64 8)), (.c (.int .i64 0))]), (.mv 14 (.t 18)), (.ext 19 (.t 14) 0), (.ext 20 (.t 14) 1), (.alc 5 35 [(.int .i64 0), (.int .i64 0), .nil, (.int .i64 0), .nil, .nil, .nil, (.int .i64 0), (.int .i64 0), (.int .i64 0), (.int .i64 0), (.int .i64 0), (.int .i64 0), (.int .i64 0)]), (.st (.t 5) (.t 19) 14), (.mv 6 (.t 20))]) (.seq (.regD [(.ld 21 (.t 3) true 14), (.ld 22 (.t 5) true 14), (.mv 23 (.t 4)), (.bin 24 .eql (.t 23) (.c (.int .i64 0))), (.mv 25 (.t 24)), (.g 25 true (some 26) (.mv 26 (.t 6))), (.g 25 true (some 27) (.bin 27 .eql (.t 26) (.c (.int .i64 0)))), (.pick 28 (.t 25) (.t 27) (.c (.bool false))), (.st (.t 0) (.t 21) 14), (.st (.t 1) (.t 22) 14), (.mv 2 (.t 28))] [(1, 8)]) .ret))))
theorem e78 : compC prog f7.ntmps (f7.body.getD .skip) = c78 := by kernel_rfl
def tabA : Table := ⟨1, 2, [⟨0, 0, 2, true, 2, -1⟩]⟩
def tabB : Table := ⟨2, 2, [⟨0, 0, 2, false, 1, -1⟩]⟩
def stA : Station := ⟨tabA, ⟨8, []⟩, [], [], 0, 0, -1, 0, 0, 0, 0⟩
def stB : Station := ⟨tabB, ⟨8, []⟩, [], [], 0, 0, -1, 0, 0, 0, 0⟩
theorem newA : newSt tabA 8 0 = (stA, 0) := by rfl
theorem newB : newSt tabB 8 0 = (stB, 0) := by rfl
theorem c20A : ACalls prog 11 [.agg [.int .i64 1, .int .i64 2, .sl 6 [[.int .i64 0, .int .i64 0, .int .i64 2, .bool true, .int .i64 2, .int .i64 (-1)]]], .int .i64 8, .int .i64 0] [] (.tup [.agg stA.enc, .int .i64 0]) [] := by
  have h := c20_pf tabA 8 0 (by decide)
  rw [newA] at h
  exact h
theorem c20B : ACalls prog 11 [.agg [.int .i64 2, .int .i64 2, .sl 6 [[.int .i64 0, .int .i64 0, .int .i64 2, .bool false, .int .i64 1, .int .i64 (-1)]]], .int .i64 8, .int .i64 0] [] (.tup [.agg stB.enc, .int .i64 0]) [] := by
  have h := c20_pf tabB 8 0 (by decide)
  rw [newB] at h
  exact h
theorem c78_ok : ACalls prog 7 [] [] (.tup [.agg stA.enc, .agg stB.enc, .bool true]) [] := by
  refine calls_of hmx func7 (by kernel_rfl) (c := f7.body.getD .skip) rfl e78 (rs := [(.cell 0 true 14), (.cell 1 true 14), (.t 2)]) (by kernel_rfl) (by simp [ntmps7]) ?_
  simp only [c78, argS]
  repeat' first | (with_reducible intro h; try simp only [h]) | (with_reducible refine And.intro ?_ ?_) | (change chk _ _ = true; rfl) | simp only [go_sem, seval, Vc_bool] | refine (GX_split rfl).2 ?_
  refine CX.gs (Gs_freeze 2 (s' := [(10, .agg [.int .i64 1, .int .i64 2, .sl 6 [[.int .i64 0, .int .i64 0, .int .i64 2, .bool true, .int .i64 2, .int .i64 (-1)]]]), (0, .ptr 0 0 0 0), (1, .ptr 1 0 0 0)]) (H' := [.cells 0 14 35 true [zSt], .cells 0 14 35 true [zSt], .dead]) rfl ?_ ?_) ?_
  · refine List.forall_mem_cons.2 ⟨?_, List.forall_mem_cons.2 ⟨?_, List.forall_mem_cons.2 ⟨?_, by simp⟩⟩⟩
    · exact Fz.aggL (.cons (.wk (.refl _)) (.cons (.wk (.refl _)) (.cons (Fz.row 0 1 rfl (cloE_map (f := TCell.enc) (xs := [⟨0, 0, 2, true, 2, -1⟩]) fun _ => by rfl)) .nil)))
    · exact .wk (.refl _)
    · exact .wk (.refl _)
  · repeat' (first | exact FzL.nil | refine FzL.cons ?_ ?_ | exact Fz.wk (Wk.refl _) | exact Fz.wk (Wk.nil _) | exact Fz.wk (Wk.emp _) | exact Fz.row0 _ _ _ _ | exact FzH.nil _ | exact FzO.refl _ | refine FzO.one ?_ | refine FzH.cons (by decide) ?_ ?_ | refine FzH.this rfl ?_ | exact FzO.dead (by simp) | (simp only [List.forall_mem_cons, List.not_mem_nil, false_implies, implies_true, and_true, go_sem, seval]) | refine And.intro ?_ ?_)
  refine CX_pure c20A rfl rfl rfl rfl ?_
  repeat' first | (with_reducible intro h; try simp only [h]) | (with_reducible refine And.intro ?_ ?_) | (change chk _ _ = true; rfl) | simp only [go_sem, seval, Vc_bool] | refine (GX_split rfl).2 ?_
  refine CX.gs (Gs_freeze 4 (s' := [(17, .agg [.int .i64 2, .int .i64 2, .sl 6 [[.int .i64 0, .int .i64 0, .int .i64 2, .bool false, .int .i64 1, .int .i64 (-1)]]]), (3, .ptr 3 0 0 0), (4, .int .i64 0), (0, .ptr 0 0 0 0), (1, .ptr 1 0 0 0)]) (H' := [.cells 0 14 35 true [zSt], .cells 0 14 35 true [zSt], .dead, .cells 0 14 35 true [stA.enc], .dead]) rfl ?_ ?_) ?_
  · refine List.forall_mem_cons.2 ⟨?_, List.forall_mem_cons.2 ⟨?_, List.forall_mem_cons.2 ⟨?_, List.forall_mem_cons.2 ⟨?_, List.forall_mem_cons.2 ⟨?_, by simp⟩⟩⟩⟩⟩
    · exact Fz.aggL (.cons (.wk (.refl _)) (.cons (.wk (.refl _)) (.cons (Fz.row 0 1 rfl (cloE_map (f := TCell.enc) (xs := [⟨0, 0, 2, false, 1, -1⟩]) fun _ => by rfl)) .nil)))
    · exact .wk (.refl _)
    · exact .wk (.refl _)
    · exact .wk (.refl _)
    · exact .wk (.refl _)
  · repeat' (first | exact FzL.nil | refine FzL.cons ?_ ?_ | exact Fz.wk (Wk.refl _) | exact Fz.wk (Wk.nil _) | exact Fz.wk (Wk.emp _) | exact Fz.row0 _ _ _ _ | exact FzH.nil _ | exact FzO.refl _ | refine FzO.one ?_ | refine FzH.cons (by decide) ?_ ?_ | refine FzH.this rfl ?_ | exact FzO.dead (by simp) | (simp only [List.forall_mem_cons, List.not_mem_nil, false_implies, implies_true, and_true, go_sem, seval]) | refine And.intro ?_ ?_)
  refine CX_pure c20B rfl rfl rfl rfl ?_
  repeat' first | (with_reducible intro h; try simp only [h]) | (with_reducible refine And.intro ?_ ?_) | (change chk _ _ = true; rfl) | simp only [go_sem, seval, Vc_bool, zSt] | refine (GX_split rfl).2 ?_
  exact Rt_pure (by rfl) (by rfl)

def hi : ByteArray := ByteArray.mk #[104, 105]
def pk7 : Packet := ⟨7, 2, 0, 0, 9, hi⟩
def qA (k : Int) : Station := { stA with q := ⟨8, [pk7]⟩, trying := if k = 0 then -1 else 7, tries := k }
def qEnd : Station := { stA with q := ⟨8, []⟩, seq := 1 }
def qB : Station := { stB with seen := [⟨1, 0⟩] }
def want : Action := ⟨1, 0, ⟨4, 1, 2, 0, 0, 0, 0, 0, 0, 0, 0, hi⟩⟩
def rB : Sp.Result := ⟨false, true, want.fr, 0⟩
def rA : Sp.Result := ⟨false, false, Frame.zero, 0⟩
theorem clA (k : Int) : ClBd (qA k) := ⟨by show (1:Nat) * 48 ≤ _; decide, by show (1:Nat) * 56 ≤ _; decide, by show (0:Nat) * 64 ≤ _; decide, by show (0:Nat) * 16 ≤ _; decide, by intro h hh; cases hh⟩
theorem clB : ClBd qB := ⟨by decide, by decide, by decide, by decide, by intro h hh; cases hh⟩
theorem clB0 : ClBd stB := ⟨by decide, by decide, by decide, by decide, by intro h hh; cases hh⟩
theorem clA0 : ClBd stA := ⟨by decide, by decide, by decide, by decide, by intro h hh; cases hh⟩
theorem put7 : ACalls prog 8 [.agg stA.enc, .agg pk7.enc] [] (.tup [.agg (qA 0).enc, .nil, .int .i64 0]) [] := by
  have h := c47_put (s := stA) (p := pk7) clA0 (by rfl) (by decide) (by rfl) (by rfl) (by decide) (by decide) (by decide)
  exact h
theorem errA0 : slotErr (qA 0) 4 = 0 := by rfl
theorem errA1 : slotErr (qA 1) 6 = 0 := by rfl
theorem errA2 : slotErr (qA 2) 8 = 0 := by rfl
theorem errA3 : slotErr (qA 3) 10 = 0 := by rfl
theorem errB0 : slotErr stB 4 = 0 := by rfl
theorem errB1 : slotErr qB 6 = 0 := by rfl
theorem errB2 : slotErr qB 8 = 0 := by rfl
theorem errB3 : slotErr qB 10 = 0 := by rfl
theorem actA {k slot : Int} (hE : slotErr (qA k) slot = 0) (hc : cellAt (qA k) slot = ⟨0, 0, 2, true, 2, -1⟩) (hg : agSt (qA k) ⟨0, 0, 2, true, 2, -1⟩ = want) : ACalls prog 19 [.ptr 0 0 0 0] [.cells 0 21 77 true [wEnc (qA k) slot (cellAt (qA k) slot)]] (.agg want.enc) [.cells 0 21 77 true [wEnc (qA k) slot (cellAt (qA k) slot)]] := by
  have h1 := c193_ok (s := qA k) (slot := slot) (c := cellAt (qA k) slot) (by show (1:Nat) < _; decide)
  rw [hc] at h1
  rw [hg] at h1
  rw [hc]
  exact c97_2 rfl h1
theorem act25 {k slot : Int} (hE : slotErr (qA k) slot = 0) (hc : cellAt (qA k) slot = ⟨0, 0, 2, true, 2, -1⟩) (hg : agSt (qA k) ⟨0, 0, 2, true, 2, -1⟩ = want) : ACalls prog 9 [.agg (qA k).enc, .int .i64 slot] [] (.tup [.agg want.enc, .int .i64 0]) [] := by
  have h := c25_of (clA k) (fun _ => actA hE hc hg)
  rw [if_pos hE, hE] at h
  exact h
theorem doneA {k slot : Int} (hk : 0 ≤ k ∧ k ≤ 3) (hE : slotErr (qA k) slot = 0) (hc : cellAt (qA k) slot = ⟨0, 0, 2, true, 2, -1⟩) (hg : agSt (qA k) ⟨0, 0, 2, true, 2, -1⟩ = want) (hq : qErr (qA k).q = 0) (hf : qFirst (qA k).q 2 = some pk7) (hx : pkIdx (qA k).q.pk 7 = 0) : ACalls prog 10 [.agg (qA k).enc, .int .i64 slot, .agg rA.enc] [] (.tup [.agg (sentAt (qA k) false pk7 0 false).enc, .agg Up.zero.enc, .int .i64 0]) [] := by
  refine c28_sent (a := want) (clA k) hE (actA hE hc hg) rfl rfl ?_
  have h204 := c204_2 (s := qA k) (slot := slot) (c := cellAt (qA k) slot) (p := pk7) (by show (1:Nat) < _; decide) (by rw [hc]) (by rw [hc]; exact hf)
  have h := c103_ok (acked := rA.acked) (i := 0) (p := pk7) (by show (1:Nat) * 56 ≤ _; decide) hq rfl hx (by show (0:Int) ≤ 0 ∧ (0:Int) ≤ 255; decide) hk (by show (0:Int) ≤ 0 ∧ (0:Int) ≤ 5; decide) (by show (0:Int) ≤ 0 ∧ (0:Int) ≤ 2147483647; decide) h204
  have e : decide ((cellAt (qA k) slot).kind = 3) = false := by rw [hc]; rfl
  rw [e] at h
  exact h
theorem doneB {s : Station} {slot : Int} (hs : s = stB ∨ s = qB) (hE : slotErr s slot = 0) (hc : cellAt s slot = ⟨0, 0, 2, false, 1, -1⟩) (hw : seeAt s.seen ⟨1, 0⟩ = [⟨1, 0⟩]) : ACalls prog 10 [.agg s.enc, .int .i64 slot, .agg rB.enc] [] (.tup [.agg qB.enc, .agg (Up.enc ⟨true, !(s.seen.any fun y => decide ((⟨1, 0⟩ : Seen) = y)), want.fr⟩), .int .i64 0]) [] := by
  have hcl : ClBd s := by rcases hs with rfl | rfl <;> first | exact clB0 | exact clB
  refine c28_heard (a := ⟨2, 0, Frame.zero⟩) (up := ⟨true, !(s.seen.any fun y => decide ((⟨1, 0⟩ : Seen) = y)), want.fr⟩) hcl hE ?_ rfl (.inl (by rw [hc]; decide)) rfl ?_
  · rw [hc]
    exact c97n_2 rfl rfl
  · have hl : s.seen.length < 2 ^ 40 := by rcases hs with rfl | rfl <;> decide
    have hp : s.seen.Pairwise (fun a b => a.node ≤ b.node) := by rcases hs with rfl | rfl <;> simp [stB, qB]
    have hn : s.tab.node = 2 := by rcases hs with rfl | rfl <;> rfl
    have h := c105_4 (s := s) (slot := slot) (c := cellAt s slot) (f := want.fr) hl hp (by rw [hn]; rfl) rfl (by rw [hn]; rfl)
    have e : { s with seen := seeAt s.seen ⟨want.fr.src, want.fr.seq⟩ } = qB := by
      show { s with seen := seeAt s.seen ⟨1, 0⟩ } = qB
      rw [hw]
      rcases hs with rfl | rfl <;> rfl
    rw [e] at h
    exact h

def c18L1 : SC := (.seq (.reg [(.bin 34 .lss (.t 33) (.c (.int .i64 4)))]) (.seq (.cond (.t 34) .skip (.exit 0)) (.seq (.block 1 (.seq (.reg [(.mv 35 (.t 33)), (.mv 7 (.t 35))]) (.seq (.reg [(.ld 37 (.t 1) true 14), (.mv 38 (.t 7)), (.bin 39 .mul (.c (.int .i64 2)) (.t 38)), (.bin 40 .add (.c (.int .i64 4)) (.t 39)), (.call (some 41) (.c (.func 9 [] [])) [(.t 37), (.t 40)]), (.mv 36 (.t 41)), (.ext 42 (.t 36) 0), (.ext 43 (.t 36) 1), (.alc 8 46 [(.int .i64 0), (.int .i64 0), (.int .i64 0), (.int .i64 0), (.int .i64 0), (.int .i64 0), (.int .i64 0), (.int .i64 0), (.int .i64 0), (.int .i64 0), (.int .i64 0), (.int .i64 0), (.int .i64 0), (.str (ByteArray.mk #[]))]), (.st (.t 8) (.t 42) 14), (.mv 9 (.t 43))]) (.seq (.seq (.reg [(.mv 44 (.t 9)), (.bin 45 .neq (.t 44) (.c (.int .i64 0))), (.mv 46 (.t 45)), (.g 46 false (some 47) (.ld 47 (.t 8) true 14)), (.g 46 false (some 48) (.ld 48 (.t 6) true 14)), (.g 46 false (some 49) (.binA 49 true [1, 1, 1, 1, 1, 1, 1, 1, 1, 1, 1, 1, 1, 3] (.t 47) (.t 48))), (.pick 50 (.t 46) (.c (.bool true)) (.t 49))]) (.cond (.t 50) (.seq (.reg [(.mv 0 (.c (.bool false)))]) .ret) .skip)) (.seq (.reg [(.alc 10 52 [(.bool false), (.bool false), (.int .i64 0), (.int .i64 0), (.int .i64 0), (.int .i64 0), (.int .i64 0), (.int .i64 0), (.int .i64 0), (.int .i64 0), (.int .i64 0), (.int .i64 0), (.int .i64 0), (.str (ByteArray.mk #[]))])]) (.seq (.reg [(.mv 11 (.c (.int .i64 0))), (.mv 12 (.c (.int .i64 0)))]) (.seq (.reg [(.ld 52 (.t 2) true 14), (.mv 53 (.t 7)), (.bin 54 .mul (.c (.int .i64 2)) (.t 53)), (.bin 55 .add (.c (.int .i64 4)) (.t 54)), (.fa 56 (.t 8) 2), (.ld 57 (.t 56) true 12), (.bld 58 [(.bool false), (.bool false), (.int .i64 0), (.int .i64 0), (.int .i64 0), (.int .i64 0), (.int .i64 0), (.int .i64 0), (.int .i64 0), (.int .i64 0), (.int .i64 0), (.int .i64 0), (.int .i64 0), (.str (ByteArray.mk #[])), (.int .i64 0)] [(1, 1, (.c (.bool true))), (2, 12, (.t 57))]), (.call (some 59) (.c (.func 10 [] [])) [(.t 52), (.t 55), (.t 58)]), (.mv 51 (.t 59)), (.ext 60 (.t 51) 0), (.ext 61 (.t 51) 1), (.ext 62 (.t 51) 2), (.st (.t 2) (.t 60) 14), (.st (.t 10) (.t 61) 14), (.mv 11 (.t 62))]) (.seq (.reg [(.ld 64 (.t 1) true 14), (.mv 65 (.t 7)), (.bin 66 .mul (.c (.int .i64 2)) (.t 65)), (.bin 67 .add (.c (.int .i64 4)) (.t 66)), (.bld 68 [(.bool false), (.bool false), (.int .i64 0), (.int .i64 0), (.int .i64 0), (.int .i64 0), (.int .i64 0), (.int .i64 0), (.int .i64 0), (.int .i64 0), (.int .i64 0), (.int .i64 0), (.int .i64 0), (.str (ByteArray.mk #[])), (.int .i64 0)] []), (.call (some 69) (.c (.func 10 [] [])) [(.t 64), (.t 67), (.t 68)]), (.mv 63 (.t 69)), (.ext 70 (.t 63) 0), (.ext 71 (.t 63) 1), (.ext 72 (.t 63) 2), (.st (.t 1) (.t 70) 14), (.mv 12 (.t 72))]) (.seq (.reg [(.mv 73 (.t 11)), (.bin 74 .neq (.t 73) (.c (.int .i64 0))), (.mv 75 (.t 74)), (.g 75 false (some 76) (.mv 76 (.t 12))), (.g 75 false (some 77) (.bin 77 .neq (.t 76) (.c (.int .i64 0)))), (.pick 78 (.t 75) (.c (.bool true)) (.t 77)), (.mv 79 (.t 78)), (.g 79 false (some 80) (.fa 80 (.t 10) 0)), (.g 79 false (some 81) (.ld 81 (.t 80) false 1)), (.g 79 false (some 82) (.not 82 (.t 81))), (.pick 83 (.t 79) (.c (.bool true)) (.t 82)), (.mv 84 (.t 83)), (.g 84 false (some 85) (.fa 85 (.t 10) 1)), (.g 84 false (some 86) (.ld 86 (.t 85) false 1)), (.g 84 false (some 87) (.mv 87 (.t 7))), (.g 84 false (some 88) (.bin 88 .eql (.t 87) (.c (.int .i64 0)))), (.g 84 false (some 89) (.binB 89 true (.t 86) (.t 88))), (.pick 90 (.t 84) (.c (.bool true)) (.t 89)), (.mv 91 (.t 90)), (.g 91 false (some 92) (.mv 92 (.t 7))), (.g 91 false (some 93) (.bin 93 .lss (.t 92) (.c (.int .i64 3)))), (.g 91 false (some 94) (.mv 94 (.t 93))), (.g 94 true (some 95) (.fa 95 (.t 1) 10)), (.g 94 true (some 96) (.ld 96 (.t 95) false 1)), (.g 94 true (some 97) (.mv 97 (.t 7))), (.g 94 true (some 98) (.bin 98 .add (.t 97) (.c (.int .i64 1)))), (.g 94 true (some 99) (.bin 99 .neq (.t 96) (.t 98))), (.g 91 false (some 100) (.pick 100 (.t 94) (.t 99) (.c (.bool false)))), (.pick 101 (.t 91) (.c (.bool true)) (.t 100))]) (.cond (.t 101) (.seq (.reg [(.mv 0 (.c (.bool false)))]) .ret) .skip)))))))))) (.reg [(.bin 102 .add (.t 33) (.c (.int .i64 1))), (.mv 33 (.t 102))]))))
def c18 : SC := (.seq (.reg [(.mv 0 (.c (.bool false)))]) (.seq (.reg [(.call (some 14) (.c (.func 7 [] [])) []), (.mv 13 (.t 14)), (.ext 15 (.t 13) 0), (.ext 16 (.t 13) 1), (.ext 17 (.t 13) 2), (.alc 1 35 [(.int .i64 0), (.int .i64 0), .nil, (.int .i64 0), .nil, .nil, .nil, (.int .i64 0), (.int .i64 0), (.int .i64 0), (.int .i64 0), (.int .i64 0), (.int .i64 0), (.int .i64 0)]), (.alc 2 35 [(.int .i64 0), (.int .i64 0), .nil, (.int .i64 0), .nil, .nil, .nil, (.int .i64 0), (.int .i64 0), (.int .i64 0), (.int .i64 0), (.int .i64 0), (.int .i64 0), (.int .i64 0)]), (.st (.t 1) (.t 15) 14), (.st (.t 2) (.t 16) 14), (.mv 3 (.t 17))]) (.seq (.reg [(.ld 19 (.t 1) true 14), (.bld 20 [(.int .i64 0), (.int .i64 0), (.int .i64 0), (.int .i64 0), (.int .i64 0), (.str (ByteArray.mk #[]))] [(0, 1, (.c (.int .i64 7))), (1, 1, (.c (.int .i64 2))), (4, 1, (.c (.int .i64 9))), (5, 1, (.c (.str (ByteArray.mk #[104, 105]))))]), (.call (some 21) (.c (.func 8 [] [])) [(.t 19), (.t 20)]), (.mv 18 (.t 21)), (.ext 22 (.t 18) 0), (.ext 23 (.t 18) 1), (.ext 24 (.t 18) 2), (.st (.t 1) (.t 22) 14), (.mv 4 (.t 23)), (.mv 5 (.t 24))]) (.seq (.seq (.reg [(.mv 25 (.t 3)), (.not 26 (.t 25)), (.mv 27 (.t 26)), (.g 27 false (some 28) (.mv 28 (.t 5))), (.g 27 false (some 29) (.bin 29 .neq (.t 28) (.c (.int .i64 0)))), (.pick 30 (.t 27) (.c (.bool true)) (.t 29))]) (.cond (.t 30) (.seq (.reg [(.mv 0 (.c (.bool false)))]) .ret) .skip)) (.seq (.reg [(.bld 31 [(.int .i64 0), (.int .i64 0), (.int .i64 0), (.int .i64 0), (.int .i64 0), (.int .i64 0), (.int .i64 0), (.int .i64 0), (.int .i64 0), (.int .i64 0), (.int .i64 0), (.str (ByteArray.mk #[]))] [(0, 1, (.c (.int .i64 4))), (1, 1, (.c (.int .i64 1))), (2, 1, (.c (.int .i64 2))), (11, 1, (.c (.str (ByteArray.mk #[104, 105]))))]), (.bld 32 [(.int .i64 0), (.int .i64 0), (.int .i64 0), (.int .i64 0), (.int .i64 0), (.int .i64 0), (.int .i64 0), (.int .i64 0), (.int .i64 0), (.int .i64 0), (.int .i64 0), (.int .i64 0), (.int .i64 0), (.str (ByteArray.mk #[]))] [(0, 1, (.c (.int .i64 1))), (2, 12, (.t 31))]), (.alc 6 46 [(.int .i64 0), (.int .i64 0), (.int .i64 0), (.int .i64 0), (.int .i64 0), (.int .i64 0), (.int .i64 0), (.int .i64 0), (.int .i64 0), (.int .i64 0), (.int .i64 0), (.int .i64 0), (.int .i64 0), (.str (ByteArray.mk #[]))]), (.st (.t 6) (.t 32) 14)]) (.seq (.seq (.reg [(.mv 33 (.c (.int .i64 0)))]) (.block 0 (.loop c18L1))) (.seq (.reg [(.fa 103 (.t 1) 3), (.fa 104 (.t 103) 1), (.ld 105 (.t 104) false 1), (.len 106 false (.t 105)), (.bin 107 .eql (.t 106) (.c (.int .i64 0))), (.mv 108 (.t 107)), (.g 108 true (some 109) (.fa 109 (.t 1) 8)), (.g 108 true (some 110) (.ld 110 (.t 109) false 1)), (.g 108 true (some 111) (.bin 111 .eql (.t 110) (.c (.int .i64 1)))), (.pick 112 (.t 108) (.t 111) (.c (.bool false))), (.mv 113 (.t 112)), (.g 113 true (some 114) (.fa 114 (.t 1) 9)), (.g 113 true (some 115) (.ld 115 (.t 114) false 1)), (.g 113 true (some 116) (.bin 116 .eql (.t 115) (.c (.int .i64 (-1))))), (.pick 117 (.t 113) (.t 116) (.c (.bool false))), (.mv 0 (.t 117))]) .ret)))))))
theorem e18 : compC prog f5.ntmps (f5.body.getD .skip) = c18 := by kernel_rfl
theorem tt1 : (true == true) = true := rfl
theorem tt2 : (false == false) = true := rfl
theorem tt3 : (true == false) = false := rfl
theorem tt4 : (false == true) = false := rfl
theorem act_0 : ACalls prog 9 [.agg (qA 0).enc, .int .i64 4] [] (.tup [.agg [.int .i64 1, .int .i64 0, .int .i64 4, .int .i64 1, .int .i64 2, .int .i64 0, .int .i64 0, .int .i64 0, .int .i64 0, .int .i64 0, .int .i64 0, .int .i64 0, .int .i64 0, .str (ByteArray.mk #[104, 105])], .int .i64 0]) [] := act25 errA0 (by rfl) (by rfl)
theorem dB_0 : ACalls prog 10 [.agg (stB).enc, .int .i64 4, .agg [.bool false, .bool true, .int .i64 4, .int .i64 1, .int .i64 2, .int .i64 0, .int .i64 0, .int .i64 0, .int .i64 0, .int .i64 0, .int .i64 0, .int .i64 0, .int .i64 0, .str (ByteArray.mk #[104, 105]), .int .i64 0]] [] (.tup [.agg (qB).enc, .agg [.bool true, .bool true, .int .i64 4, .int .i64 1, .int .i64 2, .int .i64 0, .int .i64 0, .int .i64 0, .int .i64 0, .int .i64 0, .int .i64 0, .int .i64 0, .int .i64 0, .str (ByteArray.mk #[104, 105])], .int .i64 0]) [] := doneB (s := stB) (by left; rfl) errB0 (by rfl) (by rfl)
theorem dA_0 : ACalls prog 10 [.agg (qA 0).enc, .int .i64 4, .agg [.bool false, .bool false, .int .i64 0, .int .i64 0, .int .i64 0, .int .i64 0, .int .i64 0, .int .i64 0, .int .i64 0, .int .i64 0, .int .i64 0, .int .i64 0, .int .i64 0, .str (ByteArray.mk #[]), .int .i64 0]] [] (.tup [.agg (qA 1).enc, .agg [.bool false, .bool false, .int .i64 0, .int .i64 0, .int .i64 0, .int .i64 0, .int .i64 0, .int .i64 0, .int .i64 0, .int .i64 0, .int .i64 0, .int .i64 0, .int .i64 0, .str (ByteArray.mk #[])], .int .i64 0]) [] := doneA (k := 0) (by decide) errA0 (by rfl) (by rfl) (by rfl) (by rfl) (by rfl)
theorem it_0 {k' : List It} {r : AVal} (hh : Lp prog f5.ntmps 0 (Ret [.t 0] 0 r []) c18L1 (.blk 0 :: k') [(33, .int .i64 1), (6, .ptr 2 0 0 0), (1, .ptr 0 0 0 0), (2, .ptr 1 0 0 0)] [.cells 0 14 35 true [(qA 1).enc], .cells 0 14 35 true [(qB).enc], .cells 0 14 46 true [[.int .i64 1, .int .i64 0, .int .i64 4, .int .i64 1, .int .i64 2, .int .i64 0, .int .i64 0, .int .i64 0, .int .i64 0, .int .i64 0, .int .i64 0, .int .i64 0, .int .i64 0, .str (ByteArray.mk #[104, 105])]]]) :
    Lp prog f5.ntmps 0 (Ret [.t 0] 0 r []) c18L1 (.blk 0 :: k') [(33, .int .i64 0), (6, .ptr 2 0 0 0), (1, .ptr 0 0 0 0), (2, .ptr 1 0 0 0)] [.cells 0 14 35 true [(qA 0).enc], .cells 0 14 35 true [(stB).enc], .cells 0 14 46 true [[.int .i64 1, .int .i64 0, .int .i64 4, .int .i64 1, .int .i64 2, .int .i64 0, .int .i64 0, .int .i64 0, .int .i64 0, .int .i64 0, .int .i64 0, .int .i64 0, .int .i64 0, .str (ByteArray.mk #[104, 105])]]] := by
  have l1 : decide ((0 : Int) < 4) = true := rfl
  have w1 : IntKind.i64.wrap 0 = 0 := by decide
  have w2 : IntKind.i64.wrap 4 = 4 := by decide
  have w3 : IntKind.i64.wrap 1 = 1 := by decide
  have t1 : (qA 1).tries = 1 := rfl
  refine Lp.of_eq hmx c18L1.eq_1 ?_
  repeat' first | refine CX_pure (act_0) rfl rfl rfl rfl ?_ | refine CX_pure (dB_0) rfl rfl rfl rfl ?_ | refine CX_pure (dA_0) rfl rfl rfl rfl ?_ | refine GX_call (fun _ => (act_0)) (by rfl) (by intro h; simp only [h]; rfl) (by rfl) (by rfl) ?_ | refine GX_call (fun _ => (dB_0)) (by rfl) (by intro h; simp only [h]; rfl) (by rfl) (by rfl) ?_ | refine GX_call (fun _ => (dA_0)) (by rfl) (by intro h; simp only [h]; rfl) (by rfl) (by rfl) ?_ | (with_reducible intro h; try simp only [h]) | (with_reducible refine And.intro ?_ ?_) | (change chk _ _ = true; rfl) | simp only [go_sem, seval, Vc_bool, w1, w2, w3, eq_self, decide_true, tt1, tt2, tt3, tt4, Bool.not_true, Bool.not_false, t1] | refine (GX_split rfl).2 ?_
  exact Lp.bk [_, _] hh (by rfl) (by rfl) (by rfl) (Nat.zero_le _)
theorem act_1 : ACalls prog 9 [.agg (qA 1).enc, .int .i64 6] [] (.tup [.agg [.int .i64 1, .int .i64 0, .int .i64 4, .int .i64 1, .int .i64 2, .int .i64 0, .int .i64 0, .int .i64 0, .int .i64 0, .int .i64 0, .int .i64 0, .int .i64 0, .int .i64 0, .str (ByteArray.mk #[104, 105])], .int .i64 0]) [] := act25 errA1 (by rfl) (by rfl)
theorem dB_1 : ACalls prog 10 [.agg (qB).enc, .int .i64 6, .agg [.bool false, .bool true, .int .i64 4, .int .i64 1, .int .i64 2, .int .i64 0, .int .i64 0, .int .i64 0, .int .i64 0, .int .i64 0, .int .i64 0, .int .i64 0, .int .i64 0, .str (ByteArray.mk #[104, 105]), .int .i64 0]] [] (.tup [.agg (qB).enc, .agg [.bool true, .bool false, .int .i64 4, .int .i64 1, .int .i64 2, .int .i64 0, .int .i64 0, .int .i64 0, .int .i64 0, .int .i64 0, .int .i64 0, .int .i64 0, .int .i64 0, .str (ByteArray.mk #[104, 105])], .int .i64 0]) [] := doneB (s := qB) (by right; rfl) errB1 (by rfl) (by rfl)
theorem dA_1 : ACalls prog 10 [.agg (qA 1).enc, .int .i64 6, .agg [.bool false, .bool false, .int .i64 0, .int .i64 0, .int .i64 0, .int .i64 0, .int .i64 0, .int .i64 0, .int .i64 0, .int .i64 0, .int .i64 0, .int .i64 0, .int .i64 0, .str (ByteArray.mk #[]), .int .i64 0]] [] (.tup [.agg (qA 2).enc, .agg [.bool false, .bool false, .int .i64 0, .int .i64 0, .int .i64 0, .int .i64 0, .int .i64 0, .int .i64 0, .int .i64 0, .int .i64 0, .int .i64 0, .int .i64 0, .int .i64 0, .str (ByteArray.mk #[])], .int .i64 0]) [] := doneA (k := 1) (by decide) errA1 (by rfl) (by rfl) (by rfl) (by rfl) (by rfl)
theorem it_1 {k' : List It} {r : AVal} (hh : Lp prog f5.ntmps 0 (Ret [.t 0] 0 r []) c18L1 (.blk 0 :: k') [(33, .int .i64 2), (6, .ptr 2 0 0 0), (1, .ptr 0 0 0 0), (2, .ptr 1 0 0 0)] [.cells 0 14 35 true [(qA 2).enc], .cells 0 14 35 true [(qB).enc], .cells 0 14 46 true [[.int .i64 1, .int .i64 0, .int .i64 4, .int .i64 1, .int .i64 2, .int .i64 0, .int .i64 0, .int .i64 0, .int .i64 0, .int .i64 0, .int .i64 0, .int .i64 0, .int .i64 0, .str (ByteArray.mk #[104, 105])]]]) :
    Lp prog f5.ntmps 0 (Ret [.t 0] 0 r []) c18L1 (.blk 0 :: k') [(33, .int .i64 1), (6, .ptr 2 0 0 0), (1, .ptr 0 0 0 0), (2, .ptr 1 0 0 0)] [.cells 0 14 35 true [(qA 1).enc], .cells 0 14 35 true [(qB).enc], .cells 0 14 46 true [[.int .i64 1, .int .i64 0, .int .i64 4, .int .i64 1, .int .i64 2, .int .i64 0, .int .i64 0, .int .i64 0, .int .i64 0, .int .i64 0, .int .i64 0, .int .i64 0, .int .i64 0, .str (ByteArray.mk #[104, 105])]]] := by
  have l1 : decide ((1 : Int) < 4) = true := rfl
  have w1 : IntKind.i64.wrap 2 = 2 := by decide
  have w2 : IntKind.i64.wrap 6 = 6 := by decide
  have w3 : IntKind.i64.wrap 2 = 2 := by decide
  have t1 : (qA 2).tries = 2 := rfl
  refine Lp.of_eq hmx c18L1.eq_1 ?_
  repeat' first | refine CX_pure (act_1) rfl rfl rfl rfl ?_ | refine CX_pure (dB_1) rfl rfl rfl rfl ?_ | refine CX_pure (dA_1) rfl rfl rfl rfl ?_ | refine GX_call (fun _ => (act_1)) (by rfl) (by intro h; simp only [h]; rfl) (by rfl) (by rfl) ?_ | refine GX_call (fun _ => (dB_1)) (by rfl) (by intro h; simp only [h]; rfl) (by rfl) (by rfl) ?_ | refine GX_call (fun _ => (dA_1)) (by rfl) (by intro h; simp only [h]; rfl) (by rfl) (by rfl) ?_ | (with_reducible intro h; try simp only [h]) | (with_reducible refine And.intro ?_ ?_) | (change chk _ _ = true; rfl) | simp only [go_sem, seval, Vc_bool, w1, w2, w3, eq_self, decide_true, tt1, tt2, tt3, tt4, Bool.not_true, Bool.not_false, t1] | refine (GX_split rfl).2 ?_
  exact Lp.bk [_, _] hh (by rfl) (by rfl) (by rfl) (Nat.zero_le _)
theorem act_2 : ACalls prog 9 [.agg (qA 2).enc, .int .i64 8] [] (.tup [.agg [.int .i64 1, .int .i64 0, .int .i64 4, .int .i64 1, .int .i64 2, .int .i64 0, .int .i64 0, .int .i64 0, .int .i64 0, .int .i64 0, .int .i64 0, .int .i64 0, .int .i64 0, .str (ByteArray.mk #[104, 105])], .int .i64 0]) [] := act25 errA2 (by rfl) (by rfl)
theorem dB_2 : ACalls prog 10 [.agg (qB).enc, .int .i64 8, .agg [.bool false, .bool true, .int .i64 4, .int .i64 1, .int .i64 2, .int .i64 0, .int .i64 0, .int .i64 0, .int .i64 0, .int .i64 0, .int .i64 0, .int .i64 0, .int .i64 0, .str (ByteArray.mk #[104, 105]), .int .i64 0]] [] (.tup [.agg (qB).enc, .agg [.bool true, .bool false, .int .i64 4, .int .i64 1, .int .i64 2, .int .i64 0, .int .i64 0, .int .i64 0, .int .i64 0, .int .i64 0, .int .i64 0, .int .i64 0, .int .i64 0, .str (ByteArray.mk #[104, 105])], .int .i64 0]) [] := doneB (s := qB) (by right; rfl) errB2 (by rfl) (by rfl)
theorem dA_2 : ACalls prog 10 [.agg (qA 2).enc, .int .i64 8, .agg [.bool false, .bool false, .int .i64 0, .int .i64 0, .int .i64 0, .int .i64 0, .int .i64 0, .int .i64 0, .int .i64 0, .int .i64 0, .int .i64 0, .int .i64 0, .int .i64 0, .str (ByteArray.mk #[]), .int .i64 0]] [] (.tup [.agg (qA 3).enc, .agg [.bool false, .bool false, .int .i64 0, .int .i64 0, .int .i64 0, .int .i64 0, .int .i64 0, .int .i64 0, .int .i64 0, .int .i64 0, .int .i64 0, .int .i64 0, .int .i64 0, .str (ByteArray.mk #[])], .int .i64 0]) [] := doneA (k := 2) (by decide) errA2 (by rfl) (by rfl) (by rfl) (by rfl) (by rfl)
theorem it_2 {k' : List It} {r : AVal} (hh : Lp prog f5.ntmps 0 (Ret [.t 0] 0 r []) c18L1 (.blk 0 :: k') [(33, .int .i64 3), (6, .ptr 2 0 0 0), (1, .ptr 0 0 0 0), (2, .ptr 1 0 0 0)] [.cells 0 14 35 true [(qA 3).enc], .cells 0 14 35 true [(qB).enc], .cells 0 14 46 true [[.int .i64 1, .int .i64 0, .int .i64 4, .int .i64 1, .int .i64 2, .int .i64 0, .int .i64 0, .int .i64 0, .int .i64 0, .int .i64 0, .int .i64 0, .int .i64 0, .int .i64 0, .str (ByteArray.mk #[104, 105])]]]) :
    Lp prog f5.ntmps 0 (Ret [.t 0] 0 r []) c18L1 (.blk 0 :: k') [(33, .int .i64 2), (6, .ptr 2 0 0 0), (1, .ptr 0 0 0 0), (2, .ptr 1 0 0 0)] [.cells 0 14 35 true [(qA 2).enc], .cells 0 14 35 true [(qB).enc], .cells 0 14 46 true [[.int .i64 1, .int .i64 0, .int .i64 4, .int .i64 1, .int .i64 2, .int .i64 0, .int .i64 0, .int .i64 0, .int .i64 0, .int .i64 0, .int .i64 0, .int .i64 0, .int .i64 0, .str (ByteArray.mk #[104, 105])]]] := by
  have l1 : decide ((2 : Int) < 4) = true := rfl
  have w1 : IntKind.i64.wrap 4 = 4 := by decide
  have w2 : IntKind.i64.wrap 8 = 8 := by decide
  have w3 : IntKind.i64.wrap 3 = 3 := by decide
  have t1 : (qA 3).tries = 3 := rfl
  refine Lp.of_eq hmx c18L1.eq_1 ?_
  repeat' first | refine CX_pure (act_2) rfl rfl rfl rfl ?_ | refine CX_pure (dB_2) rfl rfl rfl rfl ?_ | refine CX_pure (dA_2) rfl rfl rfl rfl ?_ | refine GX_call (fun _ => (act_2)) (by rfl) (by intro h; simp only [h]; rfl) (by rfl) (by rfl) ?_ | refine GX_call (fun _ => (dB_2)) (by rfl) (by intro h; simp only [h]; rfl) (by rfl) (by rfl) ?_ | refine GX_call (fun _ => (dA_2)) (by rfl) (by intro h; simp only [h]; rfl) (by rfl) (by rfl) ?_ | (with_reducible intro h; try simp only [h]) | (with_reducible refine And.intro ?_ ?_) | (change chk _ _ = true; rfl) | simp only [go_sem, seval, Vc_bool, w1, w2, w3, eq_self, decide_true, tt1, tt2, tt3, tt4, Bool.not_true, Bool.not_false, t1] | refine (GX_split rfl).2 ?_
  exact Lp.bk [_, _] hh (by rfl) (by rfl) (by rfl) (Nat.zero_le _)
theorem act_3 : ACalls prog 9 [.agg (qA 3).enc, .int .i64 10] [] (.tup [.agg [.int .i64 1, .int .i64 0, .int .i64 4, .int .i64 1, .int .i64 2, .int .i64 0, .int .i64 0, .int .i64 0, .int .i64 0, .int .i64 0, .int .i64 0, .int .i64 0, .int .i64 0, .str (ByteArray.mk #[104, 105])], .int .i64 0]) [] := act25 errA3 (by rfl) (by rfl)
theorem dB_3 : ACalls prog 10 [.agg (qB).enc, .int .i64 10, .agg [.bool false, .bool true, .int .i64 4, .int .i64 1, .int .i64 2, .int .i64 0, .int .i64 0, .int .i64 0, .int .i64 0, .int .i64 0, .int .i64 0, .int .i64 0, .int .i64 0, .str (ByteArray.mk #[104, 105]), .int .i64 0]] [] (.tup [.agg (qB).enc, .agg [.bool true, .bool false, .int .i64 4, .int .i64 1, .int .i64 2, .int .i64 0, .int .i64 0, .int .i64 0, .int .i64 0, .int .i64 0, .int .i64 0, .int .i64 0, .int .i64 0, .str (ByteArray.mk #[104, 105])], .int .i64 0]) [] := doneB (s := qB) (by right; rfl) errB3 (by rfl) (by rfl)
theorem dA_3 : ACalls prog 10 [.agg (qA 3).enc, .int .i64 10, .agg [.bool false, .bool false, .int .i64 0, .int .i64 0, .int .i64 0, .int .i64 0, .int .i64 0, .int .i64 0, .int .i64 0, .int .i64 0, .int .i64 0, .int .i64 0, .int .i64 0, .str (ByteArray.mk #[]), .int .i64 0]] [] (.tup [.agg (qEnd).enc, .agg [.bool false, .bool false, .int .i64 0, .int .i64 0, .int .i64 0, .int .i64 0, .int .i64 0, .int .i64 0, .int .i64 0, .int .i64 0, .int .i64 0, .int .i64 0, .int .i64 0, .str (ByteArray.mk #[])], .int .i64 0]) [] := doneA (k := 3) (by decide) errA3 (by rfl) (by rfl) (by rfl) (by rfl) (by rfl)
theorem it_3 {k' : List It} {r : AVal} (hh : Lp prog f5.ntmps 0 (Ret [.t 0] 0 r []) c18L1 (.blk 0 :: k') [(33, .int .i64 4), (6, .ptr 2 0 0 0), (1, .ptr 0 0 0 0), (2, .ptr 1 0 0 0)] [.cells 0 14 35 true [(qEnd).enc], .cells 0 14 35 true [(qB).enc], .cells 0 14 46 true [[.int .i64 1, .int .i64 0, .int .i64 4, .int .i64 1, .int .i64 2, .int .i64 0, .int .i64 0, .int .i64 0, .int .i64 0, .int .i64 0, .int .i64 0, .int .i64 0, .int .i64 0, .str (ByteArray.mk #[104, 105])]]]) :
    Lp prog f5.ntmps 0 (Ret [.t 0] 0 r []) c18L1 (.blk 0 :: k') [(33, .int .i64 3), (6, .ptr 2 0 0 0), (1, .ptr 0 0 0 0), (2, .ptr 1 0 0 0)] [.cells 0 14 35 true [(qA 3).enc], .cells 0 14 35 true [(qB).enc], .cells 0 14 46 true [[.int .i64 1, .int .i64 0, .int .i64 4, .int .i64 1, .int .i64 2, .int .i64 0, .int .i64 0, .int .i64 0, .int .i64 0, .int .i64 0, .int .i64 0, .int .i64 0, .int .i64 0, .str (ByteArray.mk #[104, 105])]]] := by
  have l1 : decide ((3 : Int) < 4) = true := rfl
  have w1 : IntKind.i64.wrap 6 = 6 := by decide
  have w2 : IntKind.i64.wrap 10 = 10 := by decide
  have w3 : IntKind.i64.wrap 4 = 4 := by decide
  refine Lp.of_eq hmx c18L1.eq_1 ?_
  repeat' first | refine CX_pure (act_3) rfl rfl rfl rfl ?_ | refine CX_pure (dB_3) rfl rfl rfl rfl ?_ | refine CX_pure (dA_3) rfl rfl rfl rfl ?_ | refine GX_call (fun _ => (act_3)) (by rfl) (by intro h; simp only [h]; rfl) (by rfl) (by rfl) ?_ | refine GX_call (fun _ => (dB_3)) (by rfl) (by intro h; simp only [h]; rfl) (by rfl) (by rfl) ?_ | refine GX_call (fun _ => (dA_3)) (by rfl) (by intro h; simp only [h]; rfl) (by rfl) (by rfl) ?_ | (with_reducible intro h; try simp only [h]) | (with_reducible refine And.intro ?_ ?_) | (change chk _ _ = true; rfl) | simp only [go_sem, seval, Vc_bool, w1, w2, w3, eq_self, decide_true, tt1, tt2, tt3, tt4, Bool.not_true, Bool.not_false] | refine (GX_split rfl).2 ?_
  exact Lp.bk [_, _] hh (by rfl) (by rfl) (by rfl) (Nat.zero_le _)
theorem c18_ok : ACalls prog 5 [] [] (.bool true) [] := by
  refine calls_of hmx func5 (by kernel_rfl) (c := f5.body.getD .skip) rfl e18 (rs := [(.t 0)]) (by kernel_rfl) (by simp [ntmps5]) ?_
  simp only [c18, argS]
  repeat' first | refine CX_pure (c78_ok) rfl rfl rfl rfl ?_ | refine CX_pure (put7) rfl rfl rfl rfl ?_ | refine GX_call (fun _ => (c78_ok)) (by rfl) (by intro h; simp only [h]; rfl) (by rfl) (by rfl) ?_ | refine GX_call (fun _ => (put7)) (by rfl) (by intro h; simp only [h]; rfl) (by rfl) (by rfl) ?_ | (with_reducible intro h; try simp only [h]) | (with_reducible refine And.intro ?_ ?_) | (change chk _ _ = true; rfl) | simp only [go_sem, seval, Vc_bool] | refine (GX_split rfl).2 ?_
  have h := fun (k' : List It) (hk : Lp prog f5.ntmps 0 (Ret [.t 0] 0 (.bool true) []) c18L1 (.blk 0 :: k') [(33, .int .i64 4), (6, .ptr 2 0 0 0), (1, .ptr 0 0 0 0), (2, .ptr 1 0 0 0)] [.cells 0 14 35 true [(qEnd).enc], .cells 0 14 35 true [(qB).enc], .cells 0 14 46 true [[.int .i64 1, .int .i64 0, .int .i64 4, .int .i64 1, .int .i64 2, .int .i64 0, .int .i64 0, .int .i64 0, .int .i64 0, .int .i64 0, .int .i64 0, .int .i64 0, .int .i64 0, .str (ByteArray.mk #[104, 105])]]]) => it_0 (it_1 (it_2 (it_3 hk)))
  refine Lp.bk0 (h _ ?_) (by rfl)
  refine Lp.of_eq hmx c18L1.eq_1 ?_
  have e1 : qEnd.seq = 1 := rfl
  have e2 : qEnd.trying = -1 := rfl
  have e3 : qEnd.q.pk = [] := rfl
  repeat' first | (with_reducible intro h; try simp only [h]) | (with_reducible refine And.intro ?_ ?_) | (change chk _ _ = true; rfl) | simp only [go_sem, seval, Vc_bool, e1, e2, e3, eq_self, decide_true, List.map_nil, List.length_nil] | refine (GX_split rfl).2 ?_
  exact Rt_pure (by rfl) (by rfl)

theorem seen_row {l : List Seen} : (List.drop 0 (l.map Seen.enc)).take l.length = l.map Seen.enc := by rw [List.drop_zero]; exact List.take_of_length_le (by simp)
/-- heard: not for this node, or an acknowledgement. -/
theorem c105_no {s : Station} {slot : Int} {c : TCell} {f : Sp.Frame} (h : (!(frFor f s.tab.node) || decide (f.kind = 2)) = true) :
    ACalls prog 24 [.ptr 0 0 0 0, .agg f.enc] [.cells 0 21 77 true [wEncN s 1 slot c], .cells 1 2 102 false (s.seen.map Seen.enc)] (.agg Up.zero.enc) [.cells 0 21 77 true [wEnc s slot c], .dead] := by
  refine calls_of hmx func24 (by kernel_rfl) (c := f24.body.getD .skip) rfl e105 (rs := [(.cell 4 true 14)]) (by kernel_rfl) (by simp [ntmps24]) ?_
  simp only [c105, argS]
  have key : ∀ b, frFor f s.tab.node = b → (b = true → decide (f.kind = 2) = true) := by
    intro b hb h1; subst h1; rw [hb] at h; simpa using h
  cases hF : frFor f s.tab.node
  · repeat' first | refine CX_pure (c210_ok) rfl rfl rfl rfl ?_ | refine GX_call (fun _ => (c210_ok)) (by rfl) (by intro h; simp only [h]; rfl) (by rfl) (by rfl) ?_ | (with_reducible intro h; try simp only [h]) | (with_reducible refine And.intro ?_ ?_) | (change chk _ _ = true; rfl) | simp only [go_sem, seval, Vc_bool, hF] | refine (GX_split rfl).2 ?_
    refine Rt.gs (Gs_freeze 1 (s' := [(4, .ptr 3 0 0 0)]) (H' := [.cells 0 21 77 true [wEnc s slot c], .dead, .dead, .cells 0 14 52 true [Up.zero.enc]]) rfl ?_ ?_) (Rt_T (H := [_, _]) _ (by rfl) (by rfl) (by rfl) (Nat.le_refl _))
    · repeat' (first | exact FzL.nil | refine FzL.cons ?_ ?_ | exact Fz.wk (Wk.refl _) | exact Fz.wk (Wk.nil _) | exact Fz.wk (Wk.emp _) | exact Fz.row0 _ _ _ _ | exact FzH.nil _ | exact FzO.refl _ | refine FzO.one ?_ | refine FzH.cons (by decide) ?_ ?_ | refine FzH.this rfl ?_ | exact FzO.dead (by simp) | (simp only [List.forall_mem_cons, List.not_mem_nil, false_implies, implies_true, and_true, go_sem, seval]) | refine And.intro ?_ ?_)
    · repeat' (first | exact FzL.nil | refine FzL.cons ?_ ?_ | exact Fz.wk (Wk.refl _) | exact Fz.wk (Wk.nil _) | exact Fz.wk (Wk.emp _) | exact Fz.row0 _ _ _ _ | exact FzH.nil _ | exact FzO.refl _ | refine FzO.one ?_ | refine FzH.cons (by decide) ?_ ?_ | refine FzH.this rfl ?_ | exact FzO.dead (by simp) | (simp only [List.forall_mem_cons, List.not_mem_nil, false_implies, implies_true, and_true, go_sem, seval]) | refine And.intro ?_ ?_)
      all_goals first | exact Fz.wk (Wk.refl _) | exact Fz.row 0 _ seen_row (cloE_map fun _ => by rfl)
  · have hk : decide (f.kind = 2) = true := key _ hF rfl
    repeat' first | refine CX_pure (c210_ok) rfl rfl rfl rfl ?_ | refine GX_call (fun _ => (c210_ok)) (by rfl) (by intro h; simp only [h]; rfl) (by rfl) (by rfl) ?_ | (with_reducible intro h; try simp only [h]) | (with_reducible refine And.intro ?_ ?_) | (change chk _ _ = true; rfl) | simp only [go_sem, seval, Vc_bool, hF, hk] | refine (GX_split rfl).2 ?_
    refine Rt.gs (Gs_freeze 1 (s' := [(4, .ptr 3 0 0 0)]) (H' := [.cells 0 21 77 true [wEnc s slot c], .dead, .dead, .cells 0 14 52 true [Up.zero.enc]]) rfl ?_ ?_) (Rt_T (H := [_, _]) _ (by rfl) (by rfl) (by rfl) (Nat.le_refl _))
    · repeat' (first | exact FzL.nil | refine FzL.cons ?_ ?_ | exact Fz.wk (Wk.refl _) | exact Fz.wk (Wk.nil _) | exact Fz.wk (Wk.emp _) | exact Fz.row0 _ _ _ _ | exact FzH.nil _ | exact FzO.refl _ | refine FzO.one ?_ | refine FzH.cons (by decide) ?_ ?_ | refine FzH.this rfl ?_ | exact FzO.dead (by simp) | (simp only [List.forall_mem_cons, List.not_mem_nil, false_implies, implies_true, and_true, go_sem, seval]) | refine And.intro ?_ ?_)
    · repeat' (first | exact FzL.nil | refine FzL.cons ?_ ?_ | exact Fz.wk (Wk.refl _) | exact Fz.wk (Wk.nil _) | exact Fz.wk (Wk.emp _) | exact Fz.row0 _ _ _ _ | exact FzH.nil _ | exact FzO.refl _ | refine FzO.one ?_ | refine FzH.cons (by decide) ?_ ?_ | refine FzH.this rfl ?_ | exact FzO.dead (by simp) | (simp only [List.forall_mem_cons, List.not_mem_nil, false_implies, implies_true, and_true, go_sem, seval]) | refine And.intro ?_ ?_)
      all_goals first | exact Fz.wk (Wk.refl _) | exact Fz.row 0 _ seen_row (cloE_map fun _ => by rfl)
def upNew (s : Station) (f : Sp.Frame) : Bool := match heldOf s.held f.flow with | some h => !decide (h.frame = f.num) | none => true
/-- heard: a frame of a flow. -/
theorem c105_1 {s : Station} {slot : Int} {c : TCell} {f : Sp.Frame} {nw : Bool} (hL : s.held.length < 2 ^ 62) (hF : frFor f s.tab.node = true) (hk : f.kind = 1) (hn : upNew s f = nw) :
    ACalls prog 24 [.ptr 0 0 0 0, .agg f.enc] [.cells 0 21 77 true [wEncN s 1 slot c], .cells 1 2 102 false (s.seen.map Seen.enc)] (.agg (Up.enc ⟨true, nw, f⟩)) [.cells 0 21 77 true [wEnc s slot c], .dead] := by
  rcases f with ⟨fk, zf2, zf3, zf4, zf5, zf6, zf7, zf8, zf9, zf10, zf11, zf12⟩
  obtain rfl : fk = 1 := hk
  have h101 := c101n_ok (s := s) (slot := slot) (c := c) (flow := zf6) hL
  refine calls_of hmx func24 (by kernel_rfl) (c := f24.body.getD .skip) rfl e105 (rs := [(.cell 4 true 14)]) (by kernel_rfl) (by simp [ntmps24]) ?_
  simp only [c105, argS]
  rcases idxFrom_find (fun h : Held => decide (h.flow = zf6)) s.held with ⟨h1, h2⟩ | ⟨i, x, h1, h2, h3, h4, h5⟩
  · have e1 : heldIdx s.held zf6 = -1 := h1
    have e2 : heldOf s.held zf6 = none := h2
    rw [e1] at h101
    obtain rfl : true = nw := by rw [← hn, upNew, e2]
    repeat' first | refine CX_pure (c210_ok) rfl rfl rfl rfl ?_ | refine CX_rd [0, 1] (h101) (by rfl) (by rfl) (by rfl) (by rw [List.all_cons, List.all_cons, List.all_nil, Bool.and_true, lt_seen, Bool.and_true]; rfl) (by rfl) (by decide) (by rfl) (by rw [List.map_cons, List.map_cons, List.map_nil, List.map_cons, List.map_cons, List.map_nil, ren_seen]; rfl) (by rfl) ?_ | refine GX_call (fun _ => (c210_ok)) (by rfl) (by intro h; simp only [h]; rfl) (by rfl) (by rfl) ?_ | (with_reducible intro h; try simp only [h]) | (with_reducible refine And.intro ?_ ?_) | (change chk _ _ = true; rfl) | simp only [go_sem, seval, Vc_bool, hF] | refine (GX_split rfl).2 ?_
    refine Rt.gs (Gs_freeze 1 (s' := [(4, .ptr 3 0 0 0)]) (H' := [.cells 0 21 77 true [wEnc s slot c], .dead, .dead, .cells 0 14 52 true [Up.enc ⟨true, true, ⟨1, zf2, zf3, zf4, zf5, zf6, zf7, zf8, zf9, zf10, zf11, zf12⟩⟩], .dead]) rfl ?_ ?_) (Rt_T (H := [_, _]) _ (by rfl) (by rfl) (by rfl) (Nat.le_refl _))
    · repeat' (first | exact FzL.nil | refine FzL.cons ?_ ?_ | exact Fz.wk (Wk.refl _) | exact Fz.wk (Wk.nil _) | exact Fz.wk (Wk.emp _) | exact Fz.row0 _ _ _ _ | exact FzH.nil _ | exact FzO.refl _ | refine FzO.one ?_ | refine FzH.cons (by decide) ?_ ?_ | refine FzH.this rfl ?_ | exact FzO.dead (by simp) | (simp only [List.forall_mem_cons, List.not_mem_nil, false_implies, implies_true, and_true, go_sem, seval]) | refine And.intro ?_ ?_)
    · repeat' (first | exact FzL.nil | refine FzL.cons ?_ ?_ | exact Fz.wk (Wk.refl _) | exact Fz.wk (Wk.nil _) | exact Fz.wk (Wk.emp _) | exact Fz.row0 _ _ _ _ | exact FzH.nil _ | exact FzO.refl _ | refine FzO.one ?_ | refine FzH.cons (by decide) ?_ ?_ | refine FzH.this rfl ?_ | exact FzO.dead (by simp) | (simp only [List.forall_mem_cons, List.not_mem_nil, false_implies, implies_true, and_true, go_sem, seval]) | refine And.intro ?_ ?_)
      all_goals first | exact Fz.wk (Wk.refl _) | exact Fz.row 0 _ seen_row (cloE_map fun _ => by rfl)
  · have e1 : heldIdx s.held zf6 = i := h3
    have e2 : heldOf s.held zf6 = some x := h4
    have e3 : (s.held.map Held.enc)[i]? = some x.enc := by rw [List.getElem?_map, h1]; rfl
    have e4 : decide ((i : Int) < 0) = false := by simp
    rw [e1] at h101
    obtain rfl : (!decide (x.frame = zf7)) = nw := by rw [← hn, upNew, e2]
    repeat' first | refine CX_pure (c210_ok) rfl rfl rfl rfl ?_ | refine CX_rd [0, 1] (h101) (by rfl) (by rfl) (by rfl) (by rw [List.all_cons, List.all_cons, List.all_nil, Bool.and_true, lt_seen, Bool.and_true]; rfl) (by rfl) (by decide) (by rfl) (by rw [List.map_cons, List.map_cons, List.map_nil, List.map_cons, List.map_cons, List.map_nil, ren_seen]; rfl) (by rfl) ?_ | refine GX_call (fun _ => (c210_ok)) (by rfl) (by intro h; simp only [h]; rfl) (by rfl) (by rfl) ?_ | (with_reducible intro h; try simp only [h]) | (with_reducible refine And.intro ?_ ?_) | (change chk _ _ = true; rfl) | simp only [go_sem, seval, Vc_bool, hF, e3, e4, Int.toNat_natCast, Int.natCast_nonneg] | refine (GX_split rfl).2 ?_
    refine Rt.gs (Gs_freeze 1 (s' := [(4, .ptr 3 0 0 0)]) (H' := [.cells 0 21 77 true [wEnc s slot c], .dead, .dead, .cells 0 14 52 true [Up.enc ⟨true, !decide (x.frame = zf7), ⟨1, zf2, zf3, zf4, zf5, zf6, zf7, zf8, zf9, zf10, zf11, zf12⟩⟩], .dead]) rfl ?_ ?_) (Rt_T (H := [_, _]) _ (by rfl) (by rfl) (by rfl) (Nat.le_refl _))
    · repeat' (first | exact FzL.nil | refine FzL.cons ?_ ?_ | exact Fz.wk (Wk.refl _) | exact Fz.wk (Wk.nil _) | exact Fz.wk (Wk.emp _) | exact Fz.row0 _ _ _ _ | exact FzH.nil _ | exact FzO.refl _ | refine FzO.one ?_ | refine FzH.cons (by decide) ?_ ?_ | refine FzH.this rfl ?_ | exact FzO.dead (by simp) | (simp only [List.forall_mem_cons, List.not_mem_nil, false_implies, implies_true, and_true, go_sem, seval]) | refine And.intro ?_ ?_)
    · repeat' (first | exact FzL.nil | refine FzL.cons ?_ ?_ | exact Fz.wk (Wk.refl _) | exact Fz.wk (Wk.nil _) | exact Fz.wk (Wk.emp _) | exact Fz.row0 _ _ _ _ | exact FzH.nil _ | exact FzO.refl _ | refine FzO.one ?_ | refine FzH.cons (by decide) ?_ ?_ | refine FzH.this rfl ?_ | exact FzO.dead (by simp) | (simp only [List.forall_mem_cons, List.not_mem_nil, false_implies, implies_true, and_true, go_sem, seval]) | refine And.intro ?_ ?_)
      all_goals first | exact Fz.wk (Wk.refl _) | exact Fz.row 0 _ seen_row (cloE_map fun _ => by rfl)
/-- heard: a beacon, or a message for all. -/
theorem c105_3 {s : Station} {slot : Int} {c : TCell} {f : Sp.Frame} (hF : frFor f s.tab.node = true) (k1 : decide (f.kind = 1) = false) (k2 : decide (f.kind = 2) = false) (k4 : (decide (f.kind = 4) && decide (f.tgt = s.tab.node)) = false) :
    ACalls prog 24 [.ptr 0 0 0 0, .agg f.enc] [.cells 0 21 77 true [wEncN s 1 slot c], .cells 1 2 102 false (s.seen.map Seen.enc)] (.agg (Up.enc ⟨true, true, f⟩)) [.cells 0 21 77 true [wEnc s slot c], .dead] := by
  refine calls_of hmx func24 (by kernel_rfl) (c := f24.body.getD .skip) rfl e105 (rs := [(.cell 4 true 14)]) (by kernel_rfl) (by simp [ntmps24]) ?_
  simp only [c105, argS]
  cases h4 : decide (f.kind = 4)
  · repeat' first | refine CX_pure (c210_ok) rfl rfl rfl rfl ?_ | refine GX_call (fun _ => (c210_ok)) (by rfl) (by intro h; simp only [h]; rfl) (by rfl) (by rfl) ?_ | (with_reducible intro h; try simp only [h]) | (with_reducible refine And.intro ?_ ?_) | (change chk _ _ = true; rfl) | simp only [go_sem, seval, Vc_bool, hF, k1, k2, h4] | refine (GX_split rfl).2 ?_
    refine Rt.gs (Gs_freeze 1 (s' := [(4, .ptr 3 0 0 0)]) (H' := [.cells 0 21 77 true [wEnc s slot c], .dead, .dead, .cells 0 14 52 true [Up.enc ⟨true, true, f⟩], .dead]) rfl ?_ ?_) (Rt_T (H := [_, _]) _ (by rfl) (by rfl) (by rfl) (Nat.le_refl _))
    · repeat' (first | exact FzL.nil | refine FzL.cons ?_ ?_ | exact Fz.wk (Wk.refl _) | exact Fz.wk (Wk.nil _) | exact Fz.wk (Wk.emp _) | exact Fz.row0 _ _ _ _ | exact FzH.nil _ | exact FzO.refl _ | refine FzO.one ?_ | refine FzH.cons (by decide) ?_ ?_ | refine FzH.this rfl ?_ | exact FzO.dead (by simp) | (simp only [List.forall_mem_cons, List.not_mem_nil, false_implies, implies_true, and_true, go_sem, seval]) | refine And.intro ?_ ?_)
    · repeat' (first | exact FzL.nil | refine FzL.cons ?_ ?_ | exact Fz.wk (Wk.refl _) | exact Fz.wk (Wk.nil _) | exact Fz.wk (Wk.emp _) | exact Fz.row0 _ _ _ _ | exact FzH.nil _ | exact FzO.refl _ | refine FzO.one ?_ | refine FzH.cons (by decide) ?_ ?_ | refine FzH.this rfl ?_ | exact FzO.dead (by simp) | (simp only [List.forall_mem_cons, List.not_mem_nil, false_implies, implies_true, and_true, go_sem, seval]) | refine And.intro ?_ ?_)
      all_goals first | exact Fz.wk (Wk.refl _) | exact Fz.row 0 _ seen_row (cloE_map fun _ => by rfl)
  · have ht : decide (f.tgt = s.tab.node) = false := by rw [h4] at k4; simpa using k4
    repeat' first | refine CX_pure (c210_ok) rfl rfl rfl rfl ?_ | refine GX_call (fun _ => (c210_ok)) (by rfl) (by intro h; simp only [h]; rfl) (by rfl) (by rfl) ?_ | (with_reducible intro h; try simp only [h]) | (with_reducible refine And.intro ?_ ?_) | (change chk _ _ = true; rfl) | simp only [go_sem, seval, Vc_bool, hF, k1, k2, h4, ht] | refine (GX_split rfl).2 ?_
    refine Rt.gs (Gs_freeze 1 (s' := [(4, .ptr 3 0 0 0)]) (H' := [.cells 0 21 77 true [wEnc s slot c], .dead, .dead, .cells 0 14 52 true [Up.enc ⟨true, true, f⟩], .dead]) rfl ?_ ?_) (Rt_T (H := [_, _]) _ (by rfl) (by rfl) (by rfl) (Nat.le_refl _))
    · repeat' (first | exact FzL.nil | refine FzL.cons ?_ ?_ | exact Fz.wk (Wk.refl _) | exact Fz.wk (Wk.nil _) | exact Fz.wk (Wk.emp _) | exact Fz.row0 _ _ _ _ | exact FzH.nil _ | exact FzO.refl _ | refine FzO.one ?_ | refine FzH.cons (by decide) ?_ ?_ | refine FzH.this rfl ?_ | exact FzO.dead (by simp) | (simp only [List.forall_mem_cons, List.not_mem_nil, false_implies, implies_true, and_true, go_sem, seval]) | refine And.intro ?_ ?_)
    · repeat' (first | exact FzL.nil | refine FzL.cons ?_ ?_ | exact Fz.wk (Wk.refl _) | exact Fz.wk (Wk.nil _) | exact Fz.wk (Wk.emp _) | exact Fz.row0 _ _ _ _ | exact FzH.nil _ | exact FzO.refl _ | refine FzO.one ?_ | refine FzH.cons (by decide) ?_ ?_ | refine FzH.this rfl ?_ | exact FzO.dead (by simp) | (simp only [List.forall_mem_cons, List.not_mem_nil, false_implies, implies_true, and_true, go_sem, seval]) | refine And.intro ?_ ?_)
      all_goals first | exact Fz.wk (Wk.refl _) | exact Fz.row 0 _ seen_row (cloE_map fun _ => by rfl)

def c138L1 : SC := (.seq (.reg [(.bin 9 .lss (.t 8) (.t 7))]) (.seq (.cond (.t 9) .skip (.exit 0)) (.seq (.block 1 (.seq (.reg [(.mv 10 (.t 8)), (.mv 5 (.t 10))]) (.seq (.reg [(.mv 11 (.t 1)), (.mv 12 (.t 0)), (.mv 13 (.t 5)), (.ia 14 (.t 12) (.t 13) 1), (.ld 15 (.t 14) false 1), (.bin 16 .eql (.t 11) (.t 15))]) (.cond (.t 16) (.seq (.reg [(.mv 17 (.t 5)), (.mv 4 (.t 17))]) .ret) .skip)))) (.reg [(.bin 18 .add (.t 8) (.c (.int .i64 1))), (.mv 8 (.t 18))]))))
def c138 : SC := (.seq (.reg [(.mv 4 (.c (.int .i64 0)))]) (.seq (.seq (.reg [(.mv 6 (.t 0)), (.len 7 false (.t 6)), (.mv 8 (.c (.int .i64 0)))]) (.block 0 (.loop c138L1))) (.seq (.reg [(.mv 4 (.c (.int .i64 (-1))))]) .ret)))
theorem e138 : compC prog f93.ntmps (f93.body.getD .skip) = c138 := by kernel_rfl
def c40 : SC := (.seq (.reg [(.mv 4 (.c (.bool false)))]) (.seq (.reg [(.mv 5 (.t 0)), (.mv 6 (.t 1)), (.call (some 7) (.c (.func 93 [] [])) [(.t 5), (.t 6)]), (.bin 8 .geq (.t 7) (.c (.int .i64 0))), (.mv 4 (.t 8))]) .ret))
theorem e40 : compC prog f75.ntmps (f75.body.getD .skip) = c40 := by kernel_rfl
def c192 : SC := (.seq (.reg [(.alc 2 46 [(.int .i64 0), (.int .i64 0), (.int .i64 0), (.int .i64 0), (.int .i64 0), (.int .i64 0), (.int .i64 0), (.int .i64 0), (.int .i64 0), (.int .i64 0), (.int .i64 0), (.int .i64 0), (.int .i64 0), (.str (ByteArray.mk #[]))])]) (.seq (.seq (.reg [(.mv 5 (.t 0)), (.nck 6 (.t 5)), (.fa 7 (.t 6) 15), (.fa 8 (.t 7) 3), (.ld 9 (.t 8) false 1), (.not 10 (.t 9))]) (.cond (.t 10) (.seq (.reg [(.bld 11 [(.int .i64 0), (.int .i64 0), (.int .i64 0), (.int .i64 0), (.int .i64 0), (.int .i64 0), (.int .i64 0), (.int .i64 0), (.int .i64 0), (.int .i64 0), (.int .i64 0), (.int .i64 0), (.int .i64 0), (.str (ByteArray.mk #[]))] [(0, 1, (.c (.int .i64 2)))]), (.st (.t 2) (.t 11) 14)]) .ret) .skip)) (.seq (.reg [(.mv 12 (.t 0)), (.mv 13 (.t 0)), (.nck 14 (.t 13)), (.fa 15 (.t 14) 15), (.fa 16 (.t 15) 5), (.ld 17 (.t 16) false 1), (.call (some 18) (.c (.func 20 [] [])) [(.t 12), (.t 17)]), (.mv 3 (.t 18))]) (.seq (.seq (.regD [(.mv 19 (.t 3)), (.bin 20 .lss (.t 19) (.c (.int .i64 0))), (.mv 21 (.t 20)), (.g 21 false (some 22) (.mv 22 (.t 0))), (.g 21 false (some 23) (.nck 23 (.t 22))), (.g 21 false (some 24) (.fa 24 (.t 23) 14)), (.g 21 false (some 25) (.ld 25 (.t 24) false 1)), (.g 21 false (some 26) (.mv 26 (.t 0))), (.g 21 false (some 27) (.nck 27 (.t 26))), (.g 21 false (some 28) (.fa 28 (.t 27) 0)), (.g 21 false (some 29) (.fa 29 (.t 28) 5)), (.g 21 false (some 30) (.ld 30 (.t 29) false 1)), (.g 21 false (some 31) (.mv 31 (.t 3))), (.g 21 false (some 32) (.ia 32 (.t 30) (.t 31) 5)), (.g 21 false (some 33) (.fa 33 (.t 32) 2)), (.g 21 false (some 34) (.ld 34 (.t 33) false 1)), (.g 21 false (some 35) (.bin 35 .gtr (.t 25) (.t 34))), (.pick 36 (.t 21) (.c (.bool true)) (.t 35)), (.mv 37 (.t 36)), (.g 37 false (some 38) (.mv 38 (.t 0))), (.g 37 false (some 39) (.nck 39 (.t 38))), (.g 37 false (some 40) (.fa 40 (.t 39) 0)), (.g 37 false (some 41) (.fa 41 (.t 40) 5)), (.g 37 false (some 42) (.ld 42 (.t 41) false 1)), (.g 37 false (some 43) (.mv 43 (.t 3))), (.g 37 false (some 44) (.ia 44 (.t 42) (.t 43) 5)), (.g 37 false (some 45) (.fa 45 (.t 44) 4)), (.g 37 false (some 46) (.ld 46 (.t 45) false 1)), (.g 37 false (some 47) (.mv 47 (.t 0))), (.g 37 false (some 48) (.nck 48 (.t 47))), (.g 37 false (some 49) (.fa 49 (.t 48) 15)), (.g 37 false (some 50) (.fa 50 (.t 49) 4)), (.g 37 false (some 51) (.ld 51 (.t 50) false 1)), (.g 37 false (some 52) (.call (some 52) (.c (.func 75 [] [])) [(.t 46), (.t 51)])), (.pick 53 (.t 37) (.c (.bool true)) (.t 52))] []) (.cond (.t 53) (.seq (.reg [(.bld 54 [(.int .i64 0), (.int .i64 0), (.int .i64 0), (.int .i64 0), (.int .i64 0), (.int .i64 0), (.int .i64 0), (.int .i64 0), (.int .i64 0), (.int .i64 0), (.int .i64 0), (.int .i64 0), (.int .i64 0), (.str (ByteArray.mk #[]))] []), (.st (.t 2) (.t 54) 14)]) .ret) .skip)) (.seq (.reg [(.mv 55 (.t 0)), (.nck 56 (.t 55)), (.fa 57 (.t 56) 0), (.fa 58 (.t 57) 5), (.ld 59 (.t 58) false 1), (.mv 60 (.t 3)), (.ia 61 (.t 59) (.t 60) 5), (.ld 62 (.t 61) true 5), (.alc 4 75 [(.int .i64 0), (.int .i64 0), (.int .i64 0), (.str (ByteArray.mk #[])), .nil]), (.st (.t 4) (.t 62) 5)]) (.seq (.regD [(.mv 63 (.t 0)), (.nck 64 (.t 63)), (.fa 65 (.t 64) 0), (.fa 66 (.t 65) 0), (.fa 67 (.t 66) 0), (.ld 68 (.t 67) false 1), (.mv 69 (.t 0)), (.nck 70 (.t 69)), (.fa 71 (.t 70) 15), (.fa 72 (.t 71) 4), (.ld 73 (.t 72) false 1), (.mv 74 (.t 0)), (.nck 75 (.t 74)), (.fa 76 (.t 75) 0), (.fa 77 (.t 76) 7), (.ld 78 (.t 77) false 1), (.fa 79 (.t 4) 1), (.ld 80 (.t 79) false 1), (.bin 81 .rem (.t 80) (.c (.int .i64 256))), (.fa 82 (.t 4) 0), (.ld 83 (.t 82) false 1), (.fa 84 (.t 4) 1), (.ld 85 (.t 84) false 1), (.fa 86 (.t 4) 3), (.ld 87 (.t 86) false 1), (.bld 88 [(.int .i64 0), (.int .i64 0), (.int .i64 0), (.int .i64 0), (.int .i64 0), (.int .i64 0), (.int .i64 0), (.int .i64 0), (.int .i64 0), (.int .i64 0), (.int .i64 0), (.str (ByteArray.mk #[]))] [(0, 1, (.c (.int .i64 1))), (1, 1, (.t 68)), (2, 1, (.t 73)), (3, 1, (.t 78)), (4, 1, (.t 81)), (5, 1, (.t 83)), (6, 1, (.t 85)), (11, 1, (.t 87))]), (.bld 89 [(.int .i64 0), (.int .i64 0), (.int .i64 0), (.int .i64 0), (.int .i64 0), (.int .i64 0), (.int .i64 0), (.int .i64 0), (.int .i64 0), (.int .i64 0), (.int .i64 0), (.int .i64 0), (.int .i64 0), (.str (ByteArray.mk #[]))] [(0, 1, (.c (.int .i64 1))), (2, 12, (.t 88))]), (.st (.t 2) (.t 89) 14)] []) .ret))))))
theorem e192 : compC prog f44.ntmps (f44.body.getD .skip) = c192 := by kernel_rfl
def c194 : SC := (.seq (.reg [(.alc 2 46 [(.int .i64 0), (.int .i64 0), (.int .i64 0), (.int .i64 0), (.int .i64 0), (.int .i64 0), (.int .i64 0), (.int .i64 0), (.int .i64 0), (.int .i64 0), (.int .i64 0), (.int .i64 0), (.int .i64 0), (.str (ByteArray.mk #[]))])]) (.seq (.seq (.reg [(.mv 6 (.t 0)), (.call (some 7) (.c (.func 23 [] [])) [(.t 6)]), (.mv 5 (.t 7)), (.ext 8 (.t 5) 0), (.ext 9 (.t 5) 1), (.alc 3 42 [(.int .i64 0), (.int .i64 0), (.int .i64 0), (.int .i64 0), (.int .i64 0), (.str (ByteArray.mk #[]))]), (.st (.t 3) (.t 8) 6), (.mv 4 (.t 9))]) (.seq (.reg [(.mv 10 (.t 4)), (.mv 11 (.t 10)), (.g 11 true (some 12) (.mv 12 (.t 0))), (.g 11 true (some 13) (.nck 13 (.t 12))), (.g 11 true (some 14) (.fa 14 (.t 13) 0)), (.g 11 true (some 15) (.fa 15 (.t 14) 12)), (.g 11 true (some 16) (.ld 16 (.t 15) false 1)), (.g 11 true (some 17) (.bin 17 .eql (.t 16) (.c (.int .i64 0)))), (.pick 18 (.t 11) (.t 17) (.c (.bool false)))]) (.cond (.t 18) (.seq (.reg [(.mv 19 (.t 0)), (.ld 20 (.t 3) true 6), (.call (some 21) (.c (.func 77 [] [])) [(.t 19), (.t 20)]), (.st (.t 2) (.t 21) 14)]) .ret) .skip))) (.seq (.reg [(.bld 22 [(.int .i64 0), (.int .i64 0), (.int .i64 0), (.int .i64 0), (.int .i64 0), (.int .i64 0), (.int .i64 0), (.int .i64 0), (.int .i64 0), (.int .i64 0), (.int .i64 0), (.int .i64 0), (.int .i64 0), (.str (ByteArray.mk #[]))] [(0, 1, (.c (.int .i64 2)))]), (.st (.t 2) (.t 22) 14)]) .ret)))
theorem e194 : compC prog f46.ntmps (f46.body.getD .skip) = c194 := by kernel_rfl
theorem l138 (l : List Int) (x : Int) (hL : (l).length < 2 ^ 62) (k' : List It) (hk : ∀ zs, V prog f93.ntmps 0 (Ret [(.t 4)] 0 (.int .i64 (-1)) []) k' zs []) : ∀ (rest done : List Int), l = done ++ rest →
    Lp prog f93.ntmps 0 (Ret [(.t 4)] 0 (.int .i64 (idxFrom (fun y => decide (x = y)) done.length rest)) []) c138L1 (.blk 0 :: k') [(0, .sl 1 (l.map eI)), (1, .int .i64 x), (7, .int .i64 l.length), (8, .int .i64 done.length)] [] := by
  intro rest
  induction rest with
  | nil =>
    intro done hd
    refine Lp.of_eq hmx c138L1.eq_1 ?_
    have h1 := rg_end hd
    simp only [go_sem, seval, h1, List.length_map]
    exact hk _
  | cons c rest ih =>
    intro done hd
    refine Lp.of_eq hmx c138L1.eq_1 ?_
    obtain ⟨h1, h2, h3, h4⟩ := rg_hd eI hd hL
    have ih' := ih _ h4
    rcases List.eq_nil_or_concat done with h0 | ⟨ds, p, h0⟩
    · obtain ⟨p1, hp⟩ := rg_first' h0
      repeat' first | (refine Lp.bkE0 ih' (by rfl) ?_) | (refine Rt_pure ?_ rfl; simp only [retO, retO1, retOs, S, get_cons, Nat.reduceEqDiff, reduceIte, obj, getO_cons_zero, getO_cons_succ, List.getElem?_cons_zero, List.getElem?_cons_succ, List.drop_zero, List.drop_succ_cons, loadFrom_cell, loadFrom_agg, List.length_cons, List.length_nil, Nat.reduceAdd, Nat.reduceLeDiff, List.take_succ_cons, List.take_zero, List.take_nil]) | (with_reducible intro h; try simp only [h]) | (with_reducible refine And.intro ?_ ?_) | (change chk _ _ = true; rfl) | simp only [go_sem, seval, Vc_bool, h1, h2, h3, Int.toNat_natCast, Int.natCast_nonneg, List.length_map, p1] | refine (GX_split rfl).2 ?_
      all_goals (clear hk ih ih' h1 h2 h3 h4 hd hL)
      all_goals clear p1 h0
      all_goals (simp only [idxFrom]; grind)
    · rw [List.concat_eq_append] at h0
      obtain ⟨p1, p2, p3, hp⟩ := rg_prev' eI hd h0 hL
      repeat' first | (refine Lp.bkE0 ih' (by rfl) ?_) | (refine Rt_pure ?_ rfl; simp only [retO, retO1, retOs, S, get_cons, Nat.reduceEqDiff, reduceIte, obj, getO_cons_zero, getO_cons_succ, List.getElem?_cons_zero, List.getElem?_cons_succ, List.drop_zero, List.drop_succ_cons, loadFrom_cell, loadFrom_agg, List.length_cons, List.length_nil, Nat.reduceAdd, Nat.reduceLeDiff, List.take_succ_cons, List.take_zero, List.take_nil]) | (with_reducible intro h; try simp only [h]) | (with_reducible refine And.intro ?_ ?_) | (change chk _ _ = true; rfl) | simp only [go_sem, seval, Vc_bool, h1, h2, h3, Int.toNat_natCast, Int.natCast_nonneg, List.length_map, p1, p2, p3] | refine (GX_split rfl).2 ?_
      all_goals (clear hk ih ih' h1 h2 h3 h4 hd hL)
      all_goals clear p1 p2 p3 h0
      all_goals (simp only [idxFrom]; grind)

theorem c138_ok {l : List Int} {x : Int} (hL : l.length < 2 ^ 62) : ACalls prog 93 [.sl 1 (l.map eI), .int .i64 x] [] (.int .i64 (idxFrom (fun y => decide (x = y)) 0 l)) [] := by
  refine calls_of hmx func93 (by kernel_rfl) (c := f93.body.getD .skip) rfl e138 (rs := [(.t 4)]) (by kernel_rfl) (by simp [ntmps93]) ?_
  simp only [c138, argS]
  simp only [go_sem, seval, List.length_map]
  refine Lp.bkE0 (l138 l x hL _ (fun s => ?_) l [] rfl) (by rfl) rfl
  simp only [go_sem, seval]
  (refine Rt_pure ?_ rfl; simp only [retO, retO1, retOs, S, get_cons, Nat.reduceEqDiff, reduceIte, obj, getO_cons_zero, getO_cons_succ, List.getElem?_cons_zero, List.getElem?_cons_succ, List.drop_zero, List.drop_succ_cons, loadFrom_cell, loadFrom_agg, List.length_cons, List.length_nil, Nat.reduceAdd, Nat.reduceLeDiff, List.take_succ_cons, List.take_zero, List.take_nil])
theorem c40_ok {l : List Int} {x : Int} (hL : l.length < 2 ^ 62) : ACalls prog 75 [.sl 1 (l.map eI), .int .i64 x] [] (.bool (l.any fun y => decide (x = y))) [] := by
  refine calls_of hmx func75 (by kernel_rfl) (c := f75.body.getD .skip) rfl e40 (rs := [(.t 4)]) (by kernel_rfl) (by simp [ntmps75]) ?_
  simp only [c40, argS]
  simp only [go_sem, seval]
  repeat' first | (refine Rt_pure ?_ rfl; simp only [retO, retO1, retOs, S, get_cons, Nat.reduceEqDiff, reduceIte, obj, getO_cons_zero, getO_cons_succ, List.getElem?_cons_zero, List.getElem?_cons_succ, List.drop_zero, List.drop_succ_cons, loadFrom_cell, loadFrom_agg, List.length_cons, List.length_nil, Nat.reduceAdd, Nat.reduceLeDiff, List.take_succ_cons, List.take_zero, List.take_nil]) | refine CX_pure (c138_ok hL) rfl rfl rfl rfl ?_ | refine GX_call (fun _ => (c138_ok hL)) (by rfl) (by intro h; simp only [h]; rfl) (by rfl) (by rfl) ?_ | (with_reducible intro h; try simp only [h]) | (with_reducible refine And.intro ?_ ?_) | (change chk _ _ = true; rfl) | simp only [go_sem, seval, Vc_bool, idxFrom_any] | refine (GX_split rfl).2 ?_
def ctlSt (s : Station) (slot : Int) (c : TCell) : Action :=
  if c.send = false then ⟨2, 0, Frame.zero⟩
  else match heldOf s.held c.flow with
    | none => Action.zero
    | some h => if h.upto < slot ∨ (h.acked.any fun y => decide (c.peer = y)) = true then Action.zero else ⟨1, 0, dataOf s h c.peer⟩
theorem c192_ok {s : Station} {slot : Int} {c : TCell} (hL : s.held.length < 2 ^ 62) (hA : ∀ h ∈ s.held, h.acked.length < 2 ^ 62) : ACalls prog 44 [.ptr 0 0 0 0] [.cells 0 21 77 true [wEnc s slot c]] (.agg (ctlSt s slot c).enc) [.cells 0 21 77 true [wEnc s slot c]] := by
  have h101 := c101_ok (s := s) (slot := slot) (c := c) (flow := c.flow) hL
  refine calls_of hmx func44 (by kernel_rfl) (c := f44.body.getD .skip) rfl e192 (rs := [(.cell 2 true 14)]) (by kernel_rfl) (by simp [ntmps44]) ?_
  simp only [c192, argS]
  rcases idxFrom_find (fun h : Held => decide (h.flow = c.flow)) s.held with ⟨h1, h2⟩ | ⟨i, x, h1, h2, h3, h4, h5⟩
  · have e1 : heldIdx s.held c.flow = -1 := h1
    have e2 : heldOf s.held c.flow = none := h2
    rw [e1] at h101
    repeat' first | refine CX_rd [0] (h101) (by rfl) (by rfl) (by rfl) (by rfl) (by rfl) (by decide) (by rfl) (by rfl) (by rfl) ?_ | (with_reducible intro h; try simp only [h]) | (with_reducible refine And.intro ?_ ?_) | (change chk _ _ = true; rfl) | simp only [go_sem, seval, Vc_bool] | refine (GX_split rfl).2 ?_
    · have e : ctlSt s slot c = ⟨2, 0, Frame.zero⟩ := by rw [ctlSt, if_pos (by simpa using h)]
      rw [e]
      exact Rt_T (H := [_]) _ (by rfl) (by rfl) (by rfl) (Nat.le_refl _)
    · have e : ctlSt s slot c = Action.zero := by rw [ctlSt, if_neg (by simpa using h), e2]
      rw [e]
      exact Rt_T (H := [_]) _ (by rfl) (by rfl) (by rfl) (Nat.le_refl _)
  · have e1 : heldIdx s.held c.flow = i := h3
    have e2 : heldOf s.held c.flow = some x := h4
    have e3 : (s.held.map Held.enc)[i]? = some x.enc := by rw [List.getElem?_map, h1]; rfl
    have e4 : decide ((i : Int) < 0) = false := by simp
    have hx : x.acked.length < 2 ^ 62 := hA x (List.mem_of_getElem? h1)
    rw [e1] at h101
    have e0 : c.send = false → ctlSt s slot c = ⟨2, 0, Frame.zero⟩ := fun h => by rw [ctlSt, if_pos h]
    have e5 : c.send = true → (x.upto < slot ∨ (x.acked.any fun y => decide (c.peer = y)) = true) → ctlSt s slot c = Action.zero := fun h h' => by rw [ctlSt, if_neg (by simp [h]), e2]; simp only; rw [if_pos h']
    have e6 : c.send = true → ¬ (x.upto < slot ∨ (x.acked.any fun y => decide (c.peer = y)) = true) → ctlSt s slot c = ⟨1, 0, dataOf s x c.peer⟩ := fun h h' => by rw [ctlSt, if_neg (by simp [h]), e2]; simp only; rw [if_neg h']
    cases hw : decide (x.upto < slot)
    · repeat' first | refine CX_rd [0] (h101) (by rfl) (by rfl) (by rfl) (by rfl) (by rfl) (by decide) (by rfl) (by rfl) (by rfl) ?_ | refine CX_pure (c40_ok hx) rfl rfl rfl rfl ?_ | refine GX_call (fun _ => (c40_ok hx)) (by rfl) (by intro h; simp only [h]; rfl) (by rfl) (by rfl) ?_ | (with_reducible intro h; try simp only [h]) | (with_reducible refine And.intro ?_ ?_) | (change chk _ _ = true; rfl) | simp only [go_sem, seval, Vc_bool, e3, e4, hw, Int.toNat_natCast, Int.natCast_nonneg] | refine (GX_split rfl).2 ?_
      · rw [e0 (by simpa using h)]
        exact Rt_T (H := [_]) _ (by rfl) (by rfl) (by rfl) (Nat.le_refl _)
      · rename_i hs
        rw [e5 (by simpa using hs) (.inr h)]
        exact Rt_T (H := [_]) _ (by rfl) (by rfl) (by rfl) (Nat.le_refl _)
      · rename_i hs
        rw [e6 (by simpa using hs) (fun h' => h'.elim (fun a => of_decide_eq_false hw a) (fun a => by rw [a] at h; cases h))]
        exact Rt_T (H := [_]) _ (by rfl) (by rfl) (by rfl) (Nat.le_refl _)
    · repeat' first | refine CX_rd [0] (h101) (by rfl) (by rfl) (by rfl) (by rfl) (by rfl) (by decide) (by rfl) (by rfl) (by rfl) ?_ | refine CX_pure (c40_ok hx) rfl rfl rfl rfl ?_ | refine GX_call (fun _ => (c40_ok hx)) (by rfl) (by intro h; simp only [h]; rfl) (by rfl) (by rfl) ?_ | (with_reducible intro h; try simp only [h]) | (with_reducible refine And.intro ?_ ?_) | (change chk _ _ = true; rfl) | simp only [go_sem, seval, Vc_bool, e3, e4, hw, Int.toNat_natCast, Int.natCast_nonneg] | refine (GX_split rfl).2 ?_
      · rw [e0 (by simpa using h)]
        exact Rt_T (H := [_]) _ (by rfl) (by rfl) (by rfl) (Nat.le_refl _)
      · rw [e5 (by simpa using h) (.inl (of_decide_eq_true hw))]
        exact Rt_T (H := [_]) _ (by rfl) (by rfl) (by rfl) (Nat.le_refl _)
def shSt (s : Station) : Action := match candidate s with | some p => if s.wait = 0 then ⟨1, 0, msgOf s p⟩ else ⟨2, 0, Frame.zero⟩ | none => ⟨2, 0, Frame.zero⟩
theorem c194_ok {s : Station} {slot : Int} {c : TCell} (hC : s.tab.cells.length < 2 ^ 62) (hL : s.q.pk.length < 2 ^ 62) : ACalls prog 46 [.ptr 0 0 0 0] [.cells 0 21 77 true [wEnc s slot c]] (.agg (shSt s).enc) [.cells 0 21 77 true [wEnc s slot c]] := by
  have h104 := c104_ok (s := s) (slot := slot) (c := c) hC hL
  refine calls_of hmx func46 (by kernel_rfl) (c := f46.body.getD .skip) rfl e194 (rs := [(.cell 2 true 14)]) (by kernel_rfl) (by simp [ntmps46]) ?_
  simp only [c194, argS]
  cases hc : candidate s with
  | none =>
    rw [hc] at h104
    have e : shSt s = ⟨2, 0, Frame.zero⟩ := by rw [shSt, hc]
    rw [e]
    repeat' first | refine CX_rd [0] (h104) (by rfl) (by rfl) (by rfl) (by rfl) (by rfl) (by decide) (by rfl) (by rfl) (by rfl) ?_ | (with_reducible intro h; try simp only [h]) | (with_reducible refine And.intro ?_ ?_) | (change chk _ _ = true; rfl) | simp only [go_sem, seval, Vc_bool, oPk_none] | refine (GX_split rfl).2 ?_
    exact Rt_T (H := [_]) _ (by rfl) (by rfl) (by rfl) (Nat.le_refl _)
  | some p =>
    rw [hc] at h104
    repeat' first | refine CX_rd [0] (h104) (by rfl) (by rfl) (by rfl) (by rfl) (by rfl) (by decide) (by rfl) (by rfl) (by rfl) ?_ | refine CX_rd [0] (c302_ok) (by rfl) (by rfl) (by rfl) (by rfl) (by rfl) (by decide) (by rfl) (by rfl) (by rfl) ?_ | (with_reducible intro h; try simp only [h]) | (with_reducible refine And.intro ?_ ?_) | (change chk _ _ = true; rfl) | simp only [go_sem, seval, Vc_bool, oPk_some] | refine (GX_split rfl).2 ?_
    · have e : shSt s = ⟨1, 0, msgOf s p⟩ := by rw [shSt, hc]; simp only; rw [if_pos (by simpa using h)]
      rw [e]
      exact Rt_T (H := [_]) _ (by rfl) (by rfl) (by rfl) (Nat.le_refl _)
    · have e : shSt s = ⟨2, 0, Frame.zero⟩ := by rw [shSt, hc]; simp only; rw [if_neg (by simpa using h)]
      rw [e]
      exact Rt_T (H := [_]) _ (by rfl) (by rfl) (by rfl) (Nat.le_refl _)
theorem c97_1 {s : Station} {slot : Int} {c : TCell} {a : Action} (hk : c.kind = 1) (hg : ACalls prog 44 [.ptr 0 0 0 0] [.cells 0 21 77 true [wEnc s slot c]] (.agg a.enc) [.cells 0 21 77 true [wEnc s slot c]]) :
    ACalls prog 19 [.ptr 0 0 0 0] [.cells 0 21 77 true [wEnc s slot c]] (.agg (offd a c).enc) [.cells 0 21 77 true [wEnc s slot c]] := by
  rcases c with ⟨cs, co, ck, cd, cp, cf⟩
  obtain rfl : ck = 1 := hk
  refine calls_of hmx func19 (by kernel_rfl) (c := f19.body.getD .skip) rfl e97 (rs := [(.cell 2 true 14)]) (by kernel_rfl) (by simp [ntmps19]) ?_
  simp only [c97, argS]
  simp only [go_sem, seval]
  repeat' first | refine CX_rd [0] (hg) (by rfl) (by rfl) (by rfl) (by rfl) (by rfl) (by decide) (by rfl) (by rfl) (by rfl) ?_ | (with_reducible intro h; try simp only [h]) | (with_reducible refine And.intro ?_ ?_) | (change chk _ _ = true; rfl) | simp only [go_sem, seval, Vc_bool, mapSet_cons, mapSet_nil, mapAt_cons, mapAt_nil] | refine (GX_split rfl).2 ?_
  · have e : offd a ⟨cs, co, 1, cd, cp, cf⟩ = { a with off := co } := by rw [offd, if_neg (by simpa using h)]
    rw [e]
    exact Rt_T (H := [_]) _ (by rfl) (by rfl) (by rfl) (Nat.le_refl _)
  · have e : offd a ⟨cs, co, 1, cd, cp, cf⟩ = a := by rw [offd, if_pos (by simpa using h)]
    rw [e]
    exact Rt_T (H := [_]) _ (by rfl) (by rfl) (by rfl) (Nat.le_refl _)
theorem c97_3 {s : Station} {slot : Int} {c : TCell} {a : Action} (hk : c.kind = 3) (hg : ACalls prog 46 [.ptr 0 0 0 0] [.cells 0 21 77 true [wEnc s slot c]] (.agg a.enc) [.cells 0 21 77 true [wEnc s slot c]]) :
    ACalls prog 19 [.ptr 0 0 0 0] [.cells 0 21 77 true [wEnc s slot c]] (.agg (offd a c).enc) [.cells 0 21 77 true [wEnc s slot c]] := by
  rcases c with ⟨cs, co, ck, cd, cp, cf⟩
  obtain rfl : ck = 3 := hk
  refine calls_of hmx func19 (by kernel_rfl) (c := f19.body.getD .skip) rfl e97 (rs := [(.cell 2 true 14)]) (by kernel_rfl) (by simp [ntmps19]) ?_
  simp only [c97, argS]
  simp only [go_sem, seval]
  repeat' first | refine CX_rd [0] (hg) (by rfl) (by rfl) (by rfl) (by rfl) (by rfl) (by decide) (by rfl) (by rfl) (by rfl) ?_ | (with_reducible intro h; try simp only [h]) | (with_reducible refine And.intro ?_ ?_) | (change chk _ _ = true; rfl) | simp only [go_sem, seval, Vc_bool, mapSet_cons, mapSet_nil, mapAt_cons, mapAt_nil] | refine (GX_split rfl).2 ?_
  · have e : offd a ⟨cs, co, 3, cd, cp, cf⟩ = { a with off := co } := by rw [offd, if_neg (by simpa using h)]
    rw [e]
    exact Rt_T (H := [_]) _ (by rfl) (by rfl) (by rfl) (Nat.le_refl _)
  · have e : offd a ⟨cs, co, 3, cd, cp, cf⟩ = a := by rw [offd, if_pos (by simpa using h)]
    rw [e]
    exact Rt_T (H := [_]) _ (by rfl) (by rfl) (by rfl) (Nat.le_refl _)
theorem c97_0 {s : Station} {slot : Int} {c : TCell} (hk : c.kind = 0) :
    ACalls prog 19 [.ptr 0 0 0 0] [.cells 0 21 77 true [wEnc s slot c]] (.agg Action.zero.enc) [.cells 0 21 77 true [wEnc s slot c]] := by
  rcases c with ⟨cs, co, ck, cd, cp, cf⟩
  obtain rfl : ck = 0 := hk
  refine calls_of hmx func19 (by kernel_rfl) (c := f19.body.getD .skip) rfl e97 (rs := [(.cell 2 true 14)]) (by kernel_rfl) (by simp [ntmps19]) ?_
  simp only [c97, argS]
  simp only [go_sem, seval]
  repeat' first | (with_reducible intro h; try simp only [h]) | (with_reducible refine And.intro ?_ ?_) | (change chk _ _ = true; rfl) | simp only [go_sem, seval, Vc_bool, mapSet_cons, mapSet_nil, mapAt_cons, mapAt_nil] | refine (GX_split rfl).2 ?_
  all_goals exact Rt_T (H := [_]) _ (by rfl) (by rfl) (by rfl) (Nat.le_refl _)

theorem chainE_mem {α : Type} {err : α → Int} {lt : α → α → Bool} {e : Int} (he : e ≠ 0) : ∀ (xs : List α) (p : Option α), chainE err lt e p xs = 0 → ∀ x ∈ xs, err x = 0
  | [], _, _, x, hx => by cases hx
  | y :: ys, p, h, x, hx => by
    have key : err y = 0 ∧ chainE err lt e (some y) ys = 0 := by
      cases p with
      | none =>
        simp only [chainE, Bool.false_eq_true, if_false] at h
        split at h
        · rename_i h1; exact absurd h h1
        · rename_i h1; exact ⟨by simpa using h1, h⟩
      | some p =>
        simp only [chainE] at h
        split at h
        · rename_i h1; exact absurd h h1
        · rename_i h1
          split at h
          · exact absurd h he
          · exact ⟨by simpa using h1, h⟩
    rcases List.mem_cons.1 hx with rfl | hx
    · exact key.1
    · exact chainE_mem he ys (some y) key.2 x hx
theorem cell_kind {t : Table} {c : TCell} (h : tabErr t = 0) (hc : c ∈ t.cells) : c.kind = 1 ∨ c.kind = 2 ∨ c.kind = 3 := by
  unfold tabErr at h
  split at h
  · cases h
  · split at h
    · cases h
    · have h1 := chainE_mem (by decide) _ _ h c hc
      unfold cellErr at h1
      split at h1
      · cases h1
      · rename_i h2
        simp only [Bool.or_eq_true, decide_eq_true_eq, not_or] at h2
        omega
theorem slot0 {s : Station} {slot : Int} (h : slotErr s slot = 0) : stOk s = true ∧ 0 ≤ slot ∧ slot ≤ 109951162 ∧ tabErr s.tab = 0 ∧ qErr s.q = 0 := by
  unfold slotErr at h
  split at h
  · cases h
  · split at h
    · cases h
    · rename_i h1 h2
      have h3 : stOk s = true := by simpa using h1
      simp only [Bool.or_eq_true, decide_eq_true_eq, not_or] at h2
      have h4 := h3
      simp only [stOk, pksOk, Bool.and_eq_true, decide_eq_true_eq] at h4
      exact ⟨h3, by omega, by omega, h4.1.1.1.1.1.1.1.1.1, h4.1.1.1.1.1.1.1.1.2.1⟩
theorem tabAt_mem {t : Table} {slot : Int} {c : TCell} (h : tabAt t slot = some c) : c ∈ t.cells := by
  unfold tabAt at h
  split at h
  · cases h
  · exact List.mem_of_find?_eq_some h
/-- What a station does, by its cell. -/
theorem plan_act {s : Station} {slot : Int} {c : TCell} (h : tabAt s.tab slot = some c) : (plan s slot).act = if c.kind = 1 then offd (ctlSt s slot c) c else if c.kind = 2 then offd (agSt s c) c else if c.kind = 3 then offd (shSt s) c else ⟨2, c.off, Frame.zero⟩ := by
  have hm : ∀ (l : List Int), (l.any fun y => decide (c.peer = y)) = true ↔ c.peer ∈ l := by intro l; simp [List.any_eq_true]
  by_cases h1 : c.kind = 1
  · by_cases hs : c.send = true
    · cases hh : heldOf s.held c.flow with
      | none => simp [plan, h, h1, hs, hh, offd, ctlSt, Action.zero]
      | some x => by_cases hx : x.upto < slot ∨ c.peer ∈ x.acked <;> simp [plan, h, h1, hs, hh, hm, hx, offd, ctlSt, Action.zero]
    · have hs' : c.send = false := by simpa using hs
      simp [plan, h, h1, hs', offd, ctlSt]
  · by_cases h2 : c.kind = 2
    · by_cases hs : c.send = true
      · cases hh : qFirst s.q c.peer with
        | none => simp [plan, h, h2, hs, hh, offd, agSt, Action.zero]
        | some x => simp [plan, h, h2, hs, hh, offd, agSt]
      · have hs' : c.send = false := by simpa using hs
        simp [plan, h, h2, hs', offd, agSt]
    · by_cases h3 : c.kind = 3
      · cases hh : candidate s with
        | none => simp [plan, h, h3, hh, offd, shSt]
        | some x => by_cases hx : s.wait = 0 <;> simp [plan, h, h3, hh, hx, offd, shSt]
      · simp [plan, h, h1, h2, h3]
theorem c25_act {s : Station} {slot : Int} (hB : ClBd s) : ACalls prog 9 [.agg s.enc, .int .i64 slot] [] (.tup [.agg (actSt s slot).1.enc, .int .i64 (actSt s slot).2]) [] := by
  have hst := hB.st
  have h := c25_of (a := (plan s slot).act) hB (slot := slot) (fun hE => by
    obtain ⟨g1, g2, g3, g4, g5⟩ := slot0 hE
    cases hc : tabAt s.tab slot with
    | none =>
      have e1 : cellAt s slot = TCell.zero := by rw [cellAt, hc]; rfl
      have e2 : (plan s slot).act = Action.zero := by simp only [plan, hc]
      rw [e1, e2]
      exact c97_0 rfl
    | some c =>
      have e1 : cellAt s slot = c := by rw [cellAt, hc]; rfl
      rw [e1, plan_act hc]
      rcases cell_kind g4 (tabAt_mem hc) with hk | hk | hk
      · rw [if_pos hk]
        exact c97_1 hk (c192_ok hst.2.2.1 hst.2.2.2.1)
      · rw [if_neg (by omega), if_pos hk]
        exact c97_2 hk (c193_ok hst.2.1)
      · rw [if_neg (by omega), if_neg (by omega), if_pos hk]
        exact c97_3 hk (c194_ok hst.1 hst.2.1))
  have e : actSt s slot = (if slotErr s slot = 0 then (plan s slot).act else Action.zero, slotErr s slot) := by
    unfold actSt
    by_cases h0 : slotErr s slot = 0
    · rw [if_neg (by simpa using h0), if_pos h0, h0]
    · rw [if_pos h0, if_neg h0]
  rw [e]
  exact h

def plEnc (p : Plan) : List AVal := [.int .i64 p.act.kind, .int .i64 p.act.off, .int .i64 p.act.fr.kind, .int .i64 p.act.fr.src, .int .i64 p.act.fr.tgt, .int .i64 p.act.fr.list, .int .i64 p.act.fr.seq, .int .i64 p.act.fr.flow, .int .i64 p.act.fr.num, .int .i64 p.act.fr.err, .int .i64 p.act.fr.slot, .int .i64 p.act.fr.rank, .int .i64 p.act.fr.epoch, .str p.act.fr.data, .int .i64 p.cell.slot, .int .i64 p.cell.off, .int .i64 p.cell.kind, .bool p.cell.send, .int .i64 p.cell.peer, .int .i64 p.cell.flow, .int .i64 (p.pk.getD Packet.zero).id, .int .i64 (p.pk.getD Packet.zero).to, .int .i64 (p.pk.getD Packet.zero).pri, .int .i64 (p.pk.getD Packet.zero).born, .int .i64 (p.pk.getD Packet.zero).life, .str (p.pk.getD Packet.zero).data, .bool p.pk.isSome]
attribute [go_sem] plEnc
end Go.Av.T
