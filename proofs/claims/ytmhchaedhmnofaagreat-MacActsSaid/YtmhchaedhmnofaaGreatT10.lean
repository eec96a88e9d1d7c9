/- The seat: part T10. -/
import Derived.Test.YtmhchaedhmnofaaGreatT9
import Derived.KernelRfl
import Derived.Test.YtmhchaedhmnofaaGreatA7
set_option maxRecDepth 100000
set_option maxHeartbeats 1000000
set_option linter.unusedSimpArgs false
set_option linter.unusedVariables false
namespace Go.Av.T
open Go Go.Av Go.Av.Sp Go.Proofs.Tryz
def c104 : SC := (.seq (.reg [(.box 1 165 (.t 0)), (.alc 2 104 [(.int .i64 0), (.int .i64 0), (.int .i64 0), (.int .i64 0), (.int .i64 0), (.str (ByteArray.mk #[]))]), (.mv 3 (.c (.bool false)))]) (.seq (.reg [(.ld 5 (.t 1) false 1), (.nck 6 (.t 5)), (.fa 7 (.t 6) 0), (.fa 8 (.t 7) 3), (.fa 9 (.t 8) 1), (.ld 10 (.t 9) false 1), (.mkf 11 207 [] [(.t 1)]), (.call (some 12) (.c (.func 206 [] [])) [(.t 10), (.t 11)]), (.mv 4 (.t 12))]) (.seq (.seq (.reg [(.mv 13 (.t 4)), (.bin 14 .lss (.t 13) (.c (.int .i64 0)))]) (.cond (.t 14) (.seq (.reg [(.bld 15 [(.int .i64 0), (.int .i64 0), (.int .i64 0), (.int .i64 0), (.int .i64 0), (.str (ByteArray.mk #[]))] []), (.st (.t 2) (.t 15) 6), (.mv 3 (.c (.bool false)))]) .ret) .skip)) (.seq (.reg [(.ld 16 (.t 1) false 1), (.nck 17 (.t 16)), (.fa 18 (.t 17) 0), (.fa 19 (.t 18) 3), (.fa 20 (.t 19) 1), (.ld 21 (.t 20) false 1), (.mv 22 (.t 4)), (.ia 23 (.t 21) (.t 22) 6), (.ld 24 (.t 23) true 6), (.st (.t 2) (.t 24) 6), (.mv 3 (.c (.bool true)))]) .ret))))
theorem e104 : compC prog f104.ntmps (f104.body.getD .skip) = c104 := by kernel_rfl
def c207 : SC := (.seq (.reg [(.box 2 104 (.t 0)), (.mv 3 (.c (.bool false)))]) (.seq (.reg [(.fa 4 (.t 2) 1), (.ld 5 (.t 4) false 1), (.bin 6 .eql (.t 5) (.c (.int .i64 (-1)))), (.mv 7 (.t 6)), (.g 7 false (some 8) (.ld 8 (.t 1) false 1)), (.g 7 false (some 9) (.nck 9 (.t 8))), (.g 7 false (some 10) (.fa 10 (.t 9) 0)), (.g 7 false (some 11) (.fa 11 (.t 10) 0)), (.g 7 false (some 12) (.fa 12 (.t 11) 2)), (.g 7 false (some 13) (.ld 13 (.t 12) false 1)), (.g 7 false (some 14) (.mkf 14 209 [] [(.t 2)])), (.g 7 false (some 15) (.call (some 15) (.c (.func 208 [] [])) [(.t 13), (.t 14)])), (.g 7 false (some 16) (.not 16 (.t 15))), (.pick 17 (.t 7) (.c (.bool true)) (.t 16)), (.mv 3 (.t 17))]) .ret))
theorem e207 : compC prog f207.ntmps (f207.body.getD .skip) = c207 := by kernel_rfl
def c209 : SC := (.seq (.reg [(.box 2 57 (.t 0)), (.mv 3 (.c (.bool false)))]) (.seq (.reg [(.fa 4 (.t 2) 2), (.ld 5 (.t 4) false 1), (.bin 6 .eql (.t 5) (.c (.int .i64 2))), (.mv 7 (.t 6)), (.g 7 true (some 8) (.fa 8 (.t 2) 3)), (.g 7 true (some 9) (.ld 9 (.t 8) false 1)), (.pick 10 (.t 7) (.t 9) (.c (.bool false))), (.mv 11 (.t 10)), (.g 11 true (some 12) (.fa 12 (.t 2) 4)), (.g 11 true (some 13) (.ld 13 (.t 12) false 1)), (.g 11 true (some 14) (.fa 14 (.t 1) 1)), (.g 11 true (some 15) (.ld 15 (.t 14) false 1)), (.g 11 true (some 16) (.bin 16 .eql (.t 13) (.t 15))), (.pick 17 (.t 11) (.t 16) (.c (.bool false))), (.mv 3 (.t 17))]) .ret))
theorem e209 : compC prog f209.ntmps (f209.body.getD .skip) = c209 := by kernel_rfl
def candP (s : Station) (p : Packet) : Bool := decide (p.to = -1) || !(s.tab.cells.any fun c => decide (c.kind = 2) && c.send && decide (c.peer = p.to))
theorem c209_ok {y : TCell} {p : Packet} : ACalls prog 209 ([] ++ [.agg y.enc] ++ [.ptr 0 0 0 0]) [.cells 0 6 104 true [p.enc]] (.bool (decide (y.kind = 2) && y.send && decide (y.peer = p.to))) [.cells 0 6 104 true [p.enc]] := by
  refine calls_of hmx func209 (by kernel_rfl) (c := f209.body.getD .skip) rfl e209 (rs := [(.t 3)]) (by kernel_rfl) (by simp [ntmps209]) ?_
  simp only [c209, argS, List.nil_append, List.singleton_append]
  simp only [go_sem, seval]
  repeat' first | (with_reducible intro h; try simp only [h]) | (with_reducible refine And.intro ?_ ?_) | (change chk _ _ = true; rfl) | simp only [go_sem, seval, Vc_bool] | refine (GX_split rfl).2 ?_
  all_goals exact Rt_T (H := [_]) _ (by rfl) (by rfl) (by rfl) (Nat.le_refl _)

theorem c207_ok {s : Station} {slot : Int} {c : TCell} {p : Packet} (hL : s.tab.cells.length < 2 ^ 62) : ACalls prog 207 ([] ++ [.agg p.enc] ++ [.ptr 1 0 0 0]) [.cells 0 21 176 true [wEnc s slot c], .cells 0 1 165 true [[.ptr 0 0 0 0]]] (.bool (candP s p)) [.cells 0 21 176 true [wEnc s slot c], .cells 0 1 165 true [[.ptr 0 0 0 0]]] := by
  refine calls_of hmx func207 (by kernel_rfl) (c := f207.body.getD .skip) rfl e207 (rs := [(.t 3)]) (by kernel_rfl) (by simp [ntmps207]) ?_
  simp only [c207, argS, List.nil_append, List.singleton_append]
  cases h0 : decide (p.to = -1)
  · have e : candP s p = !(s.tab.cells.any fun y => decide (y.kind = 2) && y.send && decide (y.peer = p.to)) := by rw [candP, h0, Bool.false_or]
    rw [e]
    repeat' first | (with_reducible intro h; try simp only [h]) | (with_reducible refine And.intro ?_ ?_) | (change chk _ _ = true; rfl) | simp only [go_sem, seval, Vc_bool, h0] | refine (GX_split rfl).2 ?_
    refine CX_rd [2] (c208_has (en := TCell.enc) (xs := s.tab.cells) (p := fun y => decide (y.kind = 2) && y.send && decide (y.peer = p.to)) (caps := [.ptr 0 0 0 0]) (first := []) (g := 209) hL (fun _ _ => by rfl) (fun _ _ => by rfl) (by rfl) (by rfl) (fun y _ => c209_ok (p := p))) (by rfl) (by rfl) (by rfl) (by rfl) (by rfl) (by decide) (by rfl) (by rfl) (by rfl) ?_
    repeat' first | (with_reducible intro h; try simp only [h]) | (with_reducible refine And.intro ?_ ?_) | (change chk _ _ = true; rfl) | simp only [go_sem, seval, Vc_bool] | refine (GX_split rfl).2 ?_
    exact Rt_T (H := [_, _]) _ (by rfl) (by rfl) (by rfl) (Nat.le_refl _)
  · have e : candP s p = true := by rw [candP, h0, Bool.true_or]
    rw [e]
    repeat' first | (with_reducible intro h; try simp only [h]) | (with_reducible refine And.intro ?_ ?_) | (change chk _ _ = true; rfl) | simp only [go_sem, seval, Vc_bool, h0] | refine (GX_split rfl).2 ?_
    exact Rt_T (H := [_, _]) _ (by rfl) (by rfl) (by rfl) (Nat.le_refl _)
theorem c104_ok {s : Station} {slot : Int} {c : TCell} (hC : s.tab.cells.length < 2 ^ 62) (hL : s.q.pk.length < 2 ^ 62) : ACalls prog 104 [.ptr 0 0 0 0] [.cells 0 21 176 true [wEnc s slot c]] (oPk (candidate s)) [.cells 0 21 176 true [wEnc s slot c]] := by
  refine calls_of hmx func104 (by kernel_rfl) (c := f104.body.getD .skip) rfl e104 (rs := [(.cell 2 true 6), (.t 3)]) (by kernel_rfl) (by simp [ntmps104]) ?_
  simp only [c104, argS]
  have hcand : candidate s = s.q.pk.find? (candP s) := rfl
  rw [hcand]
  repeat' first | (with_reducible intro h; try simp only [h]) | (with_reducible refine And.intro ?_ ?_) | (change chk _ _ = true; rfl) | simp only [go_sem, seval, Vc_bool] | refine (GX_split rfl).2 ?_
  refine CX_rd [0, 1] (c206_idx (en := Packet.enc) (xs := s.q.pk) (p := candP s) (caps := [.ptr 1 0 0 0]) (first := []) (g := 207) hL (fun _ _ => by rfl) (fun _ _ => by rfl) (by rfl) (by rfl) (fun p _ => c207_ok (s := s) (slot := slot) (c := c) (p := p) hC)) (by rfl) (by rfl) (by rfl) (by rfl) (by rfl) (by decide) (by rfl) (by rfl) (by rfl) ?_
  rcases idxFrom_find (candP s) s.q.pk with ⟨h1, h2⟩ | ⟨i, x, h1, h2, h3, h4, h5⟩
  · rw [h2]
    repeat' first | (with_reducible intro h; try simp only [h]) | (with_reducible refine And.intro ?_ ?_) | (change chk _ _ = true; rfl) | simp only [go_sem, seval, Vc_bool, h1] | refine (GX_split rfl).2 ?_
    exact Rt_T (H := [_]) _ (by rfl) (by rfl) (by rfl) (Nat.le_refl _)
  · rw [h4]
    have e2 : (s.q.pk.map Packet.enc)[i]? = some x.enc := by rw [List.getElem?_map, h1]; rfl
    have e3 : decide ((i : Int) < 0) = false := by simp
    repeat' first | (with_reducible intro h; try simp only [h]) | (with_reducible refine And.intro ?_ ?_) | (change chk _ _ = true; rfl) | simp only [go_sem, seval, Vc_bool, h3, e2, e3, Int.toNat_natCast, Int.natCast_nonneg] | refine (GX_split rfl).2 ?_
    exact Rt_T (H := [_]) _ (by rfl) (by rfl) (by rfl) (Nat.le_refl _)

theorem c207n_ok {s : Station} {slot : Int} {c : TCell} {p : Packet} (hL : s.tab.cells.length < 2 ^ 62) : ACalls prog 207 ([] ++ [.agg p.enc] ++ [.ptr 2 0 0 0]) [.cells 0 21 176 true [wEncN s 1 slot c], .cells 1 2 160 false (s.seen.map Seen.enc), .cells 0 1 165 true [[.ptr 0 0 0 0]]] (.bool (candP s p)) [.cells 0 21 176 true [wEncN s 1 slot c], .cells 1 2 160 false (s.seen.map Seen.enc), .cells 0 1 165 true [[.ptr 0 0 0 0]]] := by
  refine calls_of hmx func207 (by kernel_rfl) (c := f207.body.getD .skip) rfl e207 (rs := [(.t 3)]) (by kernel_rfl) (by simp [ntmps207]) ?_
  simp only [c207, argS, List.nil_append, List.singleton_append]
  cases h0 : decide (p.to = -1)
  · have e : candP s p = !(s.tab.cells.any fun y => decide (y.kind = 2) && y.send && decide (y.peer = p.to)) := by rw [candP, h0, Bool.false_or]
    rw [e]
    repeat' first | (with_reducible intro h; try simp only [h]) | (with_reducible refine And.intro ?_ ?_) | (change chk _ _ = true; rfl) | simp only [go_sem, seval, Vc_bool, h0] | refine (GX_split rfl).2 ?_
    refine CX_rd [3] (c208_has (en := TCell.enc) (xs := s.tab.cells) (p := fun y => decide (y.kind = 2) && y.send && decide (y.peer = p.to)) (caps := [.ptr 0 0 0 0]) (first := []) (g := 209) hL (fun _ _ => by rfl) (fun _ _ => by rfl) (by rfl) (by rfl) (fun y _ => c209_ok (p := p))) (by rfl) (by rfl) (by rfl) (by rfl) (by rfl) (by decide) (by rfl) (by rfl) (by rfl) ?_
    repeat' first | (with_reducible intro h; try simp only [h]) | (with_reducible refine And.intro ?_ ?_) | (change chk _ _ = true; rfl) | simp only [go_sem, seval, Vc_bool] | refine (GX_split rfl).2 ?_
    exact Rt_T (H := [_, _, _]) _ (by rfl) (by rfl) (by rw [List.all_cons, List.all_cons, List.all_cons, List.all_nil, Bool.and_true, lt_seen, Bool.true_and]; rfl) (Nat.le_refl _)
  · have e : candP s p = true := by rw [candP, h0, Bool.true_or]
    rw [e]
    repeat' first | (with_reducible intro h; try simp only [h]) | (with_reducible refine And.intro ?_ ?_) | (change chk _ _ = true; rfl) | simp only [go_sem, seval, Vc_bool, h0] | refine (GX_split rfl).2 ?_
    exact Rt_T (H := [_, _, _]) _ (by rfl) (by rfl) (by rw [List.all_cons, List.all_cons, List.all_cons, List.all_nil, Bool.and_true, lt_seen, Bool.true_and]; rfl) (Nat.le_refl _)
theorem c104n_ok {s : Station} {slot : Int} {c : TCell} (hC : s.tab.cells.length < 2 ^ 62) (hL : s.q.pk.length < 2 ^ 62) : ACalls prog 104 [.ptr 0 0 0 0] [.cells 0 21 176 true [wEncN s 1 slot c], .cells 1 2 160 false (s.seen.map Seen.enc)] (oPk (candidate s)) [.cells 0 21 176 true [wEncN s 1 slot c], .cells 1 2 160 false (s.seen.map Seen.enc)] := by
  refine calls_of hmx func104 (by kernel_rfl) (c := f104.body.getD .skip) rfl e104 (rs := [(.cell 2 true 6), (.t 3)]) (by kernel_rfl) (by simp [ntmps104]) ?_
  simp only [c104, argS]
  have hcand : candidate s = s.q.pk.find? (candP s) := rfl
  rw [hcand]
  repeat' first | (with_reducible intro h; try simp only [h]) | (with_reducible refine And.intro ?_ ?_) | (change chk _ _ = true; rfl) | simp only [go_sem, seval, Vc_bool] | refine (GX_split rfl).2 ?_
  refine CX_rd [0, 1, 2] (c206_idx (en := Packet.enc) (xs := s.q.pk) (p := candP s) (caps := [.ptr 2 0 0 0]) (first := []) (g := 207) hL (fun _ _ => by rfl) (fun _ _ => by rfl) (by rfl) (by rw [List.all_cons, List.all_cons, List.all_cons, List.all_nil, Bool.and_true, lt_seen, Bool.true_and]; rfl) (fun p _ => c207n_ok (s := s) (slot := slot) (c := c) (p := p) hC)) (by rfl) (by rfl) (by rfl) (by rw [List.all_cons, List.all_cons, List.all_cons, List.all_nil, Bool.and_true, lt_seen, Bool.true_and]; rfl) (by rfl) (by decide) (by rfl) (by rw [List.map_cons, List.map_cons, List.map_cons, List.map_nil, List.map_cons, List.map_cons, List.map_cons, List.map_nil, ren_seen]; rfl) (by rfl) ?_
  rcases idxFrom_find (candP s) s.q.pk with ⟨h1, h2⟩ | ⟨i, x, h1, h2, h3, h4, h5⟩
  · rw [h2]
    repeat' first | (with_reducible intro h; try simp only [h]) | (with_reducible refine And.intro ?_ ?_) | (change chk _ _ = true; rfl) | simp only [go_sem, seval, Vc_bool, h1] | refine (GX_split rfl).2 ?_
    exact Rt_T (H := [_, _]) _ (by rfl) (by rfl) (by rw [List.all_cons, List.all_cons, List.all_nil, Bool.and_true, lt_seen, Bool.and_true]; rfl) (Nat.le_refl _)
  · rw [h4]
    have e2 : (s.q.pk.map Packet.enc)[i]? = some x.enc := by rw [List.getElem?_map, h1]; rfl
    have e3 : decide ((i : Int) < 0) = false := by simp
    repeat' first | (with_reducible intro h; try simp only [h]) | (with_reducible refine And.intro ?_ ?_) | (change chk _ _ = true; rfl) | simp only [go_sem, seval, Vc_bool, h3, e2, e3, Int.toNat_natCast, Int.natCast_nonneg] | refine (GX_split rfl).2 ?_
    exact Rt_T (H := [_, _]) _ (by rfl) (by rfl) (by rw [List.all_cons, List.all_cons, List.all_nil, Bool.and_true, lt_seen, Bool.and_true]; rfl) (Nat.le_refl _)

end Go.Av.T
set_option maxRecDepth 100000
set_option maxHeartbeats 1000000
set_option linter.unusedSimpArgs false
set_option linter.unusedVariables false
namespace Go.Av.T
open Go Go.Av Go.Av.Sp Go.Proofs.Tryz
def c28 : SC := (.seq (.reg [(.box 3 31 (.t 0)), (.box 5 48 (.t 2)), (.alc 6 31 [(.int .i64 0), (.int .i64 0), .nil, (.int .i64 0), .nil, .nil, .nil, (.int .i64 0), (.int .i64 0), (.int .i64 0), (.int .i64 0), (.int .i64 0), (.int .i64 0), (.int .i64 0)]), (.alc 7 51 [(.bool false), (.bool false), (.int .i64 0), (.int .i64 0), (.int .i64 0), (.int .i64 0), (.int .i64 0), (.int .i64 0), (.int .i64 0), (.int .i64 0), (.int .i64 0), (.int .i64 0), (.int .i64 0), (.str (ByteArray.mk #[]))]), (.mv 8 (.c (.int .i64 0)))]) (.seq (.reg [(.ld 17 (.t 3) true 14), (.mv 18 (.t 1)), (.call (some 19) (.c (.func 96 [] [])) [(.t 17), (.t 18)]), (.mv 16 (.t 19)), (.ext 20 (.t 16) 0), (.ext 21 (.t 16) 1), (.mv 9 (.t 20)), (.mv 10 (.t 21))]) (.seq (.seq (.reg [(.mv 22 (.t 10)), (.bin 23 .neq (.t 22) (.c (.int .i64 0)))]) (.cond (.t 23) (.seq (.reg [(.bld 24 [(.int .i64 0), (.int .i64 0), .nil, (.int .i64 0), .nil, .nil, .nil, (.int .i64 0), (.int .i64 0), (.int .i64 0), (.int .i64 0), (.int .i64 0), (.int .i64 0), (.int .i64 0)] []), (.bld 25 [(.bool false), (.bool false), (.int .i64 0), (.int .i64 0), (.int .i64 0), (.int .i64 0), (.int .i64 0), (.int .i64 0), (.int .i64 0), (.int .i64 0), (.int .i64 0), (.int .i64 0), (.int .i64 0), (.str (ByteArray.mk #[]))] []), (.mv 26 (.t 10)), (.st (.t 6) (.t 24) 14), (.st (.t 7) (.t 25) 14), (.mv 8 (.t 26))]) .ret) .skip)) (.seq (.reg [(.bld 27 [(.bool false), (.bool false), (.int .i64 0), (.int .i64 0), (.int .i64 0), (.int .i64 0), (.int .i64 0), (.int .i64 0), (.int .i64 0), (.int .i64 0), (.int .i64 0), (.int .i64 0), (.int .i64 0), (.str (ByteArray.mk #[]))] []), (.alc 11 51 [(.bool false), (.bool false), (.int .i64 0), (.int .i64 0), (.int .i64 0), (.int .i64 0), (.int .i64 0), (.int .i64 0), (.int .i64 0), (.int .i64 0), (.int .i64 0), (.int .i64 0), (.int .i64 0), (.str (ByteArray.mk #[]))]), (.st (.t 11) (.t 27) 14)]) (.seq (.seq (.reg [(.mv 28 (.t 9)), (.call (some 29) (.c (.func 97 [] [])) [(.t 28)]), (.alc 12 43 [(.int .i64 0), (.int .i64 0), (.int .i64 0), (.int .i64 0), (.int .i64 0), (.int .i64 0), (.int .i64 0), (.int .i64 0), (.int .i64 0), (.int .i64 0), (.int .i64 0), (.int .i64 0), (.int .i64 0), (.str (ByteArray.mk #[]))]), (.st (.t 12) (.t 29) 14)]) (.block 0 (.seq (.reg [(.fa 31 (.t 12) 0), (.ld 32 (.t 31) false 1), (.bin 33 .eql (.t 32) (.c (.int .i64 1))), (.mv 34 (.t 33)), (.g 34 true (some 35) (.fa 35 (.t 12) 2)), (.g 34 true (some 36) (.fa 36 (.t 35) 0)), (.g 34 true (some 37) (.ld 37 (.t 36) false 1)), (.g 34 true (some 38) (.bin 38 .eql (.t 37) (.c (.int .i64 1)))), (.pick 39 (.t 34) (.t 38) (.c (.bool false))), (.mv 30 (.t 39))]) (.cond (.t 30) (.seq (.reg [(.fa 40 (.t 5) 0), (.ld 41 (.t 40) false 1)]) (.cond (.t 41) (.seq (.regD [(.mv 42 (.t 9)), (.nck 43 (.t 42)), (.fa 44 (.t 43) 0), (.fa 45 (.t 44) 5), (.ld 46 (.t 45) false 1), (.mv 47 (.t 9)), (.fa 48 (.t 12) 2), (.fa 49 (.t 48) 5), (.ld 50 (.t 49) false 1), (.call (some 51) (.c (.func 101 [] [])) [(.t 47), (.t 50)]), (.ia 52 (.t 46) (.t 51) 5), (.mv 13 (.t 52))] [(4, 9)]) (.regD [(.mv 53 (.t 13)), (.mv 54 (.t 13)), (.nck 55 (.t 54)), (.fa 56 (.t 55) 4), (.ld 57 (.t 56) false 1), (.fa 58 (.t 12) 2), (.fa 59 (.t 58) 2), (.ld 60 (.t 59) false 1), (.call (some 61) (.c (.func 102 [] [])) [(.t 57), (.t 60)]), (.nck 62 (.t 53)), (.fa 63 (.t 62) 4), (.st (.t 63) (.t 61) 1)] [])) .skip)) (.seq (.reg [(.fa 65 (.t 12) 0), (.ld 66 (.t 65) false 1), (.bin 67 .eql (.t 66) (.c (.int .i64 1))), (.mv 64 (.t 67))]) (.cond (.t 64) (.reg [(.mv 68 (.t 9)), (.fa 69 (.t 5) 0), (.ld 70 (.t 69) false 1), (.call (some 71) (.c (.func 103 [] [])) [(.t 68), (.t 70)])]) (.seq (.reg [(.fa 73 (.t 12) 0), (.ld 74 (.t 73) false 1), (.bin 75 .eql (.t 74) (.c (.int .i64 2))), (.mv 72 (.t 75))]) (.cond (.t 72) (.seq (.seq (.reg [(.mv 77 (.t 9)), (.call (some 78) (.c (.func 104 [] [])) [(.t 77)]), (.mv 76 (.t 78)), (.ext 79 (.t 76) 0), (.ext 80 (.t 76) 1), (.alc 14 104 [(.int .i64 0), (.int .i64 0), (.int .i64 0), (.int .i64 0), (.int .i64 0), (.str (ByteArray.mk #[]))]), (.st (.t 14) (.t 79) 6), (.mv 15 (.t 80))]) (.seq (.reg [(.mv 81 (.t 15)), (.mv 82 (.t 81)), (.g 82 true (some 83) (.mv 83 (.t 9))), (.g 82 true (some 84) (.nck 84 (.t 83))), (.g 82 true (some 85) (.fa 85 (.t 84) 15)), (.g 82 true (some 86) (.fa 86 (.t 85) 2)), (.g 82 true (some 87) (.ld 87 (.t 86) false 1)), (.g 82 true (some 88) (.bin 88 .eql (.t 87) (.c (.int .i64 3)))), (.pick 89 (.t 82) (.t 88) (.c (.bool false)))]) (.cond (.t 89) (.reg [(.mv 90 (.t 9)), (.nck 91 (.t 90)), (.fa 92 (.t 91) 0), (.fa 93 (.t 92) 12), (.ld 94 (.t 93) false 1), (.bin 95 .sub (.t 94) (.c (.int .i64 1))), (.nck 96 (.t 90)), (.fa 97 (.t 96) 0), (.fa 98 (.t 97) 12), (.st (.t 98) (.t 95) 1)]) .skip))) (.seq (.reg [(.fa 99 (.t 5) 1), (.ld 100 (.t 99) false 1)]) (.cond (.t 100) (.reg [(.mv 101 (.t 9)), (.fa 102 (.t 5) 2), (.ld 103 (.t 102) true 12), (.call (some 104) (.c (.func 105 [] [])) [(.t 101), (.t 103)]), (.st (.t 11) (.t 104) 14)]) .skip))) .skip)))))))) (.seq (.regD [(.mv 105 (.t 9)), (.nck 106 (.t 105)), (.fa 107 (.t 106) 0), (.ld 108 (.t 107) true 14), (.ld 109 (.t 11) true 14), (.st (.t 6) (.t 108) 14), (.st (.t 7) (.t 109) 14), (.mv 8 (.c (.int .i64 0)))] [(4, 5)]) .ret))))))
theorem e28 : compC prog f28.ntmps (f28.body.getD .skip) = c28 := by kernel_rfl
theorem c28_err {s : Station} {slot : Int} {r : Sp.Result} (hB : ClBd s) (hE : slotErr s slot ≠ 0) : ACalls prog 28 [.agg s.enc, .int .i64 slot, .agg r.enc] [] (.tup [.agg Station.zero.enc, .agg Up.zero.enc, .int .i64 (slotErr s slot)]) [] := by
  have e : decide (slotErr s slot = 0) = false := by simpa using hE
  refine calls_of hmx func28 (by kernel_rfl) (c := f28.body.getD .skip) rfl e28 (rs := [(.cell 6 true 14), (.cell 7 true 14), (.t 8)]) (by kernel_rfl) (by simp [ntmps28]) ?_
  simp only [c28, argS]
  repeat' first | refine CX_pure (c96_err hB hE) rfl rfl rfl rfl ?_ | refine GX_call (fun _ => (c96_err hB hE)) (by rfl) (by intro h; simp only [h]; rfl) (by rfl) (by rfl) ?_ | (with_reducible intro h; try simp only [h]) | (with_reducible refine And.intro ?_ ?_) | (change chk _ _ = true; rfl) | simp only [go_sem, seval, Vc_bool, e] | refine (GX_split rfl).2 ?_
  refine Rt.gs (Gs_tell (s' := [(6, .ptr 2 0 0 0), (7, .ptr 3 0 0 0), (8, .int .i64 (slotErr s slot))]) (H' := [.dead, .dead, .cells 0 14 31 true [Station.zero.enc], .cells 0 14 51 true [Up.zero.enc]]) ?_ ?_) (Rt_pure ?_ rfl)
  · repeat' (first | exact FzL.nil | refine FzL.cons ?_ ?_ | exact Fz.wk (Wk.refl _) | exact Fz.wk (Wk.nil _) | exact Fz.wk (Wk.emp _) | exact Fz.row0 _ _ _ _ | exact FzH.nil _ | exact FzO.refl _ | refine FzO.one ?_ | refine FzH.cons (by decide) ?_ ?_ | refine FzH.this rfl ?_ | exact FzO.dead (by simp) | (simp only [List.forall_mem_cons, List.not_mem_nil, false_implies, implies_true, and_true, go_sem, seval]) | refine And.intro ?_ ?_)
  · repeat' (first | exact FzL.nil | refine FzL.cons ?_ ?_ | exact Fz.wk (Wk.refl _) | exact Fz.wk (Wk.nil _) | exact Fz.wk (Wk.emp _) | exact Fz.row0 _ _ _ _ | exact FzH.nil _ | exact FzO.refl _ | refine FzO.one ?_ | refine FzH.cons (by decide) ?_ ?_ | refine FzH.this rfl ?_ | exact FzO.dead (by simp) | (simp only [List.forall_mem_cons, List.not_mem_nil, false_implies, implies_true, and_true, go_sem, seval]) | refine And.intro ?_ ?_)
  · rfl
theorem c28_sent {s s' : Station} {slot : Int} {r : Sp.Result} {a : Action} (hB : ClBd s) (hE : slotErr s slot = 0) (hA : ACalls prog 97 [.ptr 0 0 0 0] [.cells 0 21 176 true [wEnc s slot (cellAt s slot)]] (.agg a.enc) [.cells 0 21 176 true [wEnc s slot (cellAt s slot)]])
    (ha : a.kind = 1) (hf : a.fr.kind = 4) (h103 : ACalls prog 103 [.ptr 0 0 0 0, .bool r.acked] [.cells 0 21 176 true [wEnc s slot (cellAt s slot)]] (.tup []) [.cells 0 21 176 true [wEnc s' slot (cellAt s slot)]]) :
    ACalls prog 28 [.agg s.enc, .int .i64 slot, .agg r.enc] [] (.tup [.agg s'.enc, .agg Up.zero.enc, .int .i64 0]) [] := by
  rcases a with ⟨ak, ao, ⟨fk, f2, f3, f4, f5, f6, f7, f8, f9, f10, f11, f12⟩⟩
  obtain rfl : ak = 1 := ha
  obtain rfl : fk = 4 := hf
  refine calls_of hmx func28 (by kernel_rfl) (c := f28.body.getD .skip) rfl e28 (rs := [(.cell 6 true 14), (.cell 7 true 14), (.t 8)]) (by kernel_rfl) (by simp [ntmps28]) ?_
  simp only [c28, argS]
  repeat' first | (with_reducible intro h; try simp only [h]) | (with_reducible refine And.intro ?_ ?_) | (change chk _ _ = true; rfl) | simp only [go_sem, seval, Vc_bool] | refine (GX_split rfl).2 ?_
  refine CX_new (r1 := .tup [.ptr 4 0 0 0, .int .i64 0]) (c96_ok hB hE) rfl rfl rfl (by rfl) (by rfl) ?_
  repeat' first | refine CX_rd [4] (hA) (by rfl) (by rfl) (by rfl) (by rfl) (by rfl) (by decide) (by rfl) (by rfl) (by rfl) ?_ | refine CX_put 4 (h103) (by rfl) (by rfl) (by rfl) (by rfl) (by rfl) (by rfl) (by rfl) (by rfl) ?_ | (with_reducible intro h; try simp only [h]) | (with_reducible refine And.intro ?_ ?_) | (change chk _ _ = true; rfl) | simp only [go_sem, seval, Vc_bool] | refine (GX_split rfl).2 ?_
  exact Rt_pure (by rfl) (by rfl)
theorem c28_heard {s s' : Station} {slot : Int} {r : Sp.Result} {a : Action} {up : Sp.Up} (hB : ClBd s) (hE : slotErr s slot = 0) (hA : ACalls prog 97 [.ptr 0 0 0 0] [.cells 0 21 176 true [wEncN s 1 slot (cellAt s slot)], .cells 1 2 160 false (s.seen.map Seen.enc)] (.agg a.enc) [.cells 0 21 176 true [wEncN s 1 slot (cellAt s slot)], .cells 1 2 160 false (s.seen.map Seen.enc)])
    (ha : a.kind = 2) (hk : (cellAt s slot).kind ≠ 3) (hh : r.heard = true) (h105 : ACalls prog 105 [.ptr 0 0 0 0, .agg r.fr.enc] [.cells 0 21 176 true [wEncN s 1 slot (cellAt s slot)], .cells 1 2 160 false (s.seen.map Seen.enc)] (.agg up.enc) [.cells 0 21 176 true [wEnc s' slot (cellAt s slot)], .dead]) :
    ACalls prog 28 [.agg s.enc, .int .i64 slot, .agg r.enc] [] (.tup [.agg s'.enc, .agg up.enc, .int .i64 0]) [] := by
  have h96 := c96n_ok hB hE
  have h104 := c104n_ok (slot := slot) (c := cellAt s slot) hB.st.1 hB.st.2.1
  revert hA h105 h96 h104 hk
  generalize cellAt s slot = c
  rcases c with ⟨cs, co, ck, cd, cp, cf⟩
  intro hA (hk : ck ≠ 3) h105 h96 h104
  have k3 : decide (ck = 3) = false := by simpa using hk
  rcases a with ⟨ak, ao, ⟨fk, f2, f3, f4, f5, f6, f7, f8, f9, f10, f11, f12⟩⟩
  obtain rfl : ak = 2 := ha
  have hcl : ([.cells 0 21 176 true [wEncN s 1 slot ⟨cs, co, ck, cd, cp, cf⟩], .cells 1 2 160 false (s.seen.map Seen.enc)] : Heap).all (ltO 2) = true := by rw [List.all_cons, List.all_cons, List.all_nil, Bool.and_true, lt_seen, Bool.and_true]; rfl
  refine calls_of hmx func28 (by kernel_rfl) (c := f28.body.getD .skip) rfl e28 (rs := [(.cell 6 true 14), (.cell 7 true 14), (.t 8)]) (by kernel_rfl) (by simp [ntmps28]) ?_
  simp only [c28, argS]
  repeat' first | (with_reducible intro h; try simp only [h]) | (with_reducible refine And.intro ?_ ?_) | (change chk _ _ = true; rfl) | simp only [go_sem, seval, Vc_bool] | refine (GX_split rfl).2 ?_
  refine CX_w [] [] (r1 := .tup [.ptr 4 0 0 0, .int .i64 0]) (H1 := [_, _, _, _, .cells 0 21 176 true [wEncN s 5 slot ⟨cs, co, ck, cd, cp, cf⟩], .cells 1 2 160 false (s.seen.map Seen.enc)]) h96 (by rfl) (by rfl) (by rfl) (by rfl) (by rfl) (by decide) (by rfl) (by rfl) (Nat.zero_le _) trivial (by rfl) (by rfl) (by show _ ++ List.map _ [_, _] = _; rw [List.map_cons, List.map_cons, List.map_nil, ren_seen]; rfl) ?_
  repeat' first | refine CX_rd [4, 5] (hA) (by rfl) (by rfl) (by rfl) (by rw [List.all_cons, List.all_cons, List.all_nil, Bool.and_true, lt_seen, Bool.and_true]; rfl) (by rfl) (by decide) (by rfl) (by rw [List.map_cons, List.map_cons, List.map_nil, List.map_cons, List.map_cons, List.map_nil, ren_seen]; rfl) (by rfl) ?_ | (with_reducible intro h; try simp only [h]) | (with_reducible refine And.intro ?_ ?_) | (change chk _ _ = true; rfl) | simp only [go_sem, seval, Vc_bool] | refine (GX_split rfl).2 ?_
  cases hc : candidate s with
  | none =>
    rw [hc] at h104
    repeat' first | refine CX_rd [4, 5] (h104) (by rfl) (by rfl) (by rfl) (by rw [List.all_cons, List.all_cons, List.all_nil, Bool.and_true, lt_seen, Bool.and_true]; rfl) (by rfl) (by decide) (by rfl) (by rw [List.map_cons, List.map_cons, List.map_nil, List.map_cons, List.map_cons, List.map_nil, ren_seen]; rfl) (by rfl) ?_ | (with_reducible intro h; try simp only [h]) | (with_reducible refine And.intro ?_ ?_) | (change chk _ _ = true; rfl) | simp only [go_sem, seval, Vc_bool, oPk_none, hh, k3] | refine (GX_split rfl).2 ?_
    refine CX_put2 4 5 h105 (by rfl) (by rfl) (by rfl) (by rfl) lt_seen (by rfl) (by rfl) (by decide) (by rfl) ren_seen.symm (by rfl) (by rfl) (by rfl) ?_
    repeat' first | (with_reducible intro h; try simp only [h]) | (with_reducible refine And.intro ?_ ?_) | (change chk _ _ = true; rfl) | simp only [go_sem, seval, Vc_bool] | refine (GX_split rfl).2 ?_
    exact Rt_pure (by rfl) (by rfl)
  | some p =>
    rw [hc] at h104
    repeat' first | refine CX_rd [4, 5] (h104) (by rfl) (by rfl) (by rfl) (by rw [List.all_cons, List.all_cons, List.all_nil, Bool.and_true, lt_seen, Bool.and_true]; rfl) (by rfl) (by decide) (by rfl) (by rw [List.map_cons, List.map_cons, List.map_nil, List.map_cons, List.map_cons, List.map_nil, ren_seen]; rfl) (by rfl) ?_ | (with_reducible intro h; try simp only [h]) | (with_reducible refine And.intro ?_ ?_) | (change chk _ _ = true; rfl) | simp only [go_sem, seval, Vc_bool, oPk_some, hh, k3] | refine (GX_split rfl).2 ?_
    refine CX_put2 4 5 h105 (by rfl) (by rfl) (by rfl) (by rfl) lt_seen (by rfl) (by rfl) (by decide) (by rfl) ren_seen.symm (by rfl) (by rfl) (by rfl) ?_
    repeat' first | (with_reducible intro h; try simp only [h]) | (with_reducible refine And.intro ?_ ?_) | (change chk _ _ = true; rfl) | simp only [go_sem, seval, Vc_bool] | refine (GX_split rfl).2 ?_
    exact Rt_pure (by rfl) (by rfl)

end Go.Av.T
