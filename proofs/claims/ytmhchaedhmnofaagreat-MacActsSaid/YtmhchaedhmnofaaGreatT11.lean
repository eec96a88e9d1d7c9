/- The seat: part T11. -/
import Derived.Test.YtmhchaedhmnofaaGreatT10
import Derived.KernelRfl
set_option maxRecDepth 100000
set_option maxHeartbeats 1000000
set_option linter.unusedSimpArgs false
set_option linter.unusedVariables false
namespace Go.Av.T
open Go Go.Av Go.Av.Sp Go.Proofs.Tryz
def c155 : SC := (.seq (.reg [(.box 2 27 (.t 0)), (.box 3 104 (.t 1)), (.alc 4 27 [(.int .i64 0), .nil]), (.mv 5 (.c .nil)), (.mv 6 (.c (.int .i64 0)))]) (.seq (.seq (.reg [(.ld 12 (.t 2) true 2), (.call (some 13) (.c (.func 188 [] [])) [(.t 12)]), (.bin 14 .neq (.t 13) (.c (.int .i64 0)))]) (.cond (.t 14) (.seq (.reg [(.bld 15 [(.int .i64 0), .nil] []), (.st (.t 4) (.t 15) 2), (.mv 5 (.c .nil)), (.mv 6 (.c (.int .i64 1)))]) .ret) .skip)) (.seq (.seq (.reg [(.ld 16 (.t 3) true 6), (.call (some 17) (.c (.func 265 [] [])) [(.t 16)]), (.mv 7 (.t 17))]) (.seq (.reg [(.mv 18 (.t 7)), (.bin 19 .neq (.t 18) (.c (.int .i64 0)))]) (.cond (.t 19) (.seq (.reg [(.bld 20 [(.int .i64 0), .nil] []), (.mv 21 (.t 7)), (.st (.t 4) (.t 20) 2), (.mv 5 (.c .nil)), (.mv 6 (.t 21))]) .ret) .skip))) (.seq (.seq (.reg [(.ld 22 (.t 2) true 2), (.fa 23 (.t 3) 0), (.ld 24 (.t 23) false 1), (.call (some 25) (.c (.func 266 [] [])) [(.t 22), (.t 24)]), (.bin 26 .geq (.t 25) (.c (.int .i64 0)))]) (.cond (.t 26) (.seq (.reg [(.bld 27 [(.int .i64 0), .nil] []), (.st (.t 4) (.t 27) 2), (.mv 5 (.c .nil)), (.mv 6 (.c (.int .i64 6)))]) .ret) .skip)) (.seq (.reg [(.fa 28 (.t 2) 1), (.ld 29 (.t 28) false 1), (.call (some 30) (.c (.func 260 [] [])) [(.t 29)]), (.mv 8 (.t 30))]) (.seq (.reg [(.mv 9 (.c .nil))]) (.seq (.seq (.reg [(.mv 31 (.t 8)), (.len 32 false (.t 31)), (.bin 33 .sub (.t 32) (.c (.int .i64 1))), (.mv 10 (.t 33))]) (.seq (.reg [(.mv 34 (.t 8)), (.len 35 false (.t 34)), (.fa 36 (.t 2) 0), (.ld 37 (.t 36) false 1), (.bin 38 .eql (.t 35) (.t 37))]) (.cond (.t 38) (.seq (.seq (.regD [(.mv 39 (.t 8)), (.mv 40 (.t 10)), (.ia 41 (.t 39) (.t 40) 6), (.fa 42 (.t 41) 2), (.ld 43 (.t 42) false 1), (.fa 44 (.t 3) 2), (.ld 45 (.t 44) false 1), (.bin 46 .leq (.t 43) (.t 45))] []) (.cond (.t 46) (.seq (.reg [(.bld 47 [(.int .i64 0), .nil] []), (.st (.t 4) (.t 47) 2), (.mv 5 (.c .nil)), (.mv 6 (.c (.int .i64 13)))]) .ret) .skip)) (.regD [(.mv 48 (.t 9)), (.mv 49 (.t 8)), (.mv 50 (.t 10)), (.ia 51 (.t 49) (.t 50) 6), (.ld 52 (.t 51) true 6), (.bsl 53 104 6 [(.int .i64 0), (.int .i64 0), (.int .i64 0), (.int .i64 0), (.int .i64 0), (.str (ByteArray.mk #[]))] 1 [(0, (.t 52))]), (.app 54 104 6 56 (.t 48) (.t 53)), (.mv 55 (.t 8)), (.mv 56 (.t 10)), (.slc 57 6 (.t 55) none (some (.t 56)) none), (.mv 9 (.t 54)), (.mv 8 (.t 57))] [(5, 9), (6, 9)])) .skip))) (.seq (.reg [(.mv 58 (.t 8)), (.mkf 59 267 [] [(.t 3)]), (.call (some 60) (.c (.func 206 [] [])) [(.t 58), (.t 59)]), (.mv 11 (.t 60))]) (.seq (.seq (.reg [(.mv 61 (.t 11)), (.bin 62 .lss (.t 61) (.c (.int .i64 0)))]) (.cond (.t 62) (.reg [(.mv 63 (.t 8)), (.len 64 false (.t 63)), (.mv 11 (.t 64))]) .skip)) (.seq (.regD [(.fa 65 (.t 2) 0), (.ld 66 (.t 65) false 1), (.mv 67 (.t 8)), (.mv 68 (.t 11)), (.ld 69 (.t 3) true 6), (.bsl 70 104 6 [(.int .i64 0), (.int .i64 0), (.int .i64 0), (.int .i64 0), (.int .i64 0), (.str (ByteArray.mk #[]))] 1 [(0, (.t 69))]), (.call (some 71) (.c (.func 268 [] [])) [(.t 67), (.t 68), (.t 70)]), (.bld 72 [(.int .i64 0), .nil] [(0, 1, (.t 66)), (1, 1, (.t 71))]), (.mv 73 (.t 9)), (.st (.t 4) (.t 72) 2), (.mv 5 (.t 73)), (.mv 6 (.c (.int .i64 0)))] [(1, 5), (1, 6)]) .ret))))))))))
theorem e155 : compC prog f155.ntmps (f155.body.getD .skip) = c155 := by kernel_rfl
def c267 : SC := (.seq (.reg [(.box 2 104 (.t 0)), (.mv 3 (.c (.bool false)))]) (.seq (.reg [(.fa 4 (.t 2) 2), (.ld 5 (.t 4) false 1), (.fa 6 (.t 1) 2), (.ld 7 (.t 6) false 1), (.bin 8 .gtr (.t 5) (.t 7)), (.mv 3 (.t 8))]) .ret))
theorem e267 : compC prog f267.ntmps (f267.body.getD .skip) = c267 := by kernel_rfl
def c206L1 : SC := cIdxL 6
theorem lt_pk {l : List Packet} {m q : Nat} {fu : Bool} : ltO m (.cells q 6 104 fu (l.map Packet.enc)) = true := ltO_mono (Nat.zero_le m) (lt_map fun _ => by rfl)
theorem ren_pk {l : List Packet} {r : Nat → Nat} {q : Nat} {fu : Bool} : renO r (.cells q 6 104 fu (l.map Packet.enc)) = .cells q 6 104 fu (l.map Packet.enc) := renO_lt (m := 0) (fun id h => by omega) lt_pk
theorem c267_ok {y p : Packet} : ACalls prog 267 [.agg y.enc, .ptr 0 0 0 0] [.cells 0 6 104 true [p.enc]] (.bool (decide (p.pri < y.pri))) [.cells 0 6 104 true [p.enc]] := by
  refine calls_of hmx func267 (by kernel_rfl) (c := f267.body.getD .skip) rfl e267 (rs := [(.t 3)]) (by kernel_rfl) (by simp [ntmps267]) ?_
  simp only [c267, argS]
  repeat' first | (with_reducible intro h; try simp only [h]) | (with_reducible refine And.intro ?_ ?_) | (change chk _ _ = true; rfl) | simp only [go_sem, seval, Vc_bool] | refine (GX_split rfl).2 ?_
  exact Rt_T (H := [_]) _ (by rfl) (by rfl) (by rfl) (Nat.le_refl _)
theorem pk_lt2 {l : List Packet} {p : Packet} {q : Nat} : ([.cells q 6 104 false (l.map Packet.enc), .cells 0 6 104 true [p.enc]] : Heap).all (ltO 2) = true := by rw [List.all_cons, List.all_cons, List.all_nil, Bool.and_true, lt_pk, Bool.true_and]; rfl
theorem l206r (l : List Packet) (p : Packet) (q : Nat) (hL : l.length < 2 ^ 62) (k' : List It) (hk : ∀ zs, V prog f206.ntmps 2 (Ret [.t 4] 2 (.int .i64 (-1)) [.cells q 6 104 false (l.map Packet.enc), .cells 0 6 104 true [p.enc]]) k' zs [.cells q 6 104 false (l.map Packet.enc), .cells 0 6 104 true [p.enc]]) : ∀ (rest done : List Packet), l = done ++ rest →
    Lp prog f206.ntmps 2 (Ret [.t 4] 2 (.int .i64 (idxFrom (fun y : Packet => decide (p.pri < y.pri)) done.length rest)) [.cells q 6 104 false (l.map Packet.enc), .cells 0 6 104 true [p.enc]]) (cIdxL 6) (.blk 0 :: k') [(0, .row 0 q 0 l.length), (1, .func 267 [] [.ptr 1 0 0 0]), (7, .int .i64 l.length), (8, .int .i64 done.length)] [.cells q 6 104 false (l.map Packet.enc), .cells 0 6 104 true [p.enc]] := by
  intro rest
  induction rest with
  | nil =>
    intro done hd
    refine Lp.of_eq hmx (cIdxL.eq_1 6) ?_
    have h1 := rg_end hd
    simp only [go_sem, seval, h1]
    exact hk _
  | cons c rest ih =>
    intro done hd
    refine Lp.of_eq hmx (cIdxL.eq_1 6) ?_
    obtain ⟨h1, h2, h3, h4⟩ := rg_hd Packet.enc hd hL
    have ih' := ih _ h4
    have hlt : ((done.length : Int) < (l.length : Int)) = True := eq_true (by have := congrArg List.length hd; simp at this; omega)
    repeat' first | refine CX_rd [1] (c267_ok (y := c) (p := p)) (by rfl) (by rfl) (by rfl) (by rfl) (by rfl) (by decide) (by rfl) (by rfl) (by rfl) ?_ | (with_reducible intro h; try simp only [h]) | (with_reducible refine And.intro ?_ ?_) | (change chk _ _ = true; rfl) | simp only [go_sem, seval, Vc_bool, h1, h2, h3, hlt, Int.toNat_natCast, Int.natCast_nonneg, Nat.zero_add] | refine (GX_split rfl).2 ?_
    · have e : idxFrom (fun y : Packet => decide (p.pri < y.pri)) done.length (c :: rest) = done.length := by rw [idxFrom, if_pos h]
      rw [e]
      exact Rt_all (by rfl) (by rfl) pk_lt2 (Nat.le_refl _)
    · have e : idxFrom (fun y : Packet => decide (p.pri < y.pri)) done.length (c :: rest) = idxFrom (fun y : Packet => decide (p.pri < y.pri)) (done ++ [c]).length rest := by rw [idxFrom, if_neg (by simpa using h)]; simp
      rw [e]
      exact Lp.bkE0 ih' (by rfl) rfl
theorem c206r_ok {l : List Packet} {p : Packet} {q : Nat} (hL : l.length < 2 ^ 62) : ACalls prog 206 [.row 0 q 0 l.length, .func 267 [] [.ptr 1 0 0 0]] [.cells q 6 104 false (l.map Packet.enc), .cells 0 6 104 true [p.enc]] (.int .i64 (idxFrom (fun y : Packet => decide (p.pri < y.pri)) 0 l)) [.cells q 6 104 false (l.map Packet.enc), .cells 0 6 104 true [p.enc]] := by
  refine calls_of hmx func206 (by kernel_rfl) (c := f206.body.getD .skip) rfl e206 (rs := [(.t 4)]) (by kernel_rfl) (by simp [ntmps206]) ?_
  simp only [cIdx, argS]
  simp only [go_sem, seval, List.length_map]
  refine Lp.bkE0 (l206r l p q hL _ (fun s => ?_) l [] rfl) (by rfl) rfl
  simp only [go_sem, seval]
  exact Rt_all (by rfl) (by rfl) pk_lt2 (Nat.le_refl _)
def putIdx (l : List Packet) (pri : Int) : Nat := if idxFrom (fun y : Packet => decide (pri < y.pri)) 0 l < 0 then l.length else (idxFrom (fun y : Packet => decide (pri < y.pri)) 0 l).toNat
def putAt (l : List Packet) (p : Packet) : List Packet := l.take (putIdx l p.pri) ++ p :: l.drop (putIdx l p.pri)
theorem c155_put {q : Queue} {p : Packet} (hb : (q.pk.length + 1) * 56 ≤ 140737488355328) (hq : qErr q = 0) (hp : pkErr p = 0) (hn : pkIdx q.pk p.id = -1) (hf : (q.pk.length : Int) ≠ q.limit) :
    ACalls prog 155 [.agg q.enc, .agg p.enc] [] (.tup [.agg (Queue.enc ⟨q.limit, putAt q.pk p⟩), .nil, .int .i64 0]) [] := by
  have w1 : IntKind.i64.wrap ((q.pk.length : Int) - 1) = (q.pk.length : Int) - 1 := wrap_ok (by omega) (by omega)
  have f1 : decide ((q.pk.length : Int) = q.limit) = false := by simpa using hf
  refine calls_of hmx func155 (by kernel_rfl) (c := f155.body.getD .skip) rfl e155 (rs := [(.cell 4 true 2), (.t 5), (.t 6)]) (by kernel_rfl) (by simp [ntmps155]) ?_
  simp only [c155, argS]
  repeat' first | refine CX_pure (c188_ok (by omega)) rfl rfl rfl rfl ?_ | refine CX_pure (c265_ok) rfl rfl rfl rfl ?_ | refine CX_pure (c266_ok (by omega)) rfl rfl rfl rfl ?_ | refine GX_call (fun _ => (c188_ok (by omega))) (by rfl) (by intro h; simp only [h]; rfl) (by rfl) (by rfl) ?_ | refine GX_call (fun _ => (c265_ok)) (by rfl) (by intro h; simp only [h]; rfl) (by rfl) (by rfl) ?_ | refine GX_call (fun _ => (c266_ok (by omega))) (by rfl) (by intro h; simp only [h]; rfl) (by rfl) (by rfl) ?_ | (with_reducible intro h; try simp only [h]) | (with_reducible refine And.intro ?_ ?_) | (change chk _ _ = true; rfl) | simp only [go_sem, seval, Vc_bool, hq, hp, hn] | refine (GX_split rfl).2 ?_
  refine CX_new (r1 := .row 3 1 0 q.pk.length) (c260w_ok (xs := q.pk) (by omega)) rfl rfl rfl (by rw [List.all_cons, List.all_nil, Bool.and_true]; exact lt_pk) (by rfl) ?_
  repeat' first | (with_reducible intro h; try simp only [h]) | (with_reducible refine And.intro ?_ ?_) | (change chk _ _ = true; rfl) | simp only [go_sem, seval, Vc_bool, w1, f1] | refine (GX_split rfl).2 ?_
  refine CX_rd [3, 1] (c206r_ok (l := q.pk) (p := p) (q := 1) (by omega)) (by rfl) (by rfl) (by rfl) pk_lt2 (by rfl) (by decide) (by rfl) (by rw [List.map_cons, List.map_cons, List.map_nil, List.map_cons, List.map_cons, List.map_nil, ren_pk]; rfl) (by rfl) ?_
  rcases idxFrom_find (fun y : Packet => decide (p.pri < y.pri)) q.pk with ⟨h1, h2⟩ | ⟨i, x, h1, h2, h3, h4, h5⟩
  · have e : putAt q.pk p = q.pk.take q.pk.length ++ p :: q.pk.drop q.pk.length := by rw [putAt, putIdx, h1]; rfl
    rw [e]
    repeat' first | (with_reducible intro h; try simp only [h]) | (with_reducible refine And.intro ?_ ?_) | (change chk _ _ = true; rfl) | simp only [go_sem, seval, Vc_bool, h1] | refine (GX_split rfl).2 ?_
    refine CX_eat2 3 4 (c268_ok (xs := q.pk) (v := p) (i := q.pk.length) (q := 1) (Nat.le_refl _) hb) (by rfl) (by rfl) (by rfl) lt_pk (by rfl) (by decide) (by rfl) (by rfl) (by rfl) (by rfl) (by rfl) ?_
    repeat' first | (with_reducible intro h; try simp only [h]) | (with_reducible refine And.intro ?_ ?_) | (change chk _ _ = true; rfl) | simp only [go_sem, seval, Vc_bool] | refine (GX_split rfl).2 ?_
    exact Rt_pure (by rfl) (by rfl)
  · have e : putAt q.pk p = q.pk.take i ++ p :: q.pk.drop i := by rw [putAt, putIdx, h3, if_neg (by omega)]; rfl
    have e3 : decide ((i : Int) < 0) = false := by simp
    rw [e]
    repeat' first | (with_reducible intro h; try simp only [h]) | (with_reducible refine And.intro ?_ ?_) | (change chk _ _ = true; rfl) | simp only [go_sem, seval, Vc_bool, h3, e3] | refine (GX_split rfl).2 ?_
    refine CX_eat2 3 4 (c268_ok (xs := q.pk) (v := p) (i := i) (q := 1) (by omega) hb) (by rfl) (by rfl) (by rfl) lt_pk (by rfl) (by decide) (by rfl) (by rfl) (by rfl) (by rfl) (by rfl) ?_
    repeat' first | (with_reducible intro h; try simp only [h]) | (with_reducible refine And.intro ?_ ?_) | (change chk _ _ = true; rfl) | simp only [go_sem, seval, Vc_bool] | refine (GX_split rfl).2 ?_
    exact Rt_pure (by rfl) (by rfl)

end Go.Av.T
set_option maxRecDepth 100000
set_option maxHeartbeats 1000000
set_option linter.unusedSimpArgs false
set_option linter.unusedVariables false
namespace Go.Av.T
open Go Go.Av Go.Av.Sp Go.Proofs.Tryz
def c156 : SC := (.seq (.reg [(.box 1 31 (.t 0)), (.alc 2 31 [(.int .i64 0), (.int .i64 0), .nil, (.int .i64 0), .nil, .nil, .nil, (.int .i64 0), (.int .i64 0), (.int .i64 0), (.int .i64 0), (.int .i64 0), (.int .i64 0), (.int .i64 0)])]) (.seq (.seq (.reg [(.fa 3 (.t 1) 9), (.ld 4 (.t 3) false 1), (.bin 5 .geq (.t 4) (.c (.int .i64 0))), (.mv 6 (.t 5)), (.g 6 true (some 7) (.fa 7 (.t 1) 3)), (.g 6 true (some 8) (.ld 8 (.t 7) true 2)), (.g 6 true (some 9) (.fa 9 (.t 1) 9)), (.g 6 true (some 10) (.ld 10 (.t 9) false 1)), (.g 6 true (some 11) (.call (some 11) (.c (.func 84 [] [])) [(.t 8), (.t 10)])), (.g 6 true (some 12) (.not 12 (.t 11))), (.pick 13 (.t 6) (.t 12) (.c (.bool false)))]) (.cond (.t 13) (.reg [(.fa 14 (.t 1) 9), (.st (.t 14) (.c (.int .i64 (-1))) 1), (.fa 15 (.t 1) 10), (.st (.t 15) (.c (.int .i64 0)) 1)]) .skip)) (.seq (.reg [(.ld 16 (.t 1) true 14), (.st (.t 2) (.t 16) 14)]) .ret)))
theorem e156 : compC prog f156.ntmps (f156.body.getD .skip) = c156 := by kernel_rfl
def c47 : SC := (.seq (.reg [(.box 2 31 (.t 0)), (.box 3 104 (.t 1)), (.alc 4 31 [(.int .i64 0), (.int .i64 0), .nil, (.int .i64 0), .nil, .nil, .nil, (.int .i64 0), (.int .i64 0), (.int .i64 0), (.int .i64 0), (.int .i64 0), (.int .i64 0), (.int .i64 0)]), (.mv 5 (.c .nil)), (.mv 6 (.c (.int .i64 0)))]) (.seq (.seq (.reg [(.ld 10 (.t 2) true 14), (.call (some 11) (.c (.func 22 [] [])) [(.t 10)]), (.bin 12 .neq (.t 11) (.c (.int .i64 0)))]) (.cond (.t 12) (.seq (.reg [(.bld 13 [(.int .i64 0), (.int .i64 0), .nil, (.int .i64 0), .nil, .nil, .nil, (.int .i64 0), (.int .i64 0), (.int .i64 0), (.int .i64 0), (.int .i64 0), (.int .i64 0), (.int .i64 0)] []), (.st (.t 4) (.t 13) 14), (.mv 5 (.c .nil)), (.mv 6 (.c (.int .i64 1)))]) .ret) .skip)) (.seq (.reg [(.fa 15 (.t 2) 3), (.ld 16 (.t 15) true 2), (.ld 17 (.t 3) true 6), (.call (some 18) (.c (.func 155 [] [])) [(.t 16), (.t 17)]), (.mv 14 (.t 18)), (.ext 19 (.t 14) 0), (.ext 20 (.t 14) 1), (.ext 21 (.t 14) 2), (.alc 7 27 [(.int .i64 0), .nil]), (.st (.t 7) (.t 19) 2), (.mv 8 (.t 20)), (.mv 9 (.t 21))]) (.seq (.block 0 (.seq (.reg [(.mv 23 (.t 9)), (.bin 24 .neq (.t 23) (.c (.int .i64 0))), (.mv 22 (.t 24))]) (.cond (.t 22) (.seq (.reg [(.bld 25 [(.int .i64 0), (.int .i64 0), .nil, (.int .i64 0), .nil, .nil, .nil, (.int .i64 0), (.int .i64 0), (.int .i64 0), (.int .i64 0), (.int .i64 0), (.int .i64 0), (.int .i64 0)] []), (.mv 26 (.t 9)), (.st (.t 4) (.t 25) 14), (.mv 5 (.c .nil)), (.mv 6 (.t 26))]) .ret) (.seq (.reg [(.fa 28 (.t 3) 1), (.ld 29 (.t 28) false 1), (.fa 30 (.t 2) 0), (.fa 31 (.t 30) 0), (.ld 32 (.t 31) false 1), (.bin 33 .eql (.t 29) (.t 32)), (.mv 27 (.t 33))]) (.cond (.t 27) (.seq (.reg [(.bld 34 [(.int .i64 0), (.int .i64 0), .nil, (.int .i64 0), .nil, .nil, .nil, (.int .i64 0), (.int .i64 0), (.int .i64 0), (.int .i64 0), (.int .i64 0), (.int .i64 0), (.int .i64 0)] []), (.st (.t 4) (.t 34) 14), (.mv 5 (.c .nil)), (.mv 6 (.c (.int .i64 12)))]) .ret) (.seq (.reg [(.fa 36 (.t 3) 5), (.ld 37 (.t 36) false 1), (.len 38 true (.t 37)), (.bin 39 .gtr (.t 38) (.c (.int .i64 100))), (.mv 35 (.t 39))]) (.cond (.t 35) (.seq (.reg [(.bld 40 [(.int .i64 0), (.int .i64 0), .nil, (.int .i64 0), .nil, .nil, .nil, (.int .i64 0), (.int .i64 0), (.int .i64 0), (.int .i64 0), (.int .i64 0), (.int .i64 0), (.int .i64 0)] []), (.st (.t 4) (.t 40) 14), (.mv 5 (.c .nil)), (.mv 6 (.c (.int .i64 8)))]) .ret) .skip))))))) (.seq (.reg [(.ld 41 (.t 2) true 14), (.call (some 42) (.c (.func 152 [] [])) [(.t 41)]), (.st (.t 2) (.t 42) 14)]) (.seq (.reg [(.ld 43 (.t 7) true 2), (.fa 44 (.t 2) 3), (.st (.t 44) (.t 43) 2)]) (.seq (.reg [(.ld 45 (.t 2) true 14), (.call (some 46) (.c (.func 156 [] [])) [(.t 45)]), (.mv 47 (.t 8)), (.st (.t 4) (.t 46) 14), (.mv 5 (.t 47)), (.mv 6 (.c (.int .i64 0)))]) .ret)))))))
theorem e47 : compC prog f47.ntmps (f47.body.getD .skip) = c47 := by kernel_rfl
def settleG (s : Station) : Station := if (decide (0 ≤ s.trying) && !hasId s.q.pk s.trying) = true then { s with trying := -1, tries := 0 } else s
theorem c156_pf (s : Station) (hL : s.q.pk.length < 2 ^ 62) : ACalls prog 156 [.agg [.int .i64 s.tab.node, .int .i64 s.tab.len, .sl 6 (s.tab.cells.map TCell.enc), .int .i64 s.q.limit, .sl 6 (s.q.pk.map Packet.enc), .sl 5 (s.held.map Held.enc), .sl 2 (s.seen.map Seen.enc), .int .i64 s.list, .int .i64 s.seq, .int .i64 s.trying, .int .i64 s.tries, .int .i64 s.back, .int .i64 s.wait, .int .i64 s.seed]] [] (.agg (settleG s).enc) [] := by
  refine calls_of hmx func156 (by kernel_rfl) (c := f156.body.getD .skip) rfl e156 (rs := [(.cell 2 true 14)]) (by kernel_rfl) (by simp [ntmps156]) ?_
  simp only [c156, argS]
  repeat' first | refine CX_pure (c84_ok hL) rfl rfl rfl rfl ?_ | refine GX_call (fun _ => (c84_ok hL)) (by rfl) (by intro h; simp only [h]; rfl) (by rfl) (by rfl) ?_ | (with_reducible intro h; try simp only [h]) | (with_reducible refine And.intro ?_ ?_) | (change chk _ _ = true; rfl) | simp only [go_sem, seval, Vc_bool] | refine (GX_split rfl).2 ?_
  · have e : settleG s = { s with trying := -1, tries := 0 } := by rw [settleG, if_pos h]
    rw [e]
    exact Rt_pure (by rfl) (by rfl)
  · have e : settleG s = s := by rw [settleG, if_neg (by rw [h]; decide)]
    rw [e]
    exact Rt_pure (by rfl) (by rfl)
theorem c156_ok {s_tab_node : Int} {s_tab_len : Int} {s_tab_cells : List TCell} {s_q_limit : Int} {s_q_pk : List Packet} {s_held : List Held} {s_seen : List Seen} {s_list : Int} {s_seq : Int} {s_trying : Int} {s_tries : Int} {s_back : Int} {s_wait : Int} {s_seed : Int} (hL : s_q_pk.length < 2 ^ 62) : ACalls prog 156 [.agg [.int .i64 s_tab_node, .int .i64 s_tab_len, .sl 6 (s_tab_cells.map TCell.enc), .int .i64 s_q_limit, .sl 6 (s_q_pk.map Packet.enc), .sl 5 (s_held.map Held.enc), .sl 2 (s_seen.map Seen.enc), .int .i64 s_list, .int .i64 s_seq, .int .i64 s_trying, .int .i64 s_tries, .int .i64 s_back, .int .i64 s_wait, .int .i64 s_seed]] [] (.agg (settleG (⟨(⟨s_tab_node, s_tab_len, s_tab_cells⟩ : Table), (⟨s_q_limit, s_q_pk⟩ : Queue), s_held, s_seen, s_list, s_seq, s_trying, s_tries, s_back, s_wait, s_seed⟩ : Station)).enc) [] := c156_pf (⟨(⟨s_tab_node, s_tab_len, s_tab_cells⟩ : Table), (⟨s_q_limit, s_q_pk⟩ : Queue), s_held, s_seen, s_list, s_seq, s_trying, s_tries, s_back, s_wait, s_seed⟩ : Station) hL

theorem c47_put {s : Station} {p : Packet} (hB : ClBd s) (h0 : stOk s = true) (hb : (s.q.pk.length + 1) * 56 ≤ 140737488355328) (hp : pkErr p = 0) (hn : pkIdx s.q.pk p.id = -1) (hf : (s.q.pk.length : Int) ≠ s.q.limit) (ht : p.to ≠ s.tab.node) (hd : (p.data.size : Int) ≤ 100) :
    ACalls prog 47 [.agg s.enc, .agg p.enc] [] (.tup [.agg (settleG { s with q := ⟨s.q.limit, putAt s.q.pk p⟩ }).enc, .nil, .int .i64 0]) [] := by
  have hq : qErr s.q = 0 := by simp only [stOk, pksOk, Bool.and_eq_true, decide_eq_true_eq] at h0; exact h0.1.1.1.1.1.1.1.1.2.1
  have e1 : stErr s = 0 := by rw [stErr, if_pos h0]
  have e2 : decide (p.to = s.tab.node) = false := by simpa using ht
  have e3 : decide (100 < (p.data.size : Int)) = false := by simp; omega
  have hl : (putAt s.q.pk p).length < 2 ^ 62 := by
    have h1 : (putAt s.q.pk p).length ≤ s.q.pk.length + (s.q.pk.length + 1) := by
      simp only [putAt, List.length_append, List.length_cons, List.length_take, List.length_drop]; omega
    omega
  refine calls_of hmx func47 (by kernel_rfl) (c := f47.body.getD .skip) rfl e47 (rs := [(.cell 4 true 14), (.t 5), (.t 6)]) (by kernel_rfl) (by simp [ntmps47]) ?_
  simp only [c47, argS]
  repeat' first | refine CX_pure (c22_pf s hB.st) rfl rfl rfl rfl ?_ | refine CX_pure (c155_put hb hq hp hn hf) rfl rfl rfl rfl ?_ | refine CX_pure (c152_pf s hB) rfl rfl rfl rfl ?_ | refine CX_pure (c156_pf { s with q := ⟨s.q.limit, putAt s.q.pk p⟩ } hl) rfl rfl rfl rfl ?_ | refine GX_call (fun _ => (c22_pf s hB.st)) (by rfl) (by intro h; simp only [h]; rfl) (by rfl) (by rfl) ?_ | refine GX_call (fun _ => (c155_put hb hq hp hn hf)) (by rfl) (by intro h; simp only [h]; rfl) (by rfl) (by rfl) ?_ | refine GX_call (fun _ => (c152_pf s hB)) (by rfl) (by intro h; simp only [h]; rfl) (by rfl) (by rfl) ?_ | refine GX_call (fun _ => (c156_pf { s with q := ⟨s.q.limit, putAt s.q.pk p⟩ } hl)) (by rfl) (by intro h; simp only [h]; rfl) (by rfl) (by rfl) ?_ | (with_reducible intro h; try simp only [h]) | (with_reducible refine And.intro ?_ ?_) | (change chk _ _ = true; rfl) | simp only [go_sem, seval, Vc_bool, e1, e2, e3] | refine (GX_split rfl).2 ?_
  exact Rt_pure (by rfl) (by rfl)

end Go.Av.T
set_option maxRecDepth 100000
set_option maxHeartbeats 1000000
set_option linter.unusedSimpArgs false
set_option linter.unusedVariables false
namespace Go.Av.T
open Go Go.Av Go.Av.Sp Go.Proofs.Tryz
def c78 : SC := (.seq (.reg [(.alc 0 31 [(.int .i64 0), (.int .i64 0), .nil, (.int .i64 0), .nil, .nil, .nil, (.int .i64 0), (.int .i64 0), (.int .i64 0), (.int .i64 0), (.int .i64 0), (.int .i64 0), (.int .i64 0)]), (.alc 1 31 [(.int .i64 0), (.int .i64 0), .nil, (.int .i64 0), .nil, .nil, .nil, (.int .i64 0), (.int .i64 0), (.int .i64 0), (.int .i64 0), (.int .i64 0), (.int .i64 0), (.int .i64 0)]), (.mv 2 (.c (.bool false)))]) (.seq (.reg [(.bld 8 [(.int .i64 0), (.int .i64 0), (.int .i64 0), (.bool false), (.int .i64 0), (.int .i64 0)] [(2, 1, (.c (.int .i64 2))), (3, 1, (.c (.bool true))), (4, 1, (.c (.int .i64 2))), (5, 1, (.c (.int .i64 (-1))))]), (.bsl 9 57 6 [(.int .i64 0), (.int .i64 0), (.int .i64 0), (.bool false), (.int .i64 0), (.int .i64 0)] 1 [(0, (.t 8))]), (.bld 10 [(.int .i64 0), (.int .i64 0), .nil] [(0, 1, (.c (.int .i64 1))), (1, 1, (.c (.int .i64 2))), (2, 1, (.t 9))]), (.call (some 11) (.c (.func 20 [] [])) [(.t 10), (.c (.int .i64 8)), (.c (.int .i64 0))]), (.mv 7 (.t 11)), (.ext 12 (.t 7) 0), (.ext 13 (.t 7) 1), (.alc 3 31 [(.int .i64 0), (.int .i64 0), .nil, (.int .i64 0), .nil, .nil, .nil, (.int .i64 0), (.int .i64 0), (.int .i64 0), (.int .i64 0), (.int .i64 0), (.int .i64 0), (.int .i64 0)]), (.st (.t 3) (.t 12) 14), (.mv 4 (.t 13))]) (.seq (.reg [(.bld 15 [(.int .i64 0), (.int .i64 0), (.int .i64 0), (.bool false), (.int .i64 0), (.int .i64 0)] [(2, 1, (.c (.int .i64 2))), (4, 1, (.c (.int .i64 1))), (5, 1, (.c (.int .i64 (-1))))]), (.bsl 16 57 6 [(.int .i64 0), (.int .i64 0), (.int .i64 0), (.bool false), (.int .i64 0), (.int .i64 0)] 1 [(0, (.t 15))]), (.bld 17 [(.int .i64 0), (.int .i64 0), .nil] [(0, 1, (.c (.int .i64 2))), (1, 1, (.c (.int .i64 2))), (2, 1, (.t 16))]), (.call (some 18) (.c (.func 20 [] [])) [(.t 17), (.c (.int .i64 8)), (.c (.int .i64 0))]), (.mv 14 (.t 18)), (.ext 19 (.t 14) 0), (.ext 20 (.t 14) 1), (.alc 5 31 [(.int .i64 0), (.int .i64 0), .nil, (.int .i64 0), .nil, .nil, .nil, (.int .i64 0), (.int .i64 0), (.int .i64 0), (.int .i64 0), (.int .i64 0), (.int .i64 0), (.int .i64 0)]), (.st (.t 5) (.t 19) 14), (.mv 6 (.t 20))]) (.seq (.regD [(.ld 21 (.t 3) true 14), (.ld 22 (.t 5) true 14), (.mv 23 (.t 4)), (.bin 24 .eql (.t 23) (.c (.int .i64 0))), (.mv 25 (.t 24)), (.g 25 true (some 26) (.mv 26 (.t 6))), (.g 25 true (some 27) (.bin 27 .eql (.t 26) (.c (.int .i64 0)))), (.pick 28 (.t 25) (.t 27) (.c (.bool false))), (.st (.t 0) (.t 21) 14), (.st (.t 1) (.t 22) 14), (.mv 2 (.t 28))] [(1, 8)]) .ret))))
theorem e78 : compC prog f78.ntmps (f78.body.getD .skip) = c78 := by kernel_rfl
def tabA : Table := ⟨1, 2, [⟨0, 0, 2, true, 2, -1⟩]⟩
def tabB : Table := ⟨2, 2, [⟨0, 0, 2, false, 1, -1⟩]⟩
def stA : Station := ⟨tabA, ⟨8, []⟩, [], [], 0, 0, -1, 0, 0, 0, 0⟩
def stB : Station := ⟨tabB, ⟨8, []⟩, [], [], 0, 0, -1, 0, 0, 0, 0⟩
theorem newA : newSt tabA 8 0 = (stA, 0) := by rfl
theorem newB : newSt tabB 8 0 = (stB, 0) := by rfl
theorem c20A : ACalls prog 20 [.agg [.int .i64 1, .int .i64 2, .sl 6 [[.int .i64 0, .int .i64 0, .int .i64 2, .bool true, .int .i64 2, .int .i64 (-1)]]], .int .i64 8, .int .i64 0] [] (.tup [.agg stA.enc, .int .i64 0]) [] := by
  have h := c20_pf tabA 8 0 (by decide)
  rw [newA] at h
  exact h
theorem c20B : ACalls prog 20 [.agg [.int .i64 2, .int .i64 2, .sl 6 [[.int .i64 0, .int .i64 0, .int .i64 2, .bool false, .int .i64 1, .int .i64 (-1)]]], .int .i64 8, .int .i64 0] [] (.tup [.agg stB.enc, .int .i64 0]) [] := by
  have h := c20_pf tabB 8 0 (by decide)
  rw [newB] at h
  exact h
theorem c78_ok : ACalls prog 78 [] [] (.tup [.agg stA.enc, .agg stB.enc, .bool true]) [] := by
  refine calls_of hmx func78 (by kernel_rfl) (c := f78.body.getD .skip) rfl e78 (rs := [(.cell 0 true 14), (.cell 1 true 14), (.t 2)]) (by kernel_rfl) (by simp [ntmps78]) ?_
  simp only [c78, argS]
  repeat' first | (with_reducible intro h; try simp only [h]) | (with_reducible refine And.intro ?_ ?_) | (change chk _ _ = true; rfl) | simp only [go_sem, seval, Vc_bool] | refine (GX_split rfl).2 ?_
  refine CX.gs (Gs_freeze 2 (s' := [(10, .agg [.int .i64 1, .int .i64 2, .sl 6 [[.int .i64 0, .int .i64 0, .int .i64 2, .bool true, .int .i64 2, .int .i64 (-1)]]]), (0, .ptr 0 0 0 0), (1, .ptr 1 0 0 0)]) (H' := [.cells 0 14 31 true [zSt], .cells 0 14 31 true [zSt], .dead]) rfl ?_ ?_) ?_
  · refine List.forall_mem_cons.2 ⟨?_, List.forall_mem_cons.2 ⟨?_, List.forall_mem_cons.2 ⟨?_, by simp⟩⟩⟩
    · exact Fz.aggL (.cons (.wk (.refl _)) (.cons (.wk (.refl _)) (.cons (Fz.row 0 1 rfl (cloE_map (f := TCell.enc) (xs := [⟨0, 0, 2, true, 2, -1⟩]) fun _ => by rfl)) .nil)))
    · exact .wk (.refl _)
    · exact .wk (.refl _)
  · repeat' (first | exact FzL.nil | refine FzL.cons ?_ ?_ | exact Fz.wk (Wk.refl _) | exact Fz.wk (Wk.nil _) | exact Fz.wk (Wk.emp _) | exact Fz.row0 _ _ _ _ | exact FzH.nil _ | exact FzO.refl _ | refine FzO.one ?_ | refine FzH.cons (by decide) ?_ ?_ | refine FzH.this rfl ?_ | exact FzO.dead (by simp) | (simp only [List.forall_mem_cons, List.not_mem_nil, false_implies, implies_true, and_true, go_sem, seval]) | refine And.intro ?_ ?_)
  refine CX_pure c20A rfl rfl rfl rfl ?_
  repeat' first | (with_reducible intro h; try simp only [h]) | (with_reducible refine And.intro ?_ ?_) | (change chk _ _ = true; rfl) | simp only [go_sem, seval, Vc_bool] | refine (GX_split rfl).2 ?_
  refine CX.gs (Gs_freeze 4 (s' := [(17, .agg [.int .i64 2, .int .i64 2, .sl 6 [[.int .i64 0, .int .i64 0, .int .i64 2, .bool false, .int .i64 1, .int .i64 (-1)]]]), (3, .ptr 3 0 0 0), (4, .int .i64 0), (0, .ptr 0 0 0 0), (1, .ptr 1 0 0 0)]) (H' := [.cells 0 14 31 true [zSt], .cells 0 14 31 true [zSt], .dead, .cells 0 14 31 true [stA.enc], .dead]) rfl ?_ ?_) ?_
  · refine List.forall_mem_cons.2 ⟨?_, List.forall_mem_cons.2 ⟨?_, List.forall_mem_cons.2 ⟨?_, List.forall_mem_cons.2 ⟨?_, List.forall_mem_cons.2 ⟨?_, by simp⟩⟩⟩⟩⟩
    · exact Fz.aggL (.cons (.wk (.refl _)) (.cons (.wk (.refl _)) (.cons (Fz.row 0 1 rfl (cloE_map (f := TCell.enc) (xs := [⟨0, 0, 2, false, 1, -1⟩]) fun _ => by rfl)) .nil)))
    · exact .wk (.refl _)
    · exact .wk (.refl _)
    · exact .wk (.refl _)
    · exact .wk (.refl _)
  · repeat' (first | exact FzL.nil | refine FzL.cons ?_ ?_ | exact Fz.wk (Wk.refl _) | exact Fz.wk (Wk.nil _) | exact Fz.wk (Wk.emp _) | exact Fz.row0 _ _ _ _ | exact FzH.nil _ | exact FzO.refl _ | refine FzO.one ?_ | refine FzH.cons (by decide) ?_ ?_ | refine FzH.this rfl ?_ | exact FzO.dead (by simp) | (simp only [List.forall_mem_cons, List.not_mem_nil, false_implies, implies_true, and_true, go_sem, seval]) | refine And.intro ?_ ?_)
  refine CX_pure c20B rfl rfl rfl rfl ?_
  repeat' first | (with_reducible intro h; try simp only [h]) | (with_reducible refine And.intro ?_ ?_) | (change chk _ _ = true; rfl) | simp only [go_sem, seval, Vc_bool, zSt] | refine (GX_split rfl).2 ?_
  exact Rt_pure (by rfl) (by rfl)

end Go.Av.T
set_option maxRecDepth 100000
set_option maxHeartbeats 1000000
set_option linter.unusedSimpArgs false
set_option linter.unusedVariables false
namespace Go.Av.T
open Go Go.Av Go.Av.Sp Go.Proofs.Tryz
def hi : ByteArray := ByteArray.mk #[104, 105]
def pk7 : Packet := ⟨7, 2, 0, 0, 9, hi⟩
def qA (k : Int) : Station := { stA with q := ⟨8, [pk7]⟩, trying := if k = 0 then -1 else 7, tries := k }
def qEnd : Station := { stA with q := ⟨8, []⟩, seq := 1 }
def qB : Station := { stB with seen := [⟨1, 0⟩] }
def want : Action := ⟨1, 0, ⟨4, 1, 2, 0, 0, 0, 0, 0, 0, 0, 0, hi⟩⟩
def rB : Sp.Result := ⟨false, true, want.fr, 0⟩
def rA : Sp.Result := ⟨false, false, Frame.zero, 0⟩
theorem clA (k : Int) : ClBd (qA k) := ⟨by show (1:Nat) * 48 ≤ _; decide, by show (1:Nat) * 56 ≤ _; decide, by show (0:Nat) * 64 ≤ _; decide, by show (0:Nat) * 16 ≤ _; decide, by intro h hh; cases hh⟩
theorem clB : ClBd qB := ⟨by decide, by decide, by decide, by decide, by intro h hh; cases hh⟩
theorem clB0 : ClBd stB := ⟨by decide, by decide, by decide, by decide, by intro h hh; cases hh⟩
theorem clA0 : ClBd stA := ⟨by decide, by decide, by decide, by decide, by intro h hh; cases hh⟩
theorem put7 : ACalls prog 47 [.agg stA.enc, .agg pk7.enc] [] (.tup [.agg (qA 0).enc, .nil, .int .i64 0]) [] := by
  have h := c47_put (s := stA) (p := pk7) clA0 (by rfl) (by decide) (by rfl) (by rfl) (by decide) (by decide) (by decide)
  exact h
theorem errA0 : slotErr (qA 0) 4 = 0 := by rfl
theorem errA1 : slotErr (qA 1) 6 = 0 := by rfl
theorem errA2 : slotErr (qA 2) 8 = 0 := by rfl
theorem errA3 : slotErr (qA 3) 10 = 0 := by rfl
theorem errB0 : slotErr stB 4 = 0 := by rfl
theorem errB1 : slotErr qB 6 = 0 := by rfl
theorem errB2 : slotErr qB 8 = 0 := by rfl
theorem errB3 : slotErr qB 10 = 0 := by rfl
theorem actA {k slot : Int} (hE : slotErr (qA k) slot = 0) (hc : cellAt (qA k) slot = ⟨0, 0, 2, true, 2, -1⟩) (hg : agSt (qA k) ⟨0, 0, 2, true, 2, -1⟩ = want) : ACalls prog 97 [.ptr 0 0 0 0] [.cells 0 21 176 true [wEnc (qA k) slot (cellAt (qA k) slot)]] (.agg want.enc) [.cells 0 21 176 true [wEnc (qA k) slot (cellAt (qA k) slot)]] := by
  have h1 := c193_ok (s := qA k) (slot := slot) (c := cellAt (qA k) slot) (by show (1:Nat) < _; decide)
  rw [hc] at h1
  rw [hg] at h1
  rw [hc]
  exact c97_2 rfl h1
theorem act25 {k slot : Int} (hE : slotErr (qA k) slot = 0) (hc : cellAt (qA k) slot = ⟨0, 0, 2, true, 2, -1⟩) (hg : agSt (qA k) ⟨0, 0, 2, true, 2, -1⟩ = want) : ACalls prog 25 [.agg (qA k).enc, .int .i64 slot] [] (.tup [.agg want.enc, .int .i64 0]) [] := by
  have h := c25_of (clA k) (fun _ => actA hE hc hg)
  rw [if_pos hE, hE] at h
  exact h
theorem doneA {k slot : Int} (hk : 0 ≤ k ∧ k ≤ 3) (hE : slotErr (qA k) slot = 0) (hc : cellAt (qA k) slot = ⟨0, 0, 2, true, 2, -1⟩) (hg : agSt (qA k) ⟨0, 0, 2, true, 2, -1⟩ = want) (hq : qErr (qA k).q = 0) (hf : qFirst (qA k).q 2 = some pk7) (hx : pkIdx (qA k).q.pk 7 = 0) : ACalls prog 28 [.agg (qA k).enc, .int .i64 slot, .agg rA.enc] [] (.tup [.agg (sentAt (qA k) false pk7 0 false).enc, .agg Up.zero.enc, .int .i64 0]) [] := by
  refine c28_sent (a := want) (clA k) hE (actA hE hc hg) rfl rfl ?_
  have h204 := c204_2 (s := qA k) (slot := slot) (c := cellAt (qA k) slot) (p := pk7) (by show (1:Nat) < _; decide) (by rw [hc]) (by rw [hc]; exact hf)
  have h := c103_ok (acked := rA.acked) (i := 0) (p := pk7) (by show (1:Nat) * 56 ≤ _; decide) hq rfl hx (by show (0:Int) ≤ 0 ∧ (0:Int) ≤ 255; decide) hk (by show (0:Int) ≤ 0 ∧ (0:Int) ≤ 5; decide) (by show (0:Int) ≤ 0 ∧ (0:Int) ≤ 2147483647; decide) h204
  have e : decide ((cellAt (qA k) slot).kind = 3) = false := by rw [hc]; rfl
  rw [e] at h
  exact h
theorem doneB {s : Station} {slot : Int} (hs : s = stB ∨ s = qB) (hE : slotErr s slot = 0) (hc : cellAt s slot = ⟨0, 0, 2, false, 1, -1⟩) (hw : seeAt s.seen ⟨1, 0⟩ = [⟨1, 0⟩]) : ACalls prog 28 [.agg s.enc, .int .i64 slot, .agg rB.enc] [] (.tup [.agg qB.enc, .agg (Up.enc ⟨true, !(s.seen.any fun y => decide ((⟨1, 0⟩ : Seen) = y)), want.fr⟩), .int .i64 0]) [] := by
  have hcl : ClBd s := by rcases hs with rfl | rfl <;> first | exact clB0 | exact clB
  refine c28_heard (a := ⟨2, 0, Frame.zero⟩) (up := ⟨true, !(s.seen.any fun y => decide ((⟨1, 0⟩ : Seen) = y)), want.fr⟩) hcl hE ?_ rfl (by rw [hc]; decide) rfl ?_
  · rw [hc]
    exact c97n_2 rfl rfl
  · have hl : s.seen.length < 2 ^ 40 := by rcases hs with rfl | rfl <;> decide
    have hp : s.seen.Pairwise (fun a b => a.node ≤ b.node) := by rcases hs with rfl | rfl <;> simp [stB, qB]
    have hn : s.tab.node = 2 := by rcases hs with rfl | rfl <;> rfl
    have h := c105_4 (s := s) (slot := slot) (c := cellAt s slot) (f := want.fr) hl hp (by rw [hn]; rfl) rfl (by rw [hn]; rfl)
    have e : { s with seen := seeAt s.seen ⟨want.fr.src, want.fr.seq⟩ } = qB := by
      show { s with seen := seeAt s.seen ⟨1, 0⟩ } = qB
      rw [hw]
      rcases hs with rfl | rfl <;> rfl
    rw [e] at h
    exact h

end Go.Av.T
