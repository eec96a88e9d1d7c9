/- The seat: part Ch10. -/
import Derived.Test.YtmhchaedhmnofaaGreatCh9
import Derived.KernelRfl
set_option maxRecDepth 100000
set_option maxHeartbeats 1000000
set_option linter.unusedSimpArgs false
set_option linter.unusedVariables false
namespace Go.Av.T
open Go Go.Av Go.Av.Sp Go.Proofs.Tryz
def hi : ByteArray := ByteArray.mk #[104, 105]
def pk7 : Packet := ⟨7, 2, 0, 0, 9, hi⟩
def qA (k : Int) : Station := { stA with q := ⟨8, [pk7]⟩, trying := if k = 0 then -1 else 7, tries := k }
def qEnd : Station := { stA with q := ⟨8, []⟩, seq := 1 }
def qB : Station := { stB with seen := [⟨1, 0⟩] }
def want : Action := ⟨1, 0, ⟨4, 1, 2, 0, 0, 0, 0, 0, 0, 0, 0, hi⟩⟩
def rB : Sp.Result := ⟨false, true, want.fr, 0⟩
def rA : Sp.Result := ⟨false, false, Frame.zero, 0⟩
theorem clA (k : Int) : ClBd (qA k) := ⟨by show (1:Nat) * 48 ≤ _; decide, by show (1:Nat) * 56 ≤ _; decide, by show (0:Nat) * 64 ≤ _; decide, by show (0:Nat) * 16 ≤ _; decide, by intro h hh; cases hh⟩
theorem clB : ClBd qB := ⟨by decide, by decide, by decide, by decide, by intro h hh; cases hh⟩
theorem clB0 : ClBd stB := ⟨by decide, by decide, by decide, by decide, by intro h hh; cases hh⟩
theorem clA0 : ClBd stA := ⟨by decide, by decide, by decide, by decide, by intro h hh; cases hh⟩
theorem put7 : ACalls prog 47 [.agg stA.enc, .agg pk7.enc] [] (.tup [.agg (qA 0).enc, .nil, .int .i64 0]) [] := by
  have h := c47_put (s := stA) (p := pk7) clA0 (by rfl) (by decide) (by rfl) (by rfl) (by decide) (by decide) (by decide)
  exact h
theorem errA0 : slotErr (qA 0) 4 = 0 := by rfl
theorem errA1 : slotErr (qA 1) 6 = 0 := by rfl
theorem errA2 : slotErr (qA 2) 8 = 0 := by rfl
theorem errA3 : slotErr (qA 3) 10 = 0 := by rfl
theorem errB0 : slotErr stB 4 = 0 := by rfl
theorem errB1 : slotErr qB 6 = 0 := by rfl
theorem errB2 : slotErr qB 8 = 0 := by rfl
theorem errB3 : slotErr qB 10 = 0 := by rfl
theorem actA {k slot : Int} (hE : slotErr (qA k) slot = 0) (hc : cellAt (qA k) slot = ⟨0, 0, 2, true, 2, -1⟩) (hg : agSt (qA k) ⟨0, 0, 2, true, 2, -1⟩ = want) : ACalls prog 97 [.ptr 0 0 0 0] [.cells 0 21 176 true [wEnc (qA k) slot (cellAt (qA k) slot)]] (.agg want.enc) [.cells 0 21 176 true [wEnc (qA k) slot (cellAt (qA k) slot)]] := by
  have h1 := c193_ok (s := qA k) (slot := slot) (c := cellAt (qA k) slot) (by show (1:Nat) < _; decide)
  rw [hc] at h1
  rw [hg] at h1
  rw [hc]
  exact c97_2 rfl h1
theorem act25 {k slot : Int} (hE : slotErr (qA k) slot = 0) (hc : cellAt (qA k) slot = ⟨0, 0, 2, true, 2, -1⟩) (hg : agSt (qA k) ⟨0, 0, 2, true, 2, -1⟩ = want) : ACalls prog 25 [.agg (qA k).enc, .int .i64 slot] [] (.tup [.agg want.enc, .int .i64 0]) [] := by
  have h := c25_of (clA k) (fun _ => actA hE hc hg)
  rw [if_pos hE, hE] at h
  exact h
theorem doneA {k slot : Int} (hk : 0 ≤ k ∧ k ≤ 3) (hE : slotErr (qA k) slot = 0) (hc : cellAt (qA k) slot = ⟨0, 0, 2, true, 2, -1⟩) (hg : agSt (qA k) ⟨0, 0, 2, true, 2, -1⟩ = want) (hq : qErr (qA k).q = 0) (hf : qFirst (qA k).q 2 = some pk7) (hx : pkIdx (qA k).q.pk 7 = 0) : ACalls prog 28 [.agg (qA k).enc, .int .i64 slot, .agg rA.enc] [] (.tup [.agg (sentAt (qA k) false pk7 0 false).enc, .agg Up.zero.enc, .int .i64 0]) [] := by
  refine c28_sent (a := want) (clA k) hE (actA hE hc hg) rfl rfl ?_
  have h204 := c204_2 (s := qA k) (slot := slot) (c := cellAt (qA k) slot) (p := pk7) (by show (1:Nat) < _; decide) (by rw [hc]) (by rw [hc]; exact hf)
  have h := c103_ok (acked := rA.acked) (i := 0) (p := pk7) (by show (1:Nat) * 56 ≤ _; decide) hq rfl hx (by show (0:Int) ≤ 0 ∧ (0:Int) ≤ 255; decide) hk (by show (0:Int) ≤ 0 ∧ (0:Int) ≤ 5; decide) (by show (0:Int) ≤ 0 ∧ (0:Int) ≤ 2147483647; decide) h204
  have e : decide ((cellAt (qA k) slot).kind = 3) = false := by rw [hc]; rfl
  rw [e] at h
  exact h
theorem doneB {s : Station} {slot : Int} (hs : s = stB ∨ s = qB) (hE : slotErr s slot = 0) (hc : cellAt s slot = ⟨0, 0, 2, false, 1, -1⟩) (hw : seeAt s.seen ⟨1, 0⟩ = [⟨1, 0⟩]) : ACalls prog 28 [.agg s.enc, .int .i64 slot, .agg rB.enc] [] (.tup [.agg qB.enc, .agg (Up.enc ⟨true, !(s.seen.any fun y => decide ((⟨1, 0⟩ : Seen) = y)), want.fr⟩), .int .i64 0]) [] := by
  have hcl : ClBd s := by rcases hs with rfl | rfl <;> first | exact clB0 | exact clB
  refine c28_heard (a := ⟨2, 0, Frame.zero⟩) (up := ⟨true, !(s.seen.any fun y => decide ((⟨1, 0⟩ : Seen) = y)), want.fr⟩) hcl hE ?_ rfl (.inl (by rw [hc]; decide)) rfl ?_
  · rw [hc]
    exact c97n_2 rfl rfl
  · have hl : s.seen.length < 2 ^ 40 := by rcases hs with rfl | rfl <;> decide
    have hp : s.seen.Pairwise (fun a b => a.node ≤ b.node) := by rcases hs with rfl | rfl <;> simp [stB, qB]
    have hn : s.tab.node = 2 := by rcases hs with rfl | rfl <;> rfl
    have h := c105_4 (s := s) (slot := slot) (c := cellAt s slot) (f := want.fr) hl hp (by rw [hn]; rfl) rfl (by rw [hn]; rfl)
    have e : { s with seen := seeAt s.seen ⟨want.fr.src, want.fr.seq⟩ } = qB := by
      show { s with seen := seeAt s.seen ⟨1, 0⟩ } = qB
      rw [hw]
      rcases hs with rfl | rfl <;> rfl
    rw [e] at h
    exact h

def c18L1 : SC := (.seq (.reg [(.bin 34 .lss (.t 33) (.c (.int .i64 4)))]) (.seq (.cond (.t 34) .skip (.exit 0)) (.seq (.block 1 (.seq (.reg [(.mv 35 (.t 33)), (.mv 7 (.t 35))]) (.seq (.reg [(.ld 37 (.t 1) true 14), (.mv 38 (.t 7)), (.bin 39 .mul (.c (.int .i64 2)) (.t 38)), (.bin 40 .add (.c (.int .i64 4)) (.t 39)), (.call (some 41) (.c (.func 25 [] [])) [(.t 37), (.t 40)]), (.mv 36 (.t 41)), (.ext 42 (.t 36) 0), (.ext 43 (.t 36) 1), (.alc 8 43 [(.int .i64 0), (.int .i64 0), (.int .i64 0), (.int .i64 0), (.int .i64 0), (.int .i64 0), (.int .i64 0), (.int .i64 0), (.int .i64 0), (.int .i64 0), (.int .i64 0), (.int .i64 0), (.int .i64 0), (.str (ByteArray.mk #[]))]), (.st (.t 8) (.t 42) 14), (.mv 9 (.t 43))]) (.seq (.seq (.reg [(.mv 44 (.t 9)), (.bin 45 .neq (.t 44) (.c (.int .i64 0))), (.mv 46 (.t 45)), (.g 46 false (some 47) (.ld 47 (.t 8) true 14)), (.g 46 false (some 48) (.ld 48 (.t 6) true 14)), (.g 46 false (some 49) (.binA 49 true [1, 1, 1, 1, 1, 1, 1, 1, 1, 1, 1, 1, 1, 3] (.t 47) (.t 48))), (.pick 50 (.t 46) (.c (.bool true)) (.t 49))]) (.cond (.t 50) (.seq (.reg [(.mv 0 (.c (.bool false)))]) .ret) .skip)) (.seq (.reg [(.alc 10 51 [(.bool false), (.bool false), (.int .i64 0), (.int .i64 0), (.int .i64 0), (.int .i64 0), (.int .i64 0), (.int .i64 0), (.int .i64 0), (.int .i64 0), (.int .i64 0), (.int .i64 0), (.int .i64 0), (.str (ByteArray.mk #[]))])]) (.seq (.reg [(.mv 11 (.c (.int .i64 0))), (.mv 12 (.c (.int .i64 0)))]) (.seq (.reg [(.ld 52 (.t 2) true 14), (.mv 53 (.t 7)), (.bin 54 .mul (.c (.int .i64 2)) (.t 53)), (.bin 55 .add (.c (.int .i64 4)) (.t 54)), (.fa 56 (.t 8) 2), (.ld 57 (.t 56) true 12), (.bld 58 [(.bool false), (.bool false), (.int .i64 0), (.int .i64 0), (.int .i64 0), (.int .i64 0), (.int .i64 0), (.int .i64 0), (.int .i64 0), (.int .i64 0), (.int .i64 0), (.int .i64 0), (.int .i64 0), (.str (ByteArray.mk #[])), (.int .i64 0)] [(1, 1, (.c (.bool true))), (2, 12, (.t 57))]), (.call (some 59) (.c (.func 28 [] [])) [(.t 52), (.t 55), (.t 58)]), (.mv 51 (.t 59)), (.ext 60 (.t 51) 0), (.ext 61 (.t 51) 1), (.ext 62 (.t 51) 2), (.st (.t 2) (.t 60) 14), (.st (.t 10) (.t 61) 14), (.mv 11 (.t 62))]) (.seq (.reg [(.ld 64 (.t 1) true 14), (.mv 65 (.t 7)), (.bin 66 .mul (.c (.int .i64 2)) (.t 65)), (.bin 67 .add (.c (.int .i64 4)) (.t 66)), (.bld 68 [(.bool false), (.bool false), (.int .i64 0), (.int .i64 0), (.int .i64 0), (.int .i64 0), (.int .i64 0), (.int .i64 0), (.int .i64 0), (.int .i64 0), (.int .i64 0), (.int .i64 0), (.int .i64 0), (.str (ByteArray.mk #[])), (.int .i64 0)] []), (.call (some 69) (.c (.func 28 [] [])) [(.t 64), (.t 67), (.t 68)]), (.mv 63 (.t 69)), (.ext 70 (.t 63) 0), (.ext 71 (.t 63) 1), (.ext 72 (.t 63) 2), (.st (.t 1) (.t 70) 14), (.mv 12 (.t 72))]) (.seq (.reg [(.mv 73 (.t 11)), (.bin 74 .neq (.t 73) (.c (.int .i64 0))), (.mv 75 (.t 74)), (.g 75 false (some 76) (.mv 76 (.t 12))), (.g 75 false (some 77) (.bin 77 .neq (.t 76) (.c (.int .i64 0)))), (.pick 78 (.t 75) (.c (.bool true)) (.t 77)), (.mv 79 (.t 78)), (.g 79 false (some 80) (.fa 80 (.t 10) 0)), (.g 79 false (some 81) (.ld 81 (.t 80) false 1)), (.g 79 false (some 82) (.not 82 (.t 81))), (.pick 83 (.t 79) (.c (.bool true)) (.t 82)), (.mv 84 (.t 83)), (.g 84 false (some 85) (.fa 85 (.t 10) 1)), (.g 84 false (some 86) (.ld 86 (.t 85) false 1)), (.g 84 false (some 87) (.mv 87 (.t 7))), (.g 84 false (some 88) (.bin 88 .eql (.t 87) (.c (.int .i64 0)))), (.g 84 false (some 89) (.binB 89 true (.t 86) (.t 88))), (.pick 90 (.t 84) (.c (.bool true)) (.t 89)), (.mv 91 (.t 90)), (.g 91 false (some 92) (.mv 92 (.t 7))), (.g 91 false (some 93) (.bin 93 .lss (.t 92) (.c (.int .i64 3)))), (.g 91 false (some 94) (.mv 94 (.t 93))), (.g 94 true (some 95) (.fa 95 (.t 1) 10)), (.g 94 true (some 96) (.ld 96 (.t 95) false 1)), (.g 94 true (some 97) (.mv 97 (.t 7))), (.g 94 true (some 98) (.bin 98 .add (.t 97) (.c (.int .i64 1)))), (.g 94 true (some 99) (.bin 99 .neq (.t 96) (.t 98))), (.g 91 false (some 100) (.pick 100 (.t 94) (.t 99) (.c (.bool false)))), (.pick 101 (.t 91) (.c (.bool true)) (.t 100))]) (.cond (.t 101) (.seq (.reg [(.mv 0 (.c (.bool false)))]) .ret) .skip)))))))))) (.reg [(.bin 102 .add (.t 33) (.c (.int .i64 1))), (.mv 33 (.t 102))]))))
def c18 : SC := (.seq (.reg [(.mv 0 (.c (.bool false)))]) (.seq (.reg [(.call (some 14) (.c (.func 78 [] [])) []), (.mv 13 (.t 14)), (.ext 15 (.t 13) 0), (.ext 16 (.t 13) 1), (.ext 17 (.t 13) 2), (.alc 1 31 [(.int .i64 0), (.int .i64 0), .nil, (.int .i64 0), .nil, .nil, .nil, (.int .i64 0), (.int .i64 0), (.int .i64 0), (.int .i64 0), (.int .i64 0), (.int .i64 0), (.int .i64 0)]), (.alc 2 31 [(.int .i64 0), (.int .i64 0), .nil, (.int .i64 0), .nil, .nil, .nil, (.int .i64 0), (.int .i64 0), (.int .i64 0), (.int .i64 0), (.int .i64 0), (.int .i64 0), (.int .i64 0)]), (.st (.t 1) (.t 15) 14), (.st (.t 2) (.t 16) 14), (.mv 3 (.t 17))]) (.seq (.reg [(.ld 19 (.t 1) true 14), (.bld 20 [(.int .i64 0), (.int .i64 0), (.int .i64 0), (.int .i64 0), (.int .i64 0), (.str (ByteArray.mk #[]))] [(0, 1, (.c (.int .i64 7))), (1, 1, (.c (.int .i64 2))), (4, 1, (.c (.int .i64 9))), (5, 1, (.c (.str (ByteArray.mk #[104, 105]))))]), (.call (some 21) (.c (.func 47 [] [])) [(.t 19), (.t 20)]), (.mv 18 (.t 21)), (.ext 22 (.t 18) 0), (.ext 23 (.t 18) 1), (.ext 24 (.t 18) 2), (.st (.t 1) (.t 22) 14), (.mv 4 (.t 23)), (.mv 5 (.t 24))]) (.seq (.seq (.reg [(.mv 25 (.t 3)), (.not 26 (.t 25)), (.mv 27 (.t 26)), (.g 27 false (some 28) (.mv 28 (.t 5))), (.g 27 false (some 29) (.bin 29 .neq (.t 28) (.c (.int .i64 0)))), (.pick 30 (.t 27) (.c (.bool true)) (.t 29))]) (.cond (.t 30) (.seq (.reg [(.mv 0 (.c (.bool false)))]) .ret) .skip)) (.seq (.reg [(.bld 31 [(.int .i64 0), (.int .i64 0), (.int .i64 0), (.int .i64 0), (.int .i64 0), (.int .i64 0), (.int .i64 0), (.int .i64 0), (.int .i64 0), (.int .i64 0), (.int .i64 0), (.str (ByteArray.mk #[]))] [(0, 1, (.c (.int .i64 4))), (1, 1, (.c (.int .i64 1))), (2, 1, (.c (.int .i64 2))), (11, 1, (.c (.str (ByteArray.mk #[104, 105]))))]), (.bld 32 [(.int .i64 0), (.int .i64 0), (.int .i64 0), (.int .i64 0), (.int .i64 0), (.int .i64 0), (.int .i64 0), (.int .i64 0), (.int .i64 0), (.int .i64 0), (.int .i64 0), (.int .i64 0), (.int .i64 0), (.str (ByteArray.mk #[]))] [(0, 1, (.c (.int .i64 1))), (2, 12, (.t 31))]), (.alc 6 43 [(.int .i64 0), (.int .i64 0), (.int .i64 0), (.int .i64 0), (.int .i64 0), (.int .i64 0), (.int .i64 0), (.int .i64 0), (.int .i64 0), (.int .i64 0), (.int .i64 0), (.int .i64 0), (.int .i64 0), (.str (ByteArray.mk #[]))]), (.st (.t 6) (.t 32) 14)]) (.seq (.seq (.reg [(.mv 33 (.c (.int .i64 0)))]) (.block 0 (.loop c18L1))) (.seq (.reg [(.fa 103 (.t 1) 3), (.fa 104 (.t 103) 1), (.ld 105 (.t 104) false 1), (.len 106 false (.t 105)), (.bin 107 .eql (.t 106) (.c (.int .i64 0))), (.mv 108 (.t 107)), (.g 108 true (some 109) (.fa 109 (.t 1) 8)), (.g 108 true (some 110) (.ld 110 (.t 109) false 1)), (.g 108 true (some 111) (.bin 111 .eql (.t 110) (.c (.int .i64 1)))), (.pick 112 (.t 108) (.t 111) (.c (.bool false))), (.mv 113 (.t 112)), (.g 113 true (some 114) (.fa 114 (.t 1) 9)), (.g 113 true (some 115) (.ld 115 (.t 114) false 1)), (.g 113 true (some 116) (.bin 116 .eql (.t 115) (.c (.int .i64 (-1))))), (.pick 117 (.t 113) (.t 116) (.c (.bool false))), (.mv 0 (.t 117))]) .ret)))))))
theorem e18 : compC prog f18.ntmps (f18.body.getD .skip) = c18 := by kernel_rfl
theorem tt1 : (true == true) = true := rfl
theorem tt2 : (false == false) = true := rfl
theorem tt3 : (true == false) = false := rfl
theorem tt4 : (false == true) = false := rfl
theorem act_0 : ACalls prog 25 [.agg (qA 0).enc, .int .i64 4] [] (.tup [.agg [.int .i64 1, .int .i64 0, .int .i64 4, .int .i64 1, .int .i64 2, .int .i64 0, .int .i64 0, .int .i64 0, .int .i64 0, .int .i64 0, .int .i64 0, .int .i64 0, .int .i64 0, .str (ByteArray.mk #[104, 105])], .int .i64 0]) [] := act25 errA0 (by rfl) (by rfl)
theorem dB_0 : ACalls prog 28 [.agg (stB).enc, .int .i64 4, .agg [.bool false, .bool true, .int .i64 4, .int .i64 1, .int .i64 2, .int .i64 0, .int .i64 0, .int .i64 0, .int .i64 0, .int .i64 0, .int .i64 0, .int .i64 0, .int .i64 0, .str (ByteArray.mk #[104, 105]), .int .i64 0]] [] (.tup [.agg (qB).enc, .agg [.bool true, .bool true, .int .i64 4, .int .i64 1, .int .i64 2, .int .i64 0, .int .i64 0, .int .i64 0, .int .i64 0, .int .i64 0, .int .i64 0, .int .i64 0, .int .i64 0, .str (ByteArray.mk #[104, 105])], .int .i64 0]) [] := doneB (s := stB) (by left; rfl) errB0 (by rfl) (by rfl)
theorem dA_0 : ACalls prog 28 [.agg (qA 0).enc, .int .i64 4, .agg [.bool false, .bool false, .int .i64 0, .int .i64 0, .int .i64 0, .int .i64 0, .int .i64 0, .int .i64 0, .int .i64 0, .int .i64 0, .int .i64 0, .int .i64 0, .int .i64 0, .str (ByteArray.mk #[]), .int .i64 0]] [] (.tup [.agg (qA 1).enc, .agg [.bool false, .bool false, .int .i64 0, .int .i64 0, .int .i64 0, .int .i64 0, .int .i64 0, .int .i64 0, .int .i64 0, .int .i64 0, .int .i64 0, .int .i64 0, .int .i64 0, .str (ByteArray.mk #[])], .int .i64 0]) [] := doneA (k := 0) (by decide) errA0 (by rfl) (by rfl) (by rfl) (by rfl) (by rfl)
theorem it_0 {k' : List It} {r : AVal} (hh : Lp prog f18.ntmps 0 (Ret [.t 0] 0 r []) c18L1 (.blk 0 :: k') [(33, .int .i64 1), (6, .ptr 2 0 0 0), (1, .ptr 0 0 0 0), (2, .ptr 1 0 0 0)] [.cells 0 14 31 true [(qA 1).enc], .cells 0 14 31 true [(qB).enc], .cells 0 14 43 true [[.int .i64 1, .int .i64 0, .int .i64 4, .int .i64 1, .int .i64 2, .int .i64 0, .int .i64 0, .int .i64 0, .int .i64 0, .int .i64 0, .int .i64 0, .int .i64 0, .int .i64 0, .str (ByteArray.mk #[104, 105])]]]) :
    Lp prog f18.ntmps 0 (Ret [.t 0] 0 r []) c18L1 (.blk 0 :: k') [(33, .int .i64 0), (6, .ptr 2 0 0 0), (1, .ptr 0 0 0 0), (2, .ptr 1 0 0 0)] [.cells 0 14 31 true [(qA 0).enc], .cells 0 14 31 true [(stB).enc], .cells 0 14 43 true [[.int .i64 1, .int .i64 0, .int .i64 4, .int .i64 1, .int .i64 2, .int .i64 0, .int .i64 0, .int .i64 0, .int .i64 0, .int .i64 0, .int .i64 0, .int .i64 0, .int .i64 0, .str (ByteArray.mk #[104, 105])]]] := by
  have l1 : decide ((0 : Int) < 4) = true := rfl
  have w1 : IntKind.i64.wrap 0 = 0 := by decide
  have w2 : IntKind.i64.wrap 4 = 4 := by decide
  have w3 : IntKind.i64.wrap 1 = 1 := by decide
  have t1 : (qA 1).tries = 1 := rfl
  refine Lp.of_eq hmx c18L1.eq_1 ?_
  repeat' first | refine CX_pure (act_0) rfl rfl rfl rfl ?_ | refine CX_pure (dB_0) rfl rfl rfl rfl ?_ | refine CX_pure (dA_0) rfl rfl rfl rfl ?_ | refine GX_call (fun _ => (act_0)) (by rfl) (by intro h; simp only [h]; rfl) (by rfl) (by rfl) ?_ | refine GX_call (fun _ => (dB_0)) (by rfl) (by intro h; simp only [h]; rfl) (by rfl) (by rfl) ?_ | refine GX_call (fun _ => (dA_0)) (by rfl) (by intro h; simp only [h]; rfl) (by rfl) (by rfl) ?_ | (with_reducible intro h; try simp only [h]) | (with_reducible refine And.intro ?_ ?_) | (change chk _ _ = true; rfl) | simp only [go_sem, seval, Vc_bool, w1, w2, w3, eq_self, decide_true, tt1, tt2, tt3, tt4, Bool.not_true, Bool.not_false, t1] | refine (GX_split rfl).2 ?_
  exact Lp.bk [_, _] hh (by rfl) (by rfl) (by rfl) (Nat.zero_le _)
theorem act_1 : ACalls prog 25 [.agg (qA 1).enc, .int .i64 6] [] (.tup [.agg [.int .i64 1, .int .i64 0, .int .i64 4, .int .i64 1, .int .i64 2, .int .i64 0, .int .i64 0, .int .i64 0, .int .i64 0, .int .i64 0, .int .i64 0, .int .i64 0, .int .i64 0, .str (ByteArray.mk #[104, 105])], .int .i64 0]) [] := act25 errA1 (by rfl) (by rfl)
theorem dB_1 : ACalls prog 28 [.agg (qB).enc, .int .i64 6, .agg [.bool false, .bool true, .int .i64 4, .int .i64 1, .int .i64 2, .int .i64 0, .int .i64 0, .int .i64 0, .int .i64 0, .int .i64 0, .int .i64 0, .int .i64 0, .int .i64 0, .str (ByteArray.mk #[104, 105]), .int .i64 0]] [] (.tup [.agg (qB).enc, .agg [.bool true, .bool false, .int .i64 4, .int .i64 1, .int .i64 2, .int .i64 0, .int .i64 0, .int .i64 0, .int .i64 0, .int .i64 0, .int .i64 0, .int .i64 0, .int .i64 0, .str (ByteArray.mk #[104, 105])], .int .i64 0]) [] := doneB (s := qB) (by right; rfl) errB1 (by rfl) (by rfl)
theorem dA_1 : ACalls prog 28 [.agg (qA 1).enc, .int .i64 6, .agg [.bool false, .bool false, .int .i64 0, .int .i64 0, .int .i64 0, .int .i64 0, .int .i64 0, .int .i64 0, .int .i64 0, .int .i64 0, .int .i64 0, .int .i64 0, .int .i64 0, .str (ByteArray.mk #[]), .int .i64 0]] [] (.tup [.agg (qA 2).enc, .agg [.bool false, .bool false, .int .i64 0, .int .i64 0, .int .i64 0, .int .i64 0, .int .i64 0, .int .i64 0, .int .i64 0, .int .i64 0, .int .i64 0, .int .i64 0, .int .i64 0, .str (ByteArray.mk #[])], .int .i64 0]) [] := doneA (k := 1) (by decide) errA1 (by rfl) (by rfl) (by rfl) (by rfl) (by rfl)
theorem it_1 {k' : List It} {r : AVal} (hh : Lp prog f18.ntmps 0 (Ret [.t 0] 0 r []) c18L1 (.blk 0 :: k') [(33, .int .i64 2), (6, .ptr 2 0 0 0), (1, .ptr 0 0 0 0), (2, .ptr 1 0 0 0)] [.cells 0 14 31 true [(qA 2).enc], .cells 0 14 31 true [(qB).enc], .cells 0 14 43 true [[.int .i64 1, .int .i64 0, .int .i64 4, .int .i64 1, .int .i64 2, .int .i64 0, .int .i64 0, .int .i64 0, .int .i64 0, .int .i64 0, .int .i64 0, .int .i64 0, .int .i64 0, .str (ByteArray.mk #[104, 105])]]]) :
    Lp prog f18.ntmps 0 (Ret [.t 0] 0 r []) c18L1 (.blk 0 :: k') [(33, .int .i64 1), (6, .ptr 2 0 0 0), (1, .ptr 0 0 0 0), (2, .ptr 1 0 0 0)] [.cells 0 14 31 true [(qA 1).enc], .cells 0 14 31 true [(qB).enc], .cells 0 14 43 true [[.int .i64 1, .int .i64 0, .int .i64 4, .int .i64 1, .int .i64 2, .int .i64 0, .int .i64 0, .int .i64 0, .int .i64 0, .int .i64 0, .int .i64 0, .int .i64 0, .int .i64 0, .str (ByteArray.mk #[104, 105])]]] := by
  have l1 : decide ((1 : Int) < 4) = true := rfl
  have w1 : IntKind.i64.wrap 2 = 2 := by decide
  have w2 : IntKind.i64.wrap 6 = 6 := by decide
  have w3 : IntKind.i64.wrap 2 = 2 := by decide
  have t1 : (qA 2).tries = 2 := rfl
  refine Lp.of_eq hmx c18L1.eq_1 ?_
  repeat' first | refine CX_pure (act_1) rfl rfl rfl rfl ?_ | refine CX_pure (dB_1) rfl rfl rfl rfl ?_ | refine CX_pure (dA_1) rfl rfl rfl rfl ?_ | refine GX_call (fun _ => (act_1)) (by rfl) (by intro h; simp only [h]; rfl) (by rfl) (by rfl) ?_ | refine GX_call (fun _ => (dB_1)) (by rfl) (by intro h; simp only [h]; rfl) (by rfl) (by rfl) ?_ | refine GX_call (fun _ => (dA_1)) (by rfl) (by intro h; simp only [h]; rfl) (by rfl) (by rfl) ?_ | (with_reducible intro h; try simp only [h]) | (with_reducible refine And.intro ?_ ?_) | (change chk _ _ = true; rfl) | simp only [go_sem, seval, Vc_bool, w1, w2, w3, eq_self, decide_true, tt1, tt2, tt3, tt4, Bool.not_true, Bool.not_false, t1] | refine (GX_split rfl).2 ?_
  exact Lp.bk [_, _] hh (by rfl) (by rfl) (by rfl) (Nat.zero_le _)
theorem act_2 : ACalls prog 25 [.agg (qA 2).enc, .int .i64 8] [] (.tup [.agg [.int .i64 1, .int .i64 0, .int .i64 4, .int .i64 1, .int .i64 2, .int .i64 0, .int .i64 0, .int .i64 0, .int .i64 0, .int .i64 0, .int .i64 0, .int .i64 0, .int .i64 0, .str (ByteArray.mk #[104, 105])], .int .i64 0]) [] := act25 errA2 (by rfl) (by rfl)
theorem dB_2 : ACalls prog 28 [.agg (qB).enc, .int .i64 8, .agg [.bool false, .bool true, .int .i64 4, .int .i64 1, .int .i64 2, .int .i64 0, .int .i64 0, .int .i64 0, .int .i64 0, .int .i64 0, .int .i64 0, .int .i64 0, .int .i64 0, .str (ByteArray.mk #[104, 105]), .int .i64 0]] [] (.tup [.agg (qB).enc, .agg [.bool true, .bool false, .int .i64 4, .int .i64 1, .int .i64 2, .int .i64 0, .int .i64 0, .int .i64 0, .int .i64 0, .int .i64 0, .int .i64 0, .int .i64 0, .int .i64 0, .str (ByteArray.mk #[104, 105])], .int .i64 0]) [] := doneB (s := qB) (by right; rfl) errB2 (by rfl) (by rfl)
theorem dA_2 : ACalls prog 28 [.agg (qA 2).enc, .int .i64 8, .agg [.bool false, .bool false, .int .i64 0, .int .i64 0, .int .i64 0, .int .i64 0, .int .i64 0, .int .i64 0, .int .i64 0, .int .i64 0, .int .i64 0, .int .i64 0, .int .i64 0, .str (ByteArray.mk #[]), .int .i64 0]] [] (.tup [.agg (qA 3).enc, .agg [.bool false, .bool false, .int .i64 0, .int .i64 0, .int .i64 0, .int .i64 0, .int .i64 0, .int .i64 0, .int .i64 0, .int .i64 0, .int .i64 0, .int .i64 0, .int .i64 0, .str (ByteArray.mk #[])], .int .i64 0]) [] := doneA (k := 2) (by decide) errA2 (by rfl) (by rfl) (by rfl) (by rfl) (by rfl)
theorem it_2 {k' : List It} {r : AVal} (hh : Lp prog f18.ntmps 0 (Ret [.t 0] 0 r []) c18L1 (.blk 0 :: k') [(33, .int .i64 3), (6, .ptr 2 0 0 0), (1, .ptr 0 0 0 0), (2, .ptr 1 0 0 0)] [.cells 0 14 31 true [(qA 3).enc], .cells 0 14 31 true [(qB).enc], .cells 0 14 43 true [[.int .i64 1, .int .i64 0, .int .i64 4, .int .i64 1, .int .i64 2, .int .i64 0, .int .i64 0, .int .i64 0, .int .i64 0, .int .i64 0, .int .i64 0, .int .i64 0, .int .i64 0, .str (ByteArray.mk #[104, 105])]]]) :
    Lp prog f18.ntmps 0 (Ret [.t 0] 0 r []) c18L1 (.blk 0 :: k') [(33, .int .i64 2), (6, .ptr 2 0 0 0), (1, .ptr 0 0 0 0), (2, .ptr 1 0 0 0)] [.cells 0 14 31 true [(qA 2).enc], .cells 0 14 31 true [(qB).enc], .cells 0 14 43 true [[.int .i64 1, .int .i64 0, .int .i64 4, .int .i64 1, .int .i64 2, .int .i64 0, .int .i64 0, .int .i64 0, .int .i64 0, .int .i64 0, .int .i64 0, .int .i64 0, .int .i64 0, .str (ByteArray.mk #[104, 105])]]] := by
  have l1 : decide ((2 : Int) < 4) = true := rfl
  have w1 : IntKind.i64.wrap 4 = 4 := by decide
  have w2 : IntKind.i64.wrap 8 = 8 := by decide
  have w3 : IntKind.i64.wrap 3 = 3 := by decide
  have t1 : (qA 3).tries = 3 := rfl
  refine Lp.of_eq hmx c18L1.eq_1 ?_
  repeat' first | refine CX_pure (act_2) rfl rfl rfl rfl ?_ | refine CX_pure (dB_2) rfl rfl rfl rfl ?_ | refine CX_pure (dA_2) rfl rfl rfl rfl ?_ | refine GX_call (fun _ => (act_2)) (by rfl) (by intro h; simp only [h]; rfl) (by rfl) (by rfl) ?_ | refine GX_call (fun _ => (dB_2)) (by rfl) (by intro h; simp only [h]; rfl) (by rfl) (by rfl) ?_ | refine GX_call (fun _ => (dA_2)) (by rfl) (by intro h; simp only [h]; rfl) (by rfl) (by rfl) ?_ | (with_reducible intro h; try simp only [h]) | (with_reducible refine And.intro ?_ ?_) | (change chk _ _ = true; rfl) | simp only [go_sem, seval, Vc_bool, w1, w2, w3, eq_self, decide_true, tt1, tt2, tt3, tt4, Bool.not_true, Bool.not_false, t1] | refine (GX_split rfl).2 ?_
  exact Lp.bk [_, _] hh (by rfl) (by rfl) (by rfl) (Nat.zero_le _)
theorem act_3 : ACalls prog 25 [.agg (qA 3).enc, .int .i64 10] [] (.tup [.agg [.int .i64 1, .int .i64 0, .int .i64 4, .int .i64 1, .int .i64 2, .int .i64 0, .int .i64 0, .int .i64 0, .int .i64 0, .int .i64 0, .int .i64 0, .int .i64 0, .int .i64 0, .str (ByteArray.mk #[104, 105])], .int .i64 0]) [] := act25 errA3 (by rfl) (by rfl)
theorem dB_3 : ACalls prog 28 [.agg (qB).enc, .int .i64 10, .agg [.bool false, .bool true, .int .i64 4, .int .i64 1, .int .i64 2, .int .i64 0, .int .i64 0, .int .i64 0, .int .i64 0, .int .i64 0, .int .i64 0, .int .i64 0, .int .i64 0, .str (ByteArray.mk #[104, 105]), .int .i64 0]] [] (.tup [.agg (qB).enc, .agg [.bool true, .bool false, .int .i64 4, .int .i64 1, .int .i64 2, .int .i64 0, .int .i64 0, .int .i64 0, .int .i64 0, .int .i64 0, .int .i64 0, .int .i64 0, .int .i64 0, .str (ByteArray.mk #[104, 105])], .int .i64 0]) [] := doneB (s := qB) (by right; rfl) errB3 (by rfl) (by rfl)
theorem dA_3 : ACalls prog 28 [.agg (qA 3).enc, .int .i64 10, .agg [.bool false, .bool false, .int .i64 0, .int .i64 0, .int .i64 0, .int .i64 0, .int .i64 0, .int .i64 0, .int .i64 0, .int .i64 0, .int .i64 0, .int .i64 0, .int .i64 0, .str (ByteArray.mk #[]), .int .i64 0]] [] (.tup [.agg (qEnd).enc, .agg [.bool false, .bool false, .int .i64 0, .int .i64 0, .int .i64 0, .int .i64 0, .int .i64 0, .int .i64 0, .int .i64 0, .int .i64 0, .int .i64 0, .int .i64 0, .int .i64 0, .str (ByteArray.mk #[])], .int .i64 0]) [] := doneA (k := 3) (by decide) errA3 (by rfl) (by rfl) (by rfl) (by rfl) (by rfl)
theorem it_3 {k' : List It} {r : AVal} (hh : Lp prog f18.ntmps 0 (Ret [.t 0] 0 r []) c18L1 (.blk 0 :: k') [(33, .int .i64 4), (6, .ptr 2 0 0 0), (1, .ptr 0 0 0 0), (2, .ptr 1 0 0 0)] [.cells 0 14 31 true [(qEnd).enc], .cells 0 14 31 true [(qB).enc], .cells 0 14 43 true [[.int .i64 1, .int .i64 0, .int .i64 4, .int .i64 1, .int .i64 2, .int .i64 0, .int .i64 0, .int .i64 0, .int .i64 0, .int .i64 0, .int .i64 0, .int .i64 0, .int .i64 0, .str (ByteArray.mk #[104, 105])]]]) :
    Lp prog f18.ntmps 0 (Ret [.t 0] 0 r []) c18L1 (.blk 0 :: k') [(33, .int .i64 3), (6, .ptr 2 0 0 0), (1, .ptr 0 0 0 0), (2, .ptr 1 0 0 0)] [.cells 0 14 31 true [(qA 3).enc], .cells 0 14 31 true [(qB).enc], .cells 0 14 43 true [[.int .i64 1, .int .i64 0, .int .i64 4, .int .i64 1, .int .i64 2, .int .i64 0, .int .i64 0, .int .i64 0, .int .i64 0, .int .i64 0, .int .i64 0, .int .i64 0, .int .i64 0, .str (ByteArray.mk #[104, 105])]]] := by
  have l1 : decide ((3 : Int) < 4) = true := rfl
  have w1 : IntKind.i64.wrap 6 = 6 := by decide
  have w2 : IntKind.i64.wrap 10 = 10 := by decide
  have w3 : IntKind.i64.wrap 4 = 4 := by decide
  refine Lp.of_eq hmx c18L1.eq_1 ?_
  repeat' first | refine CX_pure (act_3) rfl rfl rfl rfl ?_ | refine CX_pure (dB_3) rfl rfl rfl rfl ?_ | refine CX_pure (dA_3) rfl rfl rfl rfl ?_ | refine GX_call (fun _ => (act_3)) (by rfl) (by intro h; simp only [h]; rfl) (by rfl) (by rfl) ?_ | refine GX_call (fun _ => (dB_3)) (by rfl) (by intro h; simp only [h]; rfl) (by rfl) (by rfl) ?_ | refine GX_call (fun _ => (dA_3)) (by rfl) (by intro h; simp only [h]; rfl) (by rfl) (by rfl) ?_ | (with_reducible intro h; try simp only [h]) | (with_reducible refine And.intro ?_ ?_) | (change chk _ _ = true; rfl) | simp only [go_sem, seval, Vc_bool, w1, w2, w3, eq_self, decide_true, tt1, tt2, tt3, tt4, Bool.not_true, Bool.not_false] | refine (GX_split rfl).2 ?_
  exact Lp.bk [_, _] hh (by rfl) (by rfl) (by rfl) (Nat.zero_le _)
theorem c18_ok : ACalls prog 18 [] [] (.bool true) [] := by
  refine calls_of hmx func18 (by kernel_rfl) (c := f18.body.getD .skip) rfl e18 (rs := [(.t 0)]) (by kernel_rfl) (by simp [ntmps18]) ?_
  simp only [c18, argS]
  repeat' first | refine CX_pure (c78_ok) rfl rfl rfl rfl ?_ | refine CX_pure (put7) rfl rfl rfl rfl ?_ | refine GX_call (fun _ => (c78_ok)) (by rfl) (by intro h; simp only [h]; rfl) (by rfl) (by rfl) ?_ | refine GX_call (fun _ => (put7)) (by rfl) (by intro h; simp only [h]; rfl) (by rfl) (by rfl) ?_ | (with_reducible intro h; try simp only [h]) | (with_reducible refine And.intro ?_ ?_) | (change chk _ _ = true; rfl) | simp only [go_sem, seval, Vc_bool] | refine (GX_split rfl).2 ?_
  have h := fun (k' : List It) (hk : Lp prog f18.ntmps 0 (Ret [.t 0] 0 (.bool true) []) c18L1 (.blk 0 :: k') [(33, .int .i64 4), (6, .ptr 2 0 0 0), (1, .ptr 0 0 0 0), (2, .ptr 1 0 0 0)] [.cells 0 14 31 true [(qEnd).enc], .cells 0 14 31 true [(qB).enc], .cells 0 14 43 true [[.int .i64 1, .int .i64 0, .int .i64 4, .int .i64 1, .int .i64 2, .int .i64 0, .int .i64 0, .int .i64 0, .int .i64 0, .int .i64 0, .int .i64 0, .int .i64 0, .int .i64 0, .str (ByteArray.mk #[104, 105])]]]) => it_0 (it_1 (it_2 (it_3 hk)))
  refine Lp.bk0 (h _ ?_) (by rfl)
  refine Lp.of_eq hmx c18L1.eq_1 ?_
  have e1 : qEnd.seq = 1 := rfl
  have e2 : qEnd.trying = -1 := rfl
  have e3 : qEnd.q.pk = [] := rfl
  repeat' first | (with_reducible intro h; try simp only [h]) | (with_reducible refine And.intro ?_ ?_) | (change chk _ _ = true; rfl) | simp only [go_sem, seval, Vc_bool, e1, e2, e3, eq_self, decide_true, List.map_nil, List.length_nil] | refine (GX_split rfl).2 ?_
  exact Rt_pure (by rfl) (by rfl)

theorem rg_hdW {α : Type} {L done rest : List α} {c : α} (f : α → List AVal) (hd : L = done ++ c :: rest) (hL : L.length < 2 ^ 63) :
    decide ((done.length : Int) < (L.length : Int)) = true ∧ (L.map f)[done.length]? = some (f c) ∧ IntKind.i64.wrap ((done.length : Int) + 1) = ((done ++ [c]).length : Int) ∧ L = (done ++ [c]) ++ rest := by
  subst hd
  refine ⟨by simp; omega, by simp, ?_, by simp⟩
  simp only [List.length_append, List.length_cons] at hL
  rw [wrap_ok (by omega) (by omega)]
  simp
theorem rg_prevW {α : Type} {L done ds rest : List α} {p : α} (f : α → List AVal) (hd : L = done ++ rest) (h0 : done = ds ++ [p]) (hL : L.length < 2 ^ 63) :
    decide ((0 : Int) < (done.length : Int)) = true ∧ IntKind.i64.wrap ((done.length : Int) - 1) = (ds.length : Int) ∧ (L.map f)[ds.length]? = some (f p) ∧ done.getLast? = some p := by
  subst h0
  subst hd
  refine ⟨by simp, ?_, by simp, by simp⟩
  simp only [List.length_append, List.length_cons, List.length_nil] at hL ⊢
  rw [wrap_ok (by omega) (by omega)]
  omega
theorem l79w (q : Queue) (hL : (q.pk).length < 2 ^ 63) (k' : List It) (hk : ∀ zs, V prog f79.ntmps 0 (Ret [(.t 2)] 0 (.bool true) []) k' zs [.cells 0 2 27 true [q.enc]]) : ∀ (rest done : List Packet), q.pk = done ++ rest →
    Lp prog f79.ntmps 0 (Ret [(.t 2)] 0 (.bool ((rest).all fun p => decide ((p.data.size : Int) ≤ 200))) []) c79L1 (.blk 0 :: k') [(1, .ptr 0 0 0 0), (3, .int .i64 done.length)] [.cells 0 2 27 true [q.enc]] := by
  intro rest
  induction rest with
  | nil =>
    intro done hd
    refine Lp.of_eq hmx c79L1.eq_1 ?_
    have h1 := rg_end hd
    simp only [go_sem, seval, h1, List.length_map]
    exact hk _
  | cons c rest ih =>
    intro done hd
    refine Lp.of_eq hmx c79L1.eq_1 ?_
    obtain ⟨h1, h2, h3, h4⟩ := rg_hdW Packet.enc hd hL
    have ih' := ih _ h4
    rcases List.eq_nil_or_concat done with h0 | ⟨ds, p, h0⟩
    · obtain ⟨p1, hp⟩ := rg_first' h0
      repeat' first | (refine Lp.bkE0 ih' (by rfl) ?_) | (refine Rt_pure ?_ rfl; simp only [retO, retO1, retOs, S, get_cons, Nat.reduceEqDiff, reduceIte, obj, getO_cons_zero, getO_cons_succ, List.getElem?_cons_zero, List.getElem?_cons_succ, List.drop_zero, List.drop_succ_cons, loadFrom_cell, loadFrom_agg, List.length_cons, List.length_nil, Nat.reduceAdd, Nat.reduceLeDiff, List.take_succ_cons, List.take_zero, List.take_nil]) | (with_reducible intro h; try simp only [h]) | (with_reducible refine And.intro ?_ ?_) | (change chk _ _ = true; rfl) | simp only [go_sem, seval, Vc_bool, h1, h2, h3, Int.toNat_natCast, Int.natCast_nonneg, List.length_map, p1] | refine (GX_split rfl).2 ?_
      all_goals (clear hk ih ih' h1 h2 h3 h4 hd hL)
      all_goals clear p1 h0
      all_goals (simp only [List.all_cons]; grind)
    · rw [List.concat_eq_append] at h0
      obtain ⟨p1, p2, p3, hp⟩ := rg_prevW Packet.enc hd h0 hL
      repeat' first | (refine Lp.bkE0 ih' (by rfl) ?_) | (refine Rt_pure ?_ rfl; simp only [retO, retO1, retOs, S, get_cons, Nat.reduceEqDiff, reduceIte, obj, getO_cons_zero, getO_cons_succ, List.getElem?_cons_zero, List.getElem?_cons_succ, List.drop_zero, List.drop_succ_cons, loadFrom_cell, loadFrom_agg, List.length_cons, List.length_nil, Nat.reduceAdd, Nat.reduceLeDiff, List.take_succ_cons, List.take_zero, List.take_nil]) | (with_reducible intro h; try simp only [h]) | (with_reducible refine And.intro ?_ ?_) | (change chk _ _ = true; rfl) | simp only [go_sem, seval, Vc_bool, h1, h2, h3, Int.toNat_natCast, Int.natCast_nonneg, List.length_map, p1, p2, p3] | refine (GX_split rfl).2 ?_
      all_goals (clear hk ih ih' h1 h2 h3 h4 hd hL)
      all_goals clear p1 p2 p3 h0
      all_goals (simp only [List.all_cons]; grind)

theorem c79w_pf (q : Queue) (hL : q.pk.length < 2 ^ 63) : ACalls prog 79 [.agg [.int .i64 q.limit, .sl 6 (q.pk.map Packet.enc)]] [] (.bool (qFew q)) [] := by
  refine calls_of hmx func79 (by kernel_rfl) (c := f79.body.getD .skip) rfl e79 (rs := [(.t 2)]) (by kernel_rfl) (by simp [ntmps79]) ?_
  simp only [c79, argS]
  simp only [go_sem, seval, List.length_map, Vc_bool]
  refine ⟨fun h => ?_, fun h => ?_⟩
  · (refine Rt_pure ?_ rfl; simp only [retO, retO1, retOs, S, get_cons, Nat.reduceEqDiff, reduceIte, obj, getO_cons_zero, getO_cons_succ, List.getElem?_cons_zero, List.getElem?_cons_succ, List.drop_zero, List.drop_succ_cons, loadFrom_cell, loadFrom_agg, List.length_cons, List.length_nil, Nat.reduceAdd, Nat.reduceLeDiff, List.take_succ_cons, List.take_zero, List.take_nil])
    grind [qFew]
  · refine Lp.bkE0 (l79w q hL _ (fun zs => ?_) q.pk [] rfl) (by rfl) ?_
    · simp only [go_sem, seval]
      (refine Rt_pure ?_ rfl; simp only [retO, retO1, retOs, S, get_cons, Nat.reduceEqDiff, reduceIte, obj, getO_cons_zero, getO_cons_succ, List.getElem?_cons_zero, List.getElem?_cons_succ, List.drop_zero, List.drop_succ_cons, loadFrom_cell, loadFrom_agg, List.length_cons, List.length_nil, Nat.reduceAdd, Nat.reduceLeDiff, List.take_succ_cons, List.take_zero, List.take_nil])
    · simp only [qFew]
      grind
theorem c79w_ok {q_limit : Int} {q_pk : List Packet} (hL : q_pk.length < 2 ^ 63) : ACalls prog 79 [.agg [.int .i64 q_limit, .sl 6 (q_pk.map Packet.enc)]] [] (.bool (qFew (⟨q_limit, q_pk⟩ : Queue))) [] := c79w_pf (⟨q_limit, q_pk⟩ : Queue) hL

theorem l19w (s : Station) (hL : (s.held).length < 2 ^ 63) (k' : List It) (hk : ∀ zs, V prog f19.ntmps 0 (Ret [(.t 2)] 0 (.bool true) []) k' zs [.cells 0 14 31 true [s.enc]]) : ∀ (rest done : List Held), s.held = done ++ rest →
    Lp prog f19.ntmps 0 (Ret [(.t 2)] 0 (.bool ((rest).all fun h => decide ((h.data.size : Int) ≤ 200) && decide ((h.acked.length : Int) ≤ 40))) []) c19L1 (.blk 0 :: k') [(1, .ptr 0 0 0 0), (3, .int .i64 done.length)] [.cells 0 14 31 true [s.enc]] := by
  intro rest
  induction rest with
  | nil =>
    intro done hd
    refine Lp.of_eq hmx c19L1.eq_1 ?_
    have h1 := rg_end hd
    simp only [go_sem, seval, h1, List.length_map]
    exact hk _
  | cons c rest ih =>
    intro done hd
    refine Lp.of_eq hmx c19L1.eq_1 ?_
    obtain ⟨h1, h2, h3, h4⟩ := rg_hdW Held.enc hd hL
    have ih' := ih _ h4
    rcases List.eq_nil_or_concat done with h0 | ⟨ds, p, h0⟩
    · obtain ⟨p1, hp⟩ := rg_first' h0
      cases hw0 : (decide (200 < (c.data.size : Int)))
      all_goals
        repeat' first | (refine Lp.bkE0 ih' (by rfl) ?_) | (refine Rt_pure ?_ rfl; simp only [retO, retO1, retOs, S, get_cons, Nat.reduceEqDiff, reduceIte, obj, getO_cons_zero, getO_cons_succ, List.getElem?_cons_zero, List.getElem?_cons_succ, List.drop_zero, List.drop_succ_cons, loadFrom_cell, loadFrom_agg, List.length_cons, List.length_nil, Nat.reduceAdd, Nat.reduceLeDiff, List.take_succ_cons, List.take_zero, List.take_nil]) | (with_reducible intro h; try simp only [h]) | (with_reducible refine And.intro ?_ ?_) | (change chk _ _ = true; rfl) | simp only [go_sem, seval, Vc_bool, h1, h2, h3, Int.toNat_natCast, Int.natCast_nonneg, List.length_map, hw0, p1] | refine (GX_split rfl).2 ?_
        all_goals (clear hk ih ih' h1 h2 h3 h4 hd hL)
        all_goals clear p1 h0
        all_goals (simp only [List.all_cons]; simp only [decide_eq_true_eq, decide_eq_false_iff_not] at hw0; grind)
    · rw [List.concat_eq_append] at h0
      obtain ⟨p1, p2, p3, hp⟩ := rg_prevW Held.enc hd h0 hL
      cases hw0 : (decide (200 < (c.data.size : Int)))
      all_goals
        repeat' first | (refine Lp.bkE0 ih' (by rfl) ?_) | (refine Rt_pure ?_ rfl; simp only [retO, retO1, retOs, S, get_cons, Nat.reduceEqDiff, reduceIte, obj, getO_cons_zero, getO_cons_succ, List.getElem?_cons_zero, List.getElem?_cons_succ, List.drop_zero, List.drop_succ_cons, loadFrom_cell, loadFrom_agg, List.length_cons, List.length_nil, Nat.reduceAdd, Nat.reduceLeDiff, List.take_succ_cons, List.take_zero, List.take_nil]) | (with_reducible intro h; try simp only [h]) | (with_reducible refine And.intro ?_ ?_) | (change chk _ _ = true; rfl) | simp only [go_sem, seval, Vc_bool, h1, h2, h3, Int.toNat_natCast, Int.natCast_nonneg, List.length_map, hw0, p1, p2, p3] | refine (GX_split rfl).2 ?_
        all_goals (clear hk ih ih' h1 h2 h3 h4 hd hL)
        all_goals clear p1 p2 p3 h0
        all_goals (simp only [List.all_cons]; simp only [decide_eq_true_eq, decide_eq_false_iff_not] at hw0; grind)

theorem c19w_pf (s : Station) (hB2 : s.q.pk.length < 2 ^ 63) (hB3 : s.held.length < 2 ^ 63) : ACalls prog 19 [.agg [.int .i64 s.tab.node, .int .i64 s.tab.len, .sl 6 (s.tab.cells.map TCell.enc), .int .i64 s.q.limit, .sl 6 (s.q.pk.map Packet.enc), .sl 5 (s.held.map Held.enc), .sl 2 (s.seen.map Seen.enc), .int .i64 s.list, .int .i64 s.seq, .int .i64 s.trying, .int .i64 s.tries, .int .i64 s.back, .int .i64 s.wait, .int .i64 s.seed]] [] (.bool (stFew s)) [] := by
  refine calls_of hmx func19 (by kernel_rfl) (c := f19.body.getD .skip) rfl e19 (rs := [(.t 2)]) (by kernel_rfl) (by simp [ntmps19]) ?_
  simp only [c19, argS]
  simp only [go_sem, seval]
  repeat' first | (refine Lp.bkE0 (l19w s hB3 _ (fun zs => ?_) s.held [] rfl) (by rfl) ?_) | (refine Rt_pure ?_ rfl; simp only [retO, retO1, retOs, S, get_cons, Nat.reduceEqDiff, reduceIte, obj, getO_cons_zero, getO_cons_succ, List.getElem?_cons_zero, List.getElem?_cons_succ, List.drop_zero, List.drop_succ_cons, loadFrom_cell, loadFrom_agg, List.length_cons, List.length_nil, Nat.reduceAdd, Nat.reduceLeDiff, List.take_succ_cons, List.take_zero, List.take_nil]) | refine CX_pure c68_ok rfl rfl rfl rfl ?_ | refine CX_pure (c79w_ok hB2) rfl rfl rfl rfl ?_ | refine GX_call (fun _ => c68_ok) (by rfl) (by intro h; simp only [h]; rfl) (by rfl) (by rfl) ?_ | refine GX_call (fun _ => (c79w_ok hB2)) (by rfl) (by intro h; simp only [h]; rfl) (by rfl) (by rfl) ?_ | (with_reducible intro h; try simp only [h]) | (with_reducible refine And.intro ?_ ?_) | (change chk _ _ = true; rfl) | simp only [go_sem, seval, Vc_bool, List.length_map] | refine (GX_split rfl).2 ?_
  all_goals simp only [stFew, heldFew]
  all_goals grind
theorem slot0 {s : Station} {slot : Int} (h : slotErr s slot = 0) : stOk s = true ∧ 0 ≤ slot ∧ slot ≤ 109951162 ∧ tabErr s.tab = 0 ∧ qErr s.q = 0 := by
  unfold slotErr at h
  split at h
  · cases h
  · split at h
    · cases h
    · rename_i h1 h2
      have h3 : stOk s = true := by simpa using h1
      simp only [Bool.or_eq_true, decide_eq_true_eq, not_or] at h2
      have h4 := h3
      simp only [stOk, pksOk, Bool.and_eq_true, decide_eq_true_eq] at h4
      exact ⟨h3, by omega, by omega, h4.1.1.1.1.1.1.1.1.1, h4.1.1.1.1.1.1.1.1.2.1⟩
def c31L1 : SC := (.seq (.seq (.reg [(.mv 15 (.t 6)), (.fa 16 (.t 2) 2), (.ld 17 (.t 16) false 1), (.len 18 false (.t 17)), (.bin 19 .lss (.t 15) (.t 18))]) (.cond (.t 19) .skip (.exit 0))) (.seq (.block 1 (.seq (.regD [(.fa 22 (.t 2) 2), (.ld 23 (.t 22) false 1), (.mv 24 (.t 6)), (.ia 25 (.t 23) (.t 24) 6), (.fa 26 (.t 25) 0), (.ld 27 (.t 26) false 1), (.mv 28 (.t 1)), (.fa 29 (.t 2) 1), (.ld 30 (.t 29) false 1), (.bin 31 .rem (.t 28) (.t 30)), (.bin 32 .eql (.t 27) (.t 31))] []) (.cond (.t 32) (.seq (.reg [(.fa 33 (.t 2) 2), (.ld 34 (.t 33) false 1), (.mv 35 (.t 6)), (.ia 36 (.t 34) (.t 35) 6), (.ld 37 (.t 36) true 6), (.st (.t 4) (.t 37) 6), (.mv 5 (.c (.bool true)))]) .ret) .skip))) (.reg [(.mv 20 (.t 6)), (.bin 21 .add (.t 20) (.c (.int .i64 1))), (.mv 6 (.t 21))])))
def c31 : SC := (.seq (.reg [(.box 2 24 (.t 0)), (.alc 4 57 [(.int .i64 0), (.int .i64 0), (.int .i64 0), (.bool false), (.int .i64 0), (.int .i64 0)]), (.mv 5 (.c (.bool false)))]) (.seq (.seq (.reg [(.ld 7 (.t 2) true 3), (.call (some 8) (.c (.func 83 [] [])) [(.t 7)]), (.bin 9 .neq (.t 8) (.c (.int .i64 0))), (.mv 10 (.t 9)), (.g 10 false (some 11) (.mv 11 (.t 1))), (.g 10 false (some 12) (.bin 12 .lss (.t 11) (.c (.int .i64 0)))), (.pick 13 (.t 10) (.c (.bool true)) (.t 12))]) (.cond (.t 13) (.seq (.reg [(.bld 14 [(.int .i64 0), (.int .i64 0), (.int .i64 0), (.bool false), (.int .i64 0), (.int .i64 0)] []), (.st (.t 4) (.t 14) 6), (.mv 5 (.c (.bool false)))]) .ret) .skip)) (.seq (.seq (.reg [(.mv 6 (.c (.int .i64 0)))]) (.block 0 (.loop c31L1))) (.seq (.reg [(.bld 38 [(.int .i64 0), (.int .i64 0), (.int .i64 0), (.bool false), (.int .i64 0), (.int .i64 0)] []), (.st (.t 4) (.t 38) 6), (.mv 5 (.c (.bool false)))]) .ret))))
theorem e31 : compC prog f31.ntmps (f31.body.getD .skip) = c31 := by kernel_rfl
def c107L1 : SC := (.seq (.seq (.reg [(.mv 6 (.t 5)), (.fa 7 (.t 2) 5), (.ld 8 (.t 7) false 1), (.len 9 false (.t 8)), (.bin 10 .lss (.t 6) (.t 9))]) (.cond (.t 10) .skip (.exit 0))) (.seq (.block 1 (.seq (.reg [(.fa 13 (.t 2) 5), (.ld 14 (.t 13) false 1), (.mv 15 (.t 5)), (.ia 16 (.t 14) (.t 15) 5), (.fa 17 (.t 16) 0), (.ld 18 (.t 17) false 1), (.mv 19 (.t 1)), (.bin 20 .eql (.t 18) (.t 19))]) (.cond (.t 20) (.seq (.reg [(.mv 21 (.t 5)), (.mv 4 (.t 21))]) .ret) .skip))) (.reg [(.mv 11 (.t 5)), (.bin 12 .add (.t 11) (.c (.int .i64 1))), (.mv 5 (.t 12))])))
def c107 : SC := (.seq (.reg [(.box 2 31 (.t 0)), (.mv 4 (.c (.int .i64 0)))]) (.seq (.seq (.reg [(.mv 5 (.c (.int .i64 0)))]) (.block 0 (.loop c107L1))) (.seq (.reg [(.mv 4 (.c (.int .i64 (-1))))]) .ret)))
theorem e107 : compC prog f107.ntmps (f107.body.getD .skip) = c107 := by kernel_rfl
def c195L1 : SC := (.seq (.seq (.reg [(.mv 6 (.t 5)), (.mv 7 (.t 0)), (.len 8 false (.t 7)), (.bin 9 .lss (.t 6) (.t 8))]) (.cond (.t 9) .skip (.exit 0))) (.seq (.block 1 (.seq (.reg [(.mv 12 (.t 0)), (.mv 13 (.t 5)), (.ia 14 (.t 12) (.t 13) 1), (.ld 15 (.t 14) false 1), (.mv 16 (.t 1)), (.bin 17 .eql (.t 15) (.t 16))]) (.cond (.t 17) (.seq (.reg [(.mv 4 (.c (.bool true)))]) .ret) .skip))) (.reg [(.mv 10 (.t 5)), (.bin 11 .add (.t 10) (.c (.int .i64 1))), (.mv 5 (.t 11))])))
def c195 : SC := (.seq (.reg [(.mv 4 (.c (.bool false)))]) (.seq (.seq (.reg [(.mv 5 (.c (.int .i64 0)))]) (.block 0 (.loop c195L1))) (.seq (.reg [(.mv 4 (.c (.bool false)))]) .ret)))
theorem e195 : compC prog f195.ntmps (f195.body.getD .skip) = c195 := by kernel_rfl
def c196L1 : SC := (.seq (.seq (.reg [(.mv 11 (.t 6)), (.fa 12 (.t 2) 1), (.ld 13 (.t 12) false 1), (.len 14 false (.t 13)), (.bin 15 .lss (.t 11) (.t 14))]) (.cond (.t 15) .skip (.exit 0))) (.seq (.block 1 (.seq (.reg [(.fa 18 (.t 2) 1), (.ld 19 (.t 18) false 1), (.mv 20 (.t 6)), (.ia 21 (.t 19) (.t 20) 6), (.fa 22 (.t 21) 1), (.ld 23 (.t 22) false 1), (.mv 24 (.t 1)), (.bin 25 .eql (.t 23) (.t 24))]) (.cond (.t 25) (.seq (.reg [(.fa 26 (.t 2) 1), (.ld 27 (.t 26) false 1), (.mv 28 (.t 6)), (.ia 29 (.t 27) (.t 28) 6), (.ld 30 (.t 29) true 6), (.st (.t 4) (.t 30) 6), (.mv 5 (.c (.bool true)))]) .ret) .skip))) (.reg [(.mv 16 (.t 6)), (.bin 17 .add (.t 16) (.c (.int .i64 1))), (.mv 6 (.t 17))])))
def c196 : SC := (.seq (.reg [(.box 2 27 (.t 0)), (.alc 4 104 [(.int .i64 0), (.int .i64 0), (.int .i64 0), (.int .i64 0), (.int .i64 0), (.str (ByteArray.mk #[]))]), (.mv 5 (.c (.bool false)))]) (.seq (.seq (.reg [(.ld 7 (.t 2) true 2), (.call (some 8) (.c (.func 88 [] [])) [(.t 7)]), (.bin 9 .neq (.t 8) (.c (.int .i64 0)))]) (.cond (.t 9) (.seq (.reg [(.bld 10 [(.int .i64 0), (.int .i64 0), (.int .i64 0), (.int .i64 0), (.int .i64 0), (.str (ByteArray.mk #[]))] []), (.st (.t 4) (.t 10) 6), (.mv 5 (.c (.bool false)))]) .ret) .skip)) (.seq (.seq (.reg [(.mv 6 (.c (.int .i64 0)))]) (.block 0 (.loop c196L1))) (.seq (.reg [(.bld 31 [(.int .i64 0), (.int .i64 0), (.int .i64 0), (.int .i64 0), (.int .i64 0), (.str (ByteArray.mk #[]))] []), (.st (.t 4) (.t 31) 6), (.mv 5 (.c (.bool false)))]) .ret))))
theorem e196 : compC prog f196.ntmps (f196.body.getD .skip) = c196 := by kernel_rfl
def c197 : SC := (.seq (.reg [(.box 2 31 (.t 0)), (.box 3 104 (.t 1)), (.alc 4 41 [(.int .i64 0), (.int .i64 0), (.int .i64 0), (.int .i64 0), (.int .i64 0), (.int .i64 0), (.int .i64 0), (.int .i64 0), (.int .i64 0), (.int .i64 0), (.int .i64 0), (.str (ByteArray.mk #[]))])]) (.seq (.reg [(.fa 5 (.t 2) 0), (.fa 6 (.t 5) 0), (.ld 7 (.t 6) false 1), (.fa 8 (.t 3) 1), (.ld 9 (.t 8) false 1), (.fa 10 (.t 2) 7), (.ld 11 (.t 10) false 1), (.fa 12 (.t 2) 8), (.ld 13 (.t 12) false 1), (.fa 14 (.t 3) 5), (.ld 15 (.t 14) false 1), (.bld 16 [(.int .i64 0), (.int .i64 0), (.int .i64 0), (.int .i64 0), (.int .i64 0), (.int .i64 0), (.int .i64 0), (.int .i64 0), (.int .i64 0), (.int .i64 0), (.int .i64 0), (.str (ByteArray.mk #[]))] [(0, 1, (.c (.int .i64 4))), (1, 1, (.t 7)), (2, 1, (.t 9)), (3, 1, (.t 11)), (4, 1, (.t 13)), (11, 1, (.t 15))]), (.st (.t 4) (.t 16) 12)]) .ret))
theorem e197 : compC prog f197.ntmps (f197.body.getD .skip) = c197 := by kernel_rfl
theorem l31 (t : Table) (slot : Int) (hn0 : t.len ≠ 0) (hL : (t.cells).length < 2 ^ 62) (k' : List It) (hk : ∀ zs, get zs 4 = .ptr 1 0 0 0 → V prog f31.ntmps 0 (Ret [(.cell 4 true 6), (.t 5)] 0 (.tup [.agg TCell.zero.enc, .bool false]) []) k' zs [.cells 0 3 24 true [t.enc], .cells 0 6 57 true [TCell.zero.enc]]) : ∀ (rest done : List TCell), t.cells = done ++ rest →
    Lp prog f31.ntmps 0 (Ret [(.cell 4 true 6), (.t 5)] 0 (.tup [.agg (((rest).find? fun c => decide (c.slot = slot.tmod t.len)).getD TCell.zero).enc, .bool ((rest).find? fun c => decide (c.slot = slot.tmod t.len)).isSome]) []) c31L1 (.blk 0 :: k') [(2, .ptr 0 0 0 0), (4, .ptr 1 0 0 0), (1, .int .i64 slot), (6, .int .i64 done.length)] [.cells 0 3 24 true [t.enc], .cells 0 6 57 true [TCell.zero.enc]] := by
  intro rest
  induction rest with
  | nil =>
    intro done hd
    refine Lp.of_eq hmx c31L1.eq_1 ?_
    have h1 := rg_end hd
    simp only [go_sem, seval, h1, List.length_map]
    exact hk _ (by rfl)
  | cons c rest ih =>
    intro done hd
    refine Lp.of_eq hmx c31L1.eq_1 ?_
    obtain ⟨h1, h2, h3, h4⟩ := rg_hd TCell.enc hd hL
    have ih' := ih _ h4
    rcases List.eq_nil_or_concat done with h0 | ⟨ds, p, h0⟩
    · obtain ⟨p1, hp⟩ := rg_first' h0
      repeat' first | (refine Lp.bkE0 ih' (by rfl) ?_) | (refine Rt_pure ?_ rfl; simp only [retO, retO1, retOs, S, get_cons, Nat.reduceEqDiff, reduceIte, obj, getO_cons_zero, getO_cons_succ, List.getElem?_cons_zero, List.getElem?_cons_succ, List.drop_zero, List.drop_succ_cons, loadFrom_cell, loadFrom_agg, List.length_cons, List.length_nil, Nat.reduceAdd, Nat.reduceLeDiff, List.take_succ_cons, List.take_zero, List.take_nil]) | (with_reducible intro h; try simp only [h]) | (with_reducible refine And.intro ?_ ?_) | (change chk _ _ = true; rfl) | simp only [go_sem, seval, Vc_bool, h1, h2, h3, Int.toNat_natCast, Int.natCast_nonneg, List.length_map, p1] | refine (GX_split rfl).2 ?_
      all_goals (clear hk ih ih' h1 h2 h3 h4 hd hL)
      all_goals clear p1 h0
      all_goals first | exact hn0 | (simp only [List.find?_cons]; simp_all) | grind
    · rw [List.concat_eq_append] at h0
      obtain ⟨p1, p2, p3, hp⟩ := rg_prev' TCell.enc hd h0 hL
      repeat' first | (refine Lp.bkE0 ih' (by rfl) ?_) | (refine Rt_pure ?_ rfl; simp only [retO, retO1, retOs, S, get_cons, Nat.reduceEqDiff, reduceIte, obj, getO_cons_zero, getO_cons_succ, List.getElem?_cons_zero, List.getElem?_cons_succ, List.drop_zero, List.drop_succ_cons, loadFrom_cell, loadFrom_agg, List.length_cons, List.length_nil, Nat.reduceAdd, Nat.reduceLeDiff, List.take_succ_cons, List.take_zero, List.take_nil]) | (with_reducible intro h; try simp only [h]) | (with_reducible refine And.intro ?_ ?_) | (change chk _ _ = true; rfl) | simp only [go_sem, seval, Vc_bool, h1, h2, h3, Int.toNat_natCast, Int.natCast_nonneg, List.length_map, p1, p2, p3] | refine (GX_split rfl).2 ?_
      all_goals (clear hk ih ih' h1 h2 h3 h4 hd hL)
      all_goals clear p1 p2 p3 h0
      all_goals first | exact hn0 | (simp only [List.find?_cons]; simp_all) | grind

theorem c31_pf (t : Table) (slot : Int) (hL : t.cells.length < 2 ^ 62) : ACalls prog 31 [.agg [.int .i64 t.node, .int .i64 t.len, .sl 6 (t.cells.map TCell.enc)], .int .i64 slot] [] (.tup [.agg ((tabAt t slot).getD TCell.zero).enc, .bool (tabAt t slot).isSome]) [] := by
  refine calls_of hmx func31 (by kernel_rfl) (c := f31.body.getD .skip) rfl e31 (rs := [(.cell 4 true 6), (.t 5)]) (by kernel_rfl) (by simp [ntmps31]) ?_
  simp only [c31, argS]
  simp only [go_sem, seval]
  repeat' first | refine CX_pure (c83_ok hL) rfl rfl rfl rfl ?_ | refine GX_call (fun _ => (c83_ok hL)) (by rfl) (by intro h; simp only [h]; rfl) (by rfl) (by rfl) ?_ | (with_reducible intro h; try simp only [h]) | (with_reducible refine And.intro ?_ ?_) | (change chk _ _ = true; rfl) | simp only [go_sem, seval, Vc_bool] | refine (GX_split rfl).2 ?_
  · have e : tabAt t slot = none := by
      rw [tabAt, if_pos]
      simpa using h
    rw [e]
    (refine Rt_pure ?_ rfl; simp only [retO, retO1, retOs, S, get_cons, Nat.reduceEqDiff, reduceIte, obj, getO_cons_zero, getO_cons_succ, List.getElem?_cons_zero, List.getElem?_cons_succ, List.drop_zero, List.drop_succ_cons, loadFrom_cell, loadFrom_agg, List.length_cons, List.length_nil, Nat.reduceAdd, Nat.reduceLeDiff, List.take_succ_cons, List.take_zero, List.take_nil])
    rfl
  · simp only [Bool.or_eq_false_iff, Bool.not_eq_false', decide_eq_true_eq, decide_eq_false_iff_not] at h
    have e : tabAt t slot = t.cells.find? fun c => decide (c.slot = slot.tmod t.len) := by
      rw [tabAt, if_neg]
      simp [h.1]; omega
    rw [e]
    have := tab_len h.1
    refine Lp.bkE0 (l31 t slot (by omega) hL _ (fun zs z4 => ?_) t.cells [] rfl) (by rfl) rfl
    repeat' first | (with_reducible intro h; try simp only [h]) | (with_reducible refine And.intro ?_ ?_) | (change chk _ _ = true; rfl) | simp only [go_sem, seval, Vc_bool, z4] | refine (GX_split rfl).2 ?_
    refine Rt_pure ?_ (by rfl)
    simp only [retO, retOs, retO1, S, get_cons, Nat.reduceEqDiff, reduceIte, z4]
    rfl
theorem l107 (s : Station) (x : Int) (hL : (s.held).length < 2 ^ 62) (k' : List It) (hk : ∀ zs, V prog f107.ntmps 0 (Ret [(.t 4)] 0 (.int .i64 (-1)) []) k' zs [.cells 0 14 31 true [s.enc]]) : ∀ (rest done : List Held), s.held = done ++ rest →
    Lp prog f107.ntmps 0 (Ret [(.t 4)] 0 (.int .i64 (idxFrom (fun h : Held => decide (h.flow = x)) done.length rest)) []) c107L1 (.blk 0 :: k') [(2, .ptr 0 0 0 0), (1, .int .i64 x), (5, .int .i64 done.length)] [.cells 0 14 31 true [s.enc]] := by
  intro rest
  induction rest with
  | nil =>
    intro done hd
    refine Lp.of_eq hmx c107L1.eq_1 ?_
    have h1 := rg_end hd
    simp only [go_sem, seval, h1, List.length_map]
    exact hk _
  | cons c rest ih =>
    intro done hd
    refine Lp.of_eq hmx c107L1.eq_1 ?_
    obtain ⟨h1, h2, h3, h4⟩ := rg_hd Held.enc hd hL
    have ih' := ih _ h4
    rcases List.eq_nil_or_concat done with h0 | ⟨ds, p, h0⟩
    · obtain ⟨p1, hp⟩ := rg_first' h0
      repeat' first | (refine Lp.bkE0 ih' (by rfl) ?_) | (refine Rt_pure ?_ rfl; simp only [retO, retO1, retOs, S, get_cons, Nat.reduceEqDiff, reduceIte, obj, getO_cons_zero, getO_cons_succ, List.getElem?_cons_zero, List.getElem?_cons_succ, List.drop_zero, List.drop_succ_cons, loadFrom_cell, loadFrom_agg, List.length_cons, List.length_nil, Nat.reduceAdd, Nat.reduceLeDiff, List.take_succ_cons, List.take_zero, List.take_nil]) | (with_reducible intro h; try simp only [h]) | (with_reducible refine And.intro ?_ ?_) | (change chk _ _ = true; rfl) | simp only [go_sem, seval, Vc_bool, h1, h2, h3, Int.toNat_natCast, Int.natCast_nonneg, List.length_map, p1] | refine (GX_split rfl).2 ?_
      all_goals (clear hk ih ih' h1 h2 h3 h4 hd hL)
      all_goals clear p1 h0
      all_goals (simp only [idxFrom]; grind)
    · rw [List.concat_eq_append] at h0
      obtain ⟨p1, p2, p3, hp⟩ := rg_prev' Held.enc hd h0 hL
      repeat' first | (refine Lp.bkE0 ih' (by rfl) ?_) | (refine Rt_pure ?_ rfl; simp only [retO, retO1, retOs, S, get_cons, Nat.reduceEqDiff, reduceIte, obj, getO_cons_zero, getO_cons_succ, List.getElem?_cons_zero, List.getElem?_cons_succ, List.drop_zero, List.drop_succ_cons, loadFrom_cell, loadFrom_agg, List.length_cons, List.length_nil, Nat.reduceAdd, Nat.reduceLeDiff, List.take_succ_cons, List.take_zero, List.take_nil]) | (with_reducible intro h; try simp only [h]) | (with_reducible refine And.intro ?_ ?_) | (change chk _ _ = true; rfl) | simp only [go_sem, seval, Vc_bool, h1, h2, h3, Int.toNat_natCast, Int.natCast_nonneg, List.length_map, p1, p2, p3] | refine (GX_split rfl).2 ?_
      all_goals (clear hk ih ih' h1 h2 h3 h4 hd hL)
      all_goals clear p1 p2 p3 h0
      all_goals (simp only [idxFrom]; grind)

theorem c107_pf (s : Station) (x : Int) (hL : s.held.length < 2 ^ 62) : ACalls prog 107 [.agg [.int .i64 s.tab.node, .int .i64 s.tab.len, .sl 6 (s.tab.cells.map TCell.enc), .int .i64 s.q.limit, .sl 6 (s.q.pk.map Packet.enc), .sl 5 (s.held.map Held.enc), .sl 2 (s.seen.map Seen.enc), .int .i64 s.list, .int .i64 s.seq, .int .i64 s.trying, .int .i64 s.tries, .int .i64 s.back, .int .i64 s.wait, .int .i64 s.seed], .int .i64 x] [] (.int .i64 (heldIdx s.held x)) [] := by
  refine calls_of hmx func107 (by kernel_rfl) (c := f107.body.getD .skip) rfl e107 (rs := [(.t 4)]) (by kernel_rfl) (by simp [ntmps107]) ?_
  simp only [c107, argS]
  simp only [go_sem, seval]
  refine Lp.bkE0 (l107 s x hL _ (fun zs => ?_) s.held [] rfl) (by rfl) rfl
  simp only [go_sem, seval]
  (refine Rt_pure ?_ rfl; simp only [retO, retO1, retOs, S, get_cons, Nat.reduceEqDiff, reduceIte, obj, getO_cons_zero, getO_cons_succ, List.getElem?_cons_zero, List.getElem?_cons_succ, List.drop_zero, List.drop_succ_cons, loadFrom_cell, loadFrom_agg, List.length_cons, List.length_nil, Nat.reduceAdd, Nat.reduceLeDiff, List.take_succ_cons, List.take_zero, List.take_nil])
theorem l195 (l : List Int) (x : Int) (hL : (l).length < 2 ^ 62) (k' : List It) (hk : ∀ zs, V prog f195.ntmps 0 (Ret [(.t 4)] 0 (.bool false) []) k' zs []) : ∀ (rest done : List Int), l = done ++ rest →
    Lp prog f195.ntmps 0 (Ret [(.t 4)] 0 (.bool ((rest).any fun y => decide (y = x))) []) c195L1 (.blk 0 :: k') [(0, .sl 1 (l.map eI)), (1, .int .i64 x), (5, .int .i64 done.length)] [] := by
  intro rest
  induction rest with
  | nil =>
    intro done hd
    refine Lp.of_eq hmx c195L1.eq_1 ?_
    have h1 := rg_end hd
    simp only [go_sem, seval, h1, List.length_map]
    exact hk _
  | cons c rest ih =>
    intro done hd
    refine Lp.of_eq hmx c195L1.eq_1 ?_
    obtain ⟨h1, h2, h3, h4⟩ := rg_hd eI hd hL
    have ih' := ih _ h4
    rcases List.eq_nil_or_concat done with h0 | ⟨ds, p, h0⟩
    · obtain ⟨p1, hp⟩ := rg_first' h0
      repeat' first | (refine Lp.bkE0 ih' (by rfl) ?_) | (refine Rt_pure ?_ rfl; simp only [retO, retO1, retOs, S, get_cons, Nat.reduceEqDiff, reduceIte, obj, getO_cons_zero, getO_cons_succ, List.getElem?_cons_zero, List.getElem?_cons_succ, List.drop_zero, List.drop_succ_cons, loadFrom_cell, loadFrom_agg, List.length_cons, List.length_nil, Nat.reduceAdd, Nat.reduceLeDiff, List.take_succ_cons, List.take_zero, List.take_nil]) | (with_reducible intro h; try simp only [h]) | (with_reducible refine And.intro ?_ ?_) | (change chk _ _ = true; rfl) | simp only [go_sem, seval, Vc_bool, h1, h2, h3, Int.toNat_natCast, Int.natCast_nonneg, List.length_map, p1] | refine (GX_split rfl).2 ?_
      all_goals (clear hk ih ih' h1 h2 h3 h4 hd hL)
      all_goals clear p1 h0
      all_goals (simp only [List.any_cons]; grind)
    · rw [List.concat_eq_append] at h0
      obtain ⟨p1, p2, p3, hp⟩ := rg_prev' eI hd h0 hL
      repeat' first | (refine Lp.bkE0 ih' (by rfl) ?_) | (refine Rt_pure ?_ rfl; simp only [retO, retO1, retOs, S, get_cons, Nat.reduceEqDiff, reduceIte, obj, getO_cons_zero, getO_cons_succ, List.getElem?_cons_zero, List.getElem?_cons_succ, List.drop_zero, List.drop_succ_cons, loadFrom_cell, loadFrom_agg, List.length_cons, List.length_nil, Nat.reduceAdd, Nat.reduceLeDiff, List.take_succ_cons, List.take_zero, List.take_nil]) | (with_reducible intro h; try simp only [h]) | (with_reducible refine And.intro ?_ ?_) | (change chk _ _ = true; rfl) | simp only [go_sem, seval, Vc_bool, h1, h2, h3, Int.toNat_natCast, Int.natCast_nonneg, List.length_map, p1, p2, p3] | refine (GX_split rfl).2 ?_
      all_goals (clear hk ih ih' h1 h2 h3 h4 hd hL)
      all_goals clear p1 p2 p3 h0
      all_goals (simp only [List.any_cons]; grind)

theorem c195_ok {l : List Int} {x : Int} (hL : l.length < 2 ^ 62) : ACalls prog 195 [.sl 1 (l.map eI), .int .i64 x] [] (.bool (l.any fun y => decide (y = x))) [] := by
  refine calls_of hmx func195 (by kernel_rfl) (c := f195.body.getD .skip) rfl e195 (rs := [(.t 4)]) (by kernel_rfl) (by simp [ntmps195]) ?_
  simp only [c195, argS]
  simp only [go_sem, seval]
  refine Lp.bkE0 (l195 l x hL _ (fun s => ?_) l [] rfl) (by rfl) rfl
  simp only [go_sem, seval]
  (refine Rt_pure ?_ rfl; simp only [retO, retO1, retOs, S, get_cons, Nat.reduceEqDiff, reduceIte, obj, getO_cons_zero, getO_cons_succ, List.getElem?_cons_zero, List.getElem?_cons_succ, List.drop_zero, List.drop_succ_cons, loadFrom_cell, loadFrom_agg, List.length_cons, List.length_nil, Nat.reduceAdd, Nat.reduceLeDiff, List.take_succ_cons, List.take_zero, List.take_nil])
theorem l196 (q : Queue) (to : Int) (hL : (q.pk).length < 2 ^ 62) (k' : List It) (hk : ∀ zs, get zs 4 = .ptr 1 0 0 0 → V prog f196.ntmps 0 (Ret [(.cell 4 true 6), (.t 5)] 0 (.tup [.agg Packet.zero.enc, .bool false]) []) k' zs [.cells 0 2 27 true [q.enc], .cells 0 6 104 true [Packet.zero.enc]]) : ∀ (rest done : List Packet), q.pk = done ++ rest →
    Lp prog f196.ntmps 0 (Ret [(.cell 4 true 6), (.t 5)] 0 (.tup [.agg (((rest).find? fun p => decide (p.to = to)).getD Packet.zero).enc, .bool ((rest).find? fun p => decide (p.to = to)).isSome]) []) c196L1 (.blk 0 :: k') [(2, .ptr 0 0 0 0), (4, .ptr 1 0 0 0), (1, .int .i64 to), (6, .int .i64 done.length)] [.cells 0 2 27 true [q.enc], .cells 0 6 104 true [Packet.zero.enc]] := by
  intro rest
  induction rest with
  | nil =>
    intro done hd
    refine Lp.of_eq hmx c196L1.eq_1 ?_
    have h1 := rg_end hd
    simp only [go_sem, seval, h1, List.length_map]
    exact hk _ (by rfl)
  | cons c rest ih =>
    intro done hd
    refine Lp.of_eq hmx c196L1.eq_1 ?_
    obtain ⟨h1, h2, h3, h4⟩ := rg_hd Packet.enc hd hL
    have ih' := ih _ h4
    rcases List.eq_nil_or_concat done with h0 | ⟨ds, p, h0⟩
    · obtain ⟨p1, hp⟩ := rg_first' h0
      repeat' first | (refine Lp.bkE0 ih' (by rfl) ?_) | (refine Rt_pure ?_ rfl; simp only [retO, retO1, retOs, S, get_cons, Nat.reduceEqDiff, reduceIte, obj, getO_cons_zero, getO_cons_succ, List.getElem?_cons_zero, List.getElem?_cons_succ, List.drop_zero, List.drop_succ_cons, loadFrom_cell, loadFrom_agg, List.length_cons, List.length_nil, Nat.reduceAdd, Nat.reduceLeDiff, List.take_succ_cons, List.take_zero, List.take_nil]) | (with_reducible intro h; try simp only [h]) | (with_reducible refine And.intro ?_ ?_) | (change chk _ _ = true; rfl) | simp only [go_sem, seval, Vc_bool, h1, h2, h3, Int.toNat_natCast, Int.natCast_nonneg, List.length_map, p1] | refine (GX_split rfl).2 ?_
      all_goals (clear hk ih ih' h1 h2 h3 h4 hd hL)
      all_goals clear p1 h0
      all_goals first | (simp only [List.find?_cons]; simp_all) | grind
    · rw [List.concat_eq_append] at h0
      obtain ⟨p1, p2, p3, hp⟩ := rg_prev' Packet.enc hd h0 hL
      repeat' first | (refine Lp.bkE0 ih' (by rfl) ?_) | (refine Rt_pure ?_ rfl; simp only [retO, retO1, retOs, S, get_cons, Nat.reduceEqDiff, reduceIte, obj, getO_cons_zero, getO_cons_succ, List.getElem?_cons_zero, List.getElem?_cons_succ, List.drop_zero, List.drop_succ_cons, loadFrom_cell, loadFrom_agg, List.length_cons, List.length_nil, Nat.reduceAdd, Nat.reduceLeDiff, List.take_succ_cons, List.take_zero, List.take_nil]) | (with_reducible intro h; try simp only [h]) | (with_reducible refine And.intro ?_ ?_) | (change chk _ _ = true; rfl) | simp only [go_sem, seval, Vc_bool, h1, h2, h3, Int.toNat_natCast, Int.natCast_nonneg, List.length_map, p1, p2, p3] | refine (GX_split rfl).2 ?_
      all_goals (clear hk ih ih' h1 h2 h3 h4 hd hL)
      all_goals clear p1 p2 p3 h0
      all_goals first | (simp only [List.find?_cons]; simp_all) | grind

theorem c196_pf (q : Queue) (to : Int) (hL : q.pk.length < 2 ^ 62) : ACalls prog 196 [.agg [.int .i64 q.limit, .sl 6 (q.pk.map Packet.enc)], .int .i64 to] [] (oPk (qFirst q to)) [] := by
  have e0 : qErr q ≠ 0 → qFirst q to = none := fun h => by rw [qFirst, if_pos h]
  have e1 : qErr q = 0 → qFirst q to = q.pk.find? fun p => decide (p.to = to) := fun h => by rw [qFirst, if_neg (by simpa using h)]
  refine calls_of hmx func196 (by kernel_rfl) (c := f196.body.getD .skip) rfl e196 (rs := [(.cell 4 true 6), (.t 5)]) (by kernel_rfl) (by simp [ntmps196]) ?_
  simp only [c196, argS]
  simp only [go_sem, seval]
  repeat' first | refine CX_pure (c88_ok hL) rfl rfl rfl rfl ?_ | refine GX_call (fun _ => (c88_ok hL)) (by rfl) (by intro h; simp only [h]; rfl) (by rfl) (by rfl) ?_ | (with_reducible intro h; try simp only [h]) | (with_reducible refine And.intro ?_ ?_) | (change chk _ _ = true; rfl) | simp only [go_sem, seval, Vc_bool] | refine (GX_split rfl).2 ?_
  · rw [e0 (by simpa using h)]
    (refine Rt_pure ?_ rfl; simp only [retO, retO1, retOs, S, get_cons, Nat.reduceEqDiff, reduceIte, obj, getO_cons_zero, getO_cons_succ, List.getElem?_cons_zero, List.getElem?_cons_succ, List.drop_zero, List.drop_succ_cons, loadFrom_cell, loadFrom_agg, List.length_cons, List.length_nil, Nat.reduceAdd, Nat.reduceLeDiff, List.take_succ_cons, List.take_zero, List.take_nil])
    rfl
  · rw [e1 (by simpa using h)]
    refine Lp.bkE0 (l196 q to hL _ (fun zs z4 => ?_) q.pk [] rfl) (by rfl) rfl
    repeat' first | (with_reducible intro h; try simp only [h]) | (with_reducible refine And.intro ?_ ?_) | (change chk _ _ = true; rfl) | simp only [go_sem, seval, Vc_bool, z4] | refine (GX_split rfl).2 ?_
    refine Rt_pure ?_ (by rfl)
    simp only [retO, retOs, retO1, S, get_cons, Nat.reduceEqDiff, reduceIte, z4]
    rfl
theorem c197_ok {s : Station} {p : Packet} : ACalls prog 197 [.agg s.enc, .agg p.enc] [] (.agg (msgOf s p).enc) [] := by
  refine calls_of hmx func197 (by kernel_rfl) (c := f197.body.getD .skip) rfl e197 (rs := [(.cell 4 true 12)]) (by kernel_rfl) (by simp [ntmps197]) ?_
  simp only [c197, argS]
  simp only [go_sem, seval]
  exact Rt_pure (by rfl) (by rfl)
def c303L1 : SC := (.seq (.seq (.reg [(.mv 6 (.t 5)), (.fa 7 (.t 2) 2), (.ld 8 (.t 7) false 1), (.len 9 false (.t 8)), (.bin 10 .lss (.t 6) (.t 9))]) (.cond (.t 10) .skip (.exit 0))) (.seq (.block 1 (.seq (.reg [(.fa 13 (.t 2) 2), (.ld 14 (.t 13) false 1), (.mv 15 (.t 5)), (.ia 16 (.t 14) (.t 15) 6), (.fa 17 (.t 16) 2), (.ld 18 (.t 17) false 1), (.bin 19 .eql (.t 18) (.c (.int .i64 2))), (.mv 20 (.t 19)), (.g 20 true (some 21) (.fa 21 (.t 2) 2)), (.g 20 true (some 22) (.ld 22 (.t 21) false 1)), (.g 20 true (some 23) (.mv 23 (.t 5))), (.g 20 true (some 24) (.ia 24 (.t 22) (.t 23) 6)), (.g 20 true (some 25) (.fa 25 (.t 24) 3)), (.g 20 true (some 26) (.ld 26 (.t 25) false 1)), (.pick 27 (.t 20) (.t 26) (.c (.bool false))), (.mv 28 (.t 27)), (.g 28 true (some 29) (.fa 29 (.t 2) 2)), (.g 28 true (some 30) (.ld 30 (.t 29) false 1)), (.g 28 true (some 31) (.mv 31 (.t 5))), (.g 28 true (some 32) (.ia 32 (.t 30) (.t 31) 6)), (.g 28 true (some 33) (.fa 33 (.t 32) 4)), (.g 28 true (some 34) (.ld 34 (.t 33) false 1)), (.g 28 true (some 35) (.mv 35 (.t 1))), (.g 28 true (some 36) (.bin 36 .eql (.t 34) (.t 35))), (.pick 37 (.t 28) (.t 36) (.c (.bool false)))]) (.cond (.t 37) (.seq (.reg [(.mv 4 (.c (.bool true)))]) .ret) .skip))) (.reg [(.mv 11 (.t 5)), (.bin 12 .add (.t 11) (.c (.int .i64 1))), (.mv 5 (.t 12))])))
def c303 : SC := (.seq (.reg [(.box 2 24 (.t 0)), (.mv 4 (.c (.bool false)))]) (.seq (.seq (.reg [(.mv 5 (.c (.int .i64 0)))]) (.block 0 (.loop c303L1))) (.seq (.reg [(.mv 4 (.c (.bool false)))]) .ret)))
theorem e303 : compC prog f303.ntmps (f303.body.getD .skip) = c303 := by kernel_rfl
def c198L1 : SC := (.seq (.seq (.reg [(.mv 6 (.t 4)), (.fa 7 (.t 1) 3), (.fa 8 (.t 7) 1), (.ld 9 (.t 8) false 1), (.len 10 false (.t 9)), (.bin 11 .lss (.t 6) (.t 10))]) (.cond (.t 11) .skip (.exit 0))) (.seq (.block 1 (.seq (.reg [(.fa 14 (.t 1) 3), (.fa 15 (.t 14) 1), (.ld 16 (.t 15) false 1), (.mv 17 (.t 4)), (.ia 18 (.t 16) (.t 17) 6), (.ld 19 (.t 18) true 6), (.alc 5 104 [(.int .i64 0), (.int .i64 0), (.int .i64 0), (.int .i64 0), (.int .i64 0), (.str (ByteArray.mk #[]))]), (.st (.t 5) (.t 19) 6)]) (.seq (.reg [(.fa 20 (.t 5) 1), (.ld 21 (.t 20) false 1), (.bin 22 .eql (.t 21) (.c (.int .i64 (-1)))), (.mv 23 (.t 22)), (.g 23 false (some 24) (.fa 24 (.t 1) 0)), (.g 23 false (some 25) (.ld 25 (.t 24) true 3)), (.g 23 false (some 26) (.fa 26 (.t 5) 1)), (.g 23 false (some 27) (.ld 27 (.t 26) false 1)), (.g 23 false (some 28) (.call (some 28) (.c (.func 303 [] [])) [(.t 25), (.t 27)])), (.g 23 false (some 29) (.not 29 (.t 28))), (.pick 30 (.t 23) (.c (.bool true)) (.t 29))]) (.cond (.t 30) (.seq (.reg [(.ld 31 (.t 5) true 6), (.st (.t 2) (.t 31) 6), (.mv 3 (.c (.bool true)))]) .ret) .skip)))) (.reg [(.mv 12 (.t 4)), (.bin 13 .add (.t 12) (.c (.int .i64 1))), (.mv 4 (.t 13))])))
def c198 : SC := (.seq (.reg [(.box 1 31 (.t 0)), (.alc 2 104 [(.int .i64 0), (.int .i64 0), (.int .i64 0), (.int .i64 0), (.int .i64 0), (.str (ByteArray.mk #[]))]), (.mv 3 (.c (.bool false)))]) (.seq (.seq (.reg [(.mv 4 (.c (.int .i64 0)))]) (.block 0 (.loop c198L1))) (.seq (.reg [(.bld 32 [(.int .i64 0), (.int .i64 0), (.int .i64 0), (.int .i64 0), (.int .i64 0), (.str (ByteArray.mk #[]))] []), (.st (.t 2) (.t 32) 6), (.mv 3 (.c (.bool false)))]) .ret)))
theorem e198 : compC prog f198.ntmps (f198.body.getD .skip) = c198 := by kernel_rfl
def agreedB (t : Table) (to : Int) : Bool := t.cells.any fun c => decide (c.kind = 2) && c.send && decide (c.peer = to)
theorem l303 (t : Table) (to : Int) (hL : (t.cells).length < 2 ^ 62) (k' : List It) (hk : ∀ zs, V prog f303.ntmps 0 (Ret [(.t 4)] 0 (.bool false) []) k' zs [.cells 0 3 24 true [t.enc]]) : ∀ (rest done : List TCell), t.cells = done ++ rest →
    Lp prog f303.ntmps 0 (Ret [(.t 4)] 0 (.bool ((rest).any fun c => decide (c.kind = 2) && c.send && decide (c.peer = to))) []) c303L1 (.blk 0 :: k') [(2, .ptr 0 0 0 0), (1, .int .i64 to), (5, .int .i64 done.length)] [.cells 0 3 24 true [t.enc]] := by
  intro rest
  induction rest with
  | nil =>
    intro done hd
    refine Lp.of_eq hmx c303L1.eq_1 ?_
    have h1 := rg_end hd
    simp only [go_sem, seval, h1, List.length_map]
    exact hk _
  | cons c rest ih =>
    intro done hd
    refine Lp.of_eq hmx c303L1.eq_1 ?_
    obtain ⟨h1, h2, h3, h4⟩ := rg_hd TCell.enc hd hL
    have ih' := ih _ h4
    rcases List.eq_nil_or_concat done with h0 | ⟨ds, p, h0⟩
    · obtain ⟨p1, hp⟩ := rg_first' h0
      cases hw0 : (decide (c.kind = 2)) <;> cases hw1 : (c.send)
      all_goals
        repeat' first | (refine Lp.bkE0 ih' (by rfl) ?_) | (refine Rt_pure ?_ rfl; simp only [retO, retO1, retOs, S, get_cons, Nat.reduceEqDiff, reduceIte, obj, getO_cons_zero, getO_cons_succ, List.getElem?_cons_zero, List.getElem?_cons_succ, List.drop_zero, List.drop_succ_cons, loadFrom_cell, loadFrom_agg, List.length_cons, List.length_nil, Nat.reduceAdd, Nat.reduceLeDiff, List.take_succ_cons, List.take_zero, List.take_nil]) | (with_reducible intro h; try simp only [h]) | (with_reducible refine And.intro ?_ ?_) | (change chk _ _ = true; rfl) | simp only [go_sem, seval, Vc_bool, h1, h2, h3, Int.toNat_natCast, Int.natCast_nonneg, List.length_map, hw0, hw1, p1] | refine (GX_split rfl).2 ?_
        all_goals (clear hk ih ih' h1 h2 h3 h4 hd hL)
        all_goals clear p1 h0
        all_goals (simp only [List.any_cons]; grind)
    · rw [List.concat_eq_append] at h0
      obtain ⟨p1, p2, p3, hp⟩ := rg_prev' TCell.enc hd h0 hL
      cases hw0 : (decide (c.kind = 2)) <;> cases hw1 : (c.send)
      all_goals
        repeat' first | (refine Lp.bkE0 ih' (by rfl) ?_) | (refine Rt_pure ?_ rfl; simp only [retO, retO1, retOs, S, get_cons, Nat.reduceEqDiff, reduceIte, obj, getO_cons_zero, getO_cons_succ, List.getElem?_cons_zero, List.getElem?_cons_succ, List.drop_zero, List.drop_succ_cons, loadFrom_cell, loadFrom_agg, List.length_cons, List.length_nil, Nat.reduceAdd, Nat.reduceLeDiff, List.take_succ_cons, List.take_zero, List.take_nil]) | (with_reducible intro h; try simp only [h]) | (with_reducible refine And.intro ?_ ?_) | (change chk _ _ = true; rfl) | simp only [go_sem, seval, Vc_bool, h1, h2, h3, Int.toNat_natCast, Int.natCast_nonneg, List.length_map, hw0, hw1, p1, p2, p3] | refine (GX_split rfl).2 ?_
        all_goals (clear hk ih ih' h1 h2 h3 h4 hd hL)
        all_goals clear p1 p2 p3 h0
        all_goals (simp only [List.any_cons]; grind)

theorem c303_pf (t : Table) (to : Int) (hL : t.cells.length < 2 ^ 62) : ACalls prog 303 [.agg [.int .i64 t.node, .int .i64 t.len, .sl 6 (t.cells.map TCell.enc)], .int .i64 to] [] (.bool (agreedB t to)) [] := by
  refine calls_of hmx func303 (by kernel_rfl) (c := f303.body.getD .skip) rfl e303 (rs := [(.t 4)]) (by kernel_rfl) (by simp [ntmps303]) ?_
  simp only [c303, argS]
  simp only [go_sem, seval]
  refine Lp.bkE0 (l303 t to hL _ (fun zs => ?_) t.cells [] rfl) (by rfl) rfl
  simp only [go_sem, seval]
  (refine Rt_pure ?_ rfl; simp only [retO, retO1, retOs, S, get_cons, Nat.reduceEqDiff, reduceIte, obj, getO_cons_zero, getO_cons_succ, List.getElem?_cons_zero, List.getElem?_cons_succ, List.drop_zero, List.drop_succ_cons, loadFrom_cell, loadFrom_agg, List.length_cons, List.length_nil, Nat.reduceAdd, Nat.reduceLeDiff, List.take_succ_cons, List.take_zero, List.take_nil])
theorem l198 (s : Station) (hC : s.tab.cells.length < 2 ^ 62) (hL : (s.q.pk).length < 2 ^ 62) (k' : List It) (hk : ∀ zs, get zs 2 = .ptr 1 0 0 0 → V prog f198.ntmps 0 (Ret [(.cell 2 true 6), (.t 3)] 0 (.tup [.agg Packet.zero.enc, .bool false]) []) k' zs [.cells 0 14 31 true [s.enc], .cells 0 6 104 true [Packet.zero.enc]]) : ∀ (rest done : List Packet), s.q.pk = done ++ rest →
    Lp prog f198.ntmps 0 (Ret [(.cell 2 true 6), (.t 3)] 0 (.tup [.agg (((rest).find? (candP s)).getD Packet.zero).enc, .bool ((rest).find? (candP s)).isSome]) []) c198L1 (.blk 0 :: k') [(1, .ptr 0 0 0 0), (2, .ptr 1 0 0 0), (4, .int .i64 done.length)] [.cells 0 14 31 true [s.enc], .cells 0 6 104 true [Packet.zero.enc]] := by
  intro rest
  induction rest with
  | nil =>
    intro done hd
    refine Lp.of_eq hmx c198L1.eq_1 ?_
    have h1 := rg_end hd
    simp only [go_sem, seval, h1, List.length_map]
    exact hk _ (by rfl)
  | cons c rest ih =>
    intro done hd
    refine Lp.of_eq hmx c198L1.eq_1 ?_
    obtain ⟨h1, h2, h3, h4⟩ := rg_hd Packet.enc hd hL
    have ih' := ih _ h4
    rcases List.eq_nil_or_concat done with h0 | ⟨ds, p, h0⟩
    · obtain ⟨p1, hp⟩ := rg_first' h0
      repeat' first | (refine Lp.bkE [_] ih' (by rfl) (by rfl) (by rfl) (Nat.zero_le _) ?_) | (refine Rt_pure ?_ rfl; simp only [retO, retO1, retOs, S, get_cons, Nat.reduceEqDiff, reduceIte, obj, getO_cons_zero, getO_cons_succ, List.getElem?_cons_zero, List.getElem?_cons_succ, List.drop_zero, List.drop_succ_cons, loadFrom_cell, loadFrom_agg, List.length_cons, List.length_nil, Nat.reduceAdd, Nat.reduceLeDiff, List.take_succ_cons, List.take_zero, List.take_nil]) | refine CX_pure (c303_pf s.tab c.to hC) rfl rfl rfl rfl ?_ | refine GX_call (fun _ => (c303_pf s.tab c.to hC)) (by rfl) (by intro h; simp only [h]; rfl) (by rfl) (by rfl) ?_ | (with_reducible intro h; try simp only [h]) | (with_reducible refine And.intro ?_ ?_) | (change chk _ _ = true; rfl) | simp only [go_sem, seval, Vc_bool, h1, h2, h3, Int.toNat_natCast, Int.natCast_nonneg, List.length_map, p1] | refine (GX_split rfl).2 ?_
      all_goals (clear hk ih ih' h1 h2 h3 h4 hd hL)
      all_goals clear p1 h0
      all_goals first | (simp only [List.find?_cons, candP]; simp_all [agreedB]; done) | (simp only [List.find?_cons, candP, agreedB] at *; grind)
    · rw [List.concat_eq_append] at h0
      obtain ⟨p1, p2, p3, hp⟩ := rg_prev' Packet.enc hd h0 hL
      repeat' first | (refine Lp.bkE [_] ih' (by rfl) (by rfl) (by rfl) (Nat.zero_le _) ?_) | (refine Rt_pure ?_ rfl; simp only [retO, retO1, retOs, S, get_cons, Nat.reduceEqDiff, reduceIte, obj, getO_cons_zero, getO_cons_succ, List.getElem?_cons_zero, List.getElem?_cons_succ, List.drop_zero, List.drop_succ_cons, loadFrom_cell, loadFrom_agg, List.length_cons, List.length_nil, Nat.reduceAdd, Nat.reduceLeDiff, List.take_succ_cons, List.take_zero, List.take_nil]) | refine CX_pure (c303_pf s.tab c.to hC) rfl rfl rfl rfl ?_ | refine GX_call (fun _ => (c303_pf s.tab c.to hC)) (by rfl) (by intro h; simp only [h]; rfl) (by rfl) (by rfl) ?_ | (with_reducible intro h; try simp only [h]) | (with_reducible refine And.intro ?_ ?_) | (change chk _ _ = true; rfl) | simp only [go_sem, seval, Vc_bool, h1, h2, h3, Int.toNat_natCast, Int.natCast_nonneg, List.length_map, p1, p2, p3] | refine (GX_split rfl).2 ?_
      all_goals (clear hk ih ih' h1 h2 h3 h4 hd hL)
      all_goals clear p1 p2 p3 h0
      all_goals first | (simp only [List.find?_cons, candP]; simp_all [agreedB]; done) | (simp only [List.find?_cons, candP, agreedB] at *; grind)

theorem c198_pf (s : Station) (hC : s.tab.cells.length < 2 ^ 62) (hL : s.q.pk.length < 2 ^ 62) : ACalls prog 198 [.agg [.int .i64 s.tab.node, .int .i64 s.tab.len, .sl 6 (s.tab.cells.map TCell.enc), .int .i64 s.q.limit, .sl 6 (s.q.pk.map Packet.enc), .sl 5 (s.held.map Held.enc), .sl 2 (s.seen.map Seen.enc), .int .i64 s.list, .int .i64 s.seq, .int .i64 s.trying, .int .i64 s.tries, .int .i64 s.back, .int .i64 s.wait, .int .i64 s.seed]] [] (oPk (candidate s)) [] := by
  have e : candidate s = s.q.pk.find? (candP s) := rfl
  rw [e]
  refine calls_of hmx func198 (by kernel_rfl) (c := f198.body.getD .skip) rfl e198 (rs := [(.cell 2 true 6), (.t 3)]) (by kernel_rfl) (by simp [ntmps198]) ?_
  simp only [c198, argS]
  simp only [go_sem, seval]
  refine Lp.bkE0 (l198 s hC hL _ (fun zs z4 => ?_) s.q.pk [] rfl) (by rfl) rfl
  repeat' first | (with_reducible intro h; try simp only [h]) | (with_reducible refine And.intro ?_ ?_) | (change chk _ _ = true; rfl) | simp only [go_sem, seval, Vc_bool, z4] | refine (GX_split rfl).2 ?_
  refine Rt_pure ?_ (by rfl)
  simp only [retO, retOs, retO1, S, get_cons, Nat.reduceEqDiff, reduceIte, z4]
  rfl
def c98 : SC := (.seq (.reg [(.box 2 31 (.t 0)), (.alc 4 170 [(.int .i64 0), (.int .i64 0), (.int .i64 0), (.int .i64 0), (.int .i64 0), (.int .i64 0), (.int .i64 0), (.int .i64 0), (.int .i64 0), (.int .i64 0), (.int .i64 0), (.int .i64 0), (.int .i64 0), (.str (ByteArray.mk #[])), (.int .i64 0), (.int .i64 0), (.int .i64 0), (.bool false), (.int .i64 0), (.int .i64 0), (.int .i64 0), (.int .i64 0), (.int .i64 0), (.int .i64 0), (.int .i64 0), (.str (ByteArray.mk #[])), (.bool false)])]) (.seq (.reg [(.fa 13 (.t 2) 0), (.ld 14 (.t 13) true 3), (.mv 15 (.t 1)), (.call (some 16) (.c (.func 31 [] [])) [(.t 14), (.t 15)]), (.mv 12 (.t 16)), (.ext 17 (.t 12) 0), (.ext 18 (.t 12) 1), (.alc 5 57 [(.int .i64 0), (.int .i64 0), (.int .i64 0), (.bool false), (.int .i64 0), (.int .i64 0)]), (.st (.t 5) (.t 17) 6), (.mv 6 (.t 18))]) (.seq (.seq (.reg [(.mv 19 (.t 6)), (.not 20 (.t 19))]) (.cond (.t 20) (.seq (.reg [(.bld 21 [(.int .i64 0), (.int .i64 0), (.int .i64 0), (.int .i64 0), (.int .i64 0), (.int .i64 0), (.int .i64 0), (.int .i64 0), (.int .i64 0), (.int .i64 0), (.int .i64 0), (.int .i64 0), (.int .i64 0), (.str (ByteArray.mk #[])), (.int .i64 0), (.int .i64 0), (.int .i64 0), (.bool false), (.int .i64 0), (.int .i64 0), (.int .i64 0), (.int .i64 0), (.int .i64 0), (.int .i64 0), (.int .i64 0), (.str (ByteArray.mk #[])), (.bool false)] []), (.st (.t 4) (.t 21) 27)]) .ret) .skip)) (.seq (.reg [(.ld 22 (.t 5) true 6), (.fa 23 (.t 5) 1), (.ld 24 (.t 23) false 1), (.bld 25 [(.int .i64 0), (.int .i64 0), (.int .i64 0), (.int .i64 0), (.int .i64 0), (.int .i64 0), (.int .i64 0), (.int .i64 0), (.int .i64 0), (.int .i64 0), (.int .i64 0), (.int .i64 0), (.int .i64 0), (.str (ByteArray.mk #[]))] [(0, 1, (.c (.int .i64 2))), (1, 1, (.t 24))]), (.bld 26 [(.int .i64 0), (.int .i64 0), (.int .i64 0), (.int .i64 0), (.int .i64 0), (.int .i64 0), (.int .i64 0), (.int .i64 0), (.int .i64 0), (.int .i64 0), (.int .i64 0), (.int .i64 0), (.int .i64 0), (.str (ByteArray.mk #[])), (.int .i64 0), (.int .i64 0), (.int .i64 0), (.bool false), (.int .i64 0), (.int .i64 0), (.int .i64 0), (.int .i64 0), (.int .i64 0), (.int .i64 0), (.int .i64 0), (.str (ByteArray.mk #[])), (.bool false)] [(14, 6, (.t 22)), (0, 14, (.t 25))]), (.alc 7 170 [(.int .i64 0), (.int .i64 0), (.int .i64 0), (.int .i64 0), (.int .i64 0), (.int .i64 0), (.int .i64 0), (.int .i64 0), (.int .i64 0), (.int .i64 0), (.int .i64 0), (.int .i64 0), (.int .i64 0), (.str (ByteArray.mk #[])), (.int .i64 0), (.int .i64 0), (.int .i64 0), (.bool false), (.int .i64 0), (.int .i64 0), (.int .i64 0), (.int .i64 0), (.int .i64 0), (.int .i64 0), (.int .i64 0), (.str (ByteArray.mk #[])), (.bool false)]), (.st (.t 7) (.t 26) 27)]) (.seq (.block 0 (.seq (.reg [(.fa 28 (.t 5) 2), (.ld 29 (.t 28) false 1), (.bin 30 .eql (.t 29) (.c (.int .i64 1))), (.mv 31 (.t 30)), (.g 31 true (some 32) (.fa 32 (.t 5) 3)), (.g 31 true (some 33) (.ld 33 (.t 32) false 1)), (.pick 34 (.t 31) (.t 33) (.c (.bool false))), (.mv 27 (.t 34))]) (.cond (.t 27) (.seq (.reg [(.ld 35 (.t 2) true 14), (.fa 36 (.t 5) 5), (.ld 37 (.t 36) false 1), (.call (some 38) (.c (.func 107 [] [])) [(.t 35), (.t 37)]), (.mv 8 (.t 38))]) (.seq (.seq (.regD [(.mv 39 (.t 8)), (.bin 40 .lss (.t 39) (.c (.int .i64 0))), (.mv 41 (.t 40)), (.g 41 false (some 42) (.mv 42 (.t 1))), (.g 41 false (some 43) (.fa 43 (.t 2) 5)), (.g 41 false (some 44) (.ld 44 (.t 43) false 1)), (.g 41 false (some 45) (.mv 45 (.t 8))), (.g 41 false (some 46) (.ia 46 (.t 44) (.t 45) 5)), (.g 41 false (some 47) (.fa 47 (.t 46) 2)), (.g 41 false (some 48) (.ld 48 (.t 47) false 1)), (.g 41 false (some 49) (.bin 49 .gtr (.t 42) (.t 48))), (.pick 50 (.t 41) (.c (.bool true)) (.t 49)), (.mv 51 (.t 50)), (.g 51 false (some 52) (.fa 52 (.t 2) 5)), (.g 51 false (some 53) (.ld 53 (.t 52) false 1)), (.g 51 false (some 54) (.mv 54 (.t 8))), (.g 51 false (some 55) (.ia 55 (.t 53) (.t 54) 5)), (.g 51 false (some 56) (.fa 56 (.t 55) 4)), (.g 51 false (some 57) (.ld 57 (.t 56) false 1)), (.g 51 false (some 58) (.fa 58 (.t 5) 4)), (.g 51 false (some 59) (.ld 59 (.t 58) false 1)), (.g 51 false (some 60) (.call (some 60) (.c (.func 195 [] [])) [(.t 57), (.t 59)])), (.pick 61 (.t 51) (.c (.bool true)) (.t 60))] []) (.cond (.t 61) (.seq (.reg [(.ld 62 (.t 5) true 6), (.bld 63 [(.int .i64 0), (.int .i64 0), (.int .i64 0), (.int .i64 0), (.int .i64 0), (.int .i64 0), (.int .i64 0), (.int .i64 0), (.int .i64 0), (.int .i64 0), (.int .i64 0), (.int .i64 0), (.int .i64 0), (.str (ByteArray.mk #[])), (.int .i64 0), (.int .i64 0), (.int .i64 0), (.bool false), (.int .i64 0), (.int .i64 0), (.int .i64 0), (.int .i64 0), (.int .i64 0), (.int .i64 0), (.int .i64 0), (.str (ByteArray.mk #[])), (.bool false)] [(14, 6, (.t 62))]), (.st (.t 4) (.t 63) 27)]) .ret) .skip)) (.seq (.reg [(.fa 64 (.t 2) 5), (.ld 65 (.t 64) false 1), (.mv 66 (.t 8)), (.ia 67 (.t 65) (.t 66) 5), (.ld 68 (.t 67) true 5), (.alc 9 100 [(.int .i64 0), (.int .i64 0), (.int .i64 0), (.str (ByteArray.mk #[])), .nil]), (.st (.t 9) (.t 68) 5)]) (.seq (.reg [(.fa 69 (.t 7) 0), (.fa 70 (.t 69) 0), (.st (.t 70) (.c (.int .i64 1)) 1)]) (.reg [(.fa 71 (.t 2) 0), (.fa 72 (.t 71) 0), (.ld 73 (.t 72) false 1), (.fa 74 (.t 5) 4), (.ld 75 (.t 74) false 1), (.fa 76 (.t 2) 7), (.ld 77 (.t 76) false 1), (.fa 78 (.t 9) 1), (.ld 79 (.t 78) false 1), (.bin 80 .rem (.t 79) (.c (.int .i64 256))), (.fa 81 (.t 9) 0), (.ld 82 (.t 81) false 1), (.fa 83 (.t 9) 1), (.ld 84 (.t 83) false 1), (.fa 85 (.t 9) 3), (.ld 86 (.t 85) false 1), (.bld 87 [(.int .i64 0), (.int .i64 0), (.int .i64 0), (.int .i64 0), (.int .i64 0), (.int .i64 0), (.int .i64 0), (.int .i64 0), (.int .i64 0), (.int .i64 0), (.int .i64 0), (.str (ByteArray.mk #[]))] [(0, 1, (.c (.int .i64 1))), (1, 1, (.t 73)), (2, 1, (.t 75)), (3, 1, (.t 77)), (4, 1, (.t 80)), (5, 1, (.t 82)), (6, 1, (.t 84)), (11, 1, (.t 86))]), (.fa 88 (.t 7) 0), (.fa 89 (.t 88) 2), (.st (.t 89) (.t 87) 12)]))))) (.seq (.reg [(.fa 91 (.t 5) 2), (.ld 92 (.t 91) false 1), (.bin 93 .eql (.t 92) (.c (.int .i64 2))), (.mv 94 (.t 93)), (.g 94 true (some 95) (.fa 95 (.t 5) 3)), (.g 94 true (some 96) (.ld 96 (.t 95) false 1)), (.pick 97 (.t 94) (.t 96) (.c (.bool false))), (.mv 90 (.t 97))]) (.cond (.t 90) (.seq (.reg [(.fa 99 (.t 2) 3), (.ld 100 (.t 99) true 2), (.fa 101 (.t 5) 4), (.ld 102 (.t 101) false 1), (.call (some 103) (.c (.func 196 [] [])) [(.t 100), (.t 102)]), (.mv 98 (.t 103)), (.ext 104 (.t 98) 0), (.ext 105 (.t 98) 1), (.alc 10 104 [(.int .i64 0), (.int .i64 0), (.int .i64 0), (.int .i64 0), (.int .i64 0), (.str (ByteArray.mk #[]))]), (.st (.t 10) (.t 104) 6), (.mv 11 (.t 105))]) (.seq (.seq (.reg [(.mv 106 (.t 11)), (.not 107 (.t 106))]) (.cond (.t 107) (.seq (.reg [(.ld 108 (.t 5) true 6), (.bld 109 [(.int .i64 0), (.int .i64 0), (.int .i64 0), (.int .i64 0), (.int .i64 0), (.int .i64 0), (.int .i64 0), (.int .i64 0), (.int .i64 0), (.int .i64 0), (.int .i64 0), (.int .i64 0), (.int .i64 0), (.str (ByteArray.mk #[])), (.int .i64 0), (.int .i64 0), (.int .i64 0), (.bool false), (.int .i64 0), (.int .i64 0), (.int .i64 0), (.int .i64 0), (.int .i64 0), (.int .i64 0), (.int .i64 0), (.str (ByteArray.mk #[])), (.bool false)] [(14, 6, (.t 108))]), (.st (.t 4) (.t 109) 27)]) .ret) .skip)) (.seq (.reg [(.ld 110 (.t 10) true 6), (.fa 111 (.t 7) 20), (.st (.t 111) (.t 110) 6), (.fa 112 (.t 7) 26), (.st (.t 112) (.c (.bool true)) 1)]) (.reg [(.ld 113 (.t 2) true 14), (.ld 114 (.t 10) true 6), (.call (some 115) (.c (.func 197 [] [])) [(.t 113), (.t 114)]), (.fa 116 (.t 7) 0), (.fa 117 (.t 116) 0), (.st (.t 117) (.c (.int .i64 1)) 1), (.fa 118 (.t 7) 0), (.fa 119 (.t 118) 2), (.st (.t 119) (.t 115) 12)])))) (.seq (.reg [(.fa 121 (.t 5) 2), (.ld 122 (.t 121) false 1), (.bin 123 .eql (.t 122) (.c (.int .i64 3))), (.mv 120 (.t 123))]) (.cond (.t 120) (.seq (.reg [(.ld 125 (.t 2) true 14), (.call (some 126) (.c (.func 198 [] [])) [(.t 125)]), (.mv 124 (.t 126)), (.ext 127 (.t 124) 0), (.ext 128 (.t 124) 1), (.fa 129 (.t 7) 20), (.st (.t 129) (.t 127) 6), (.fa 130 (.t 7) 26), (.st (.t 130) (.t 128) 1)]) (.seq (.reg [(.fa 131 (.t 7) 26), (.ld 132 (.t 131) false 1), (.mv 133 (.t 132)), (.g 133 true (some 134) (.fa 134 (.t 2) 12)), (.g 133 true (some 135) (.ld 135 (.t 134) false 1)), (.g 133 true (some 136) (.bin 136 .eql (.t 135) (.c (.int .i64 0)))), (.pick 137 (.t 133) (.t 136) (.c (.bool false)))]) (.cond (.t 137) (.reg [(.ld 138 (.t 2) true 14), (.fa 139 (.t 7) 20), (.ld 140 (.t 139) true 6), (.call (some 141) (.c (.func 197 [] [])) [(.t 138), (.t 140)]), (.fa 142 (.t 7) 0), (.fa 143 (.t 142) 0), (.st (.t 143) (.c (.int .i64 1)) 1), (.fa 144 (.t 7) 0), (.fa 145 (.t 144) 2), (.st (.t 145) (.t 141) 12)]) .skip))) .skip))))))) (.seq (.reg [(.ld 146 (.t 7) true 27), (.st (.t 4) (.t 146) 27)]) .ret))))))
theorem e98 : compC prog f98.ntmps (f98.body.getD .skip) = c98 := by kernel_rfl
def c26 : SC := (.seq (.reg [(.box 2 31 (.t 0)), (.alc 4 43 [(.int .i64 0), (.int .i64 0), (.int .i64 0), (.int .i64 0), (.int .i64 0), (.int .i64 0), (.int .i64 0), (.int .i64 0), (.int .i64 0), (.int .i64 0), (.int .i64 0), (.int .i64 0), (.int .i64 0), (.str (ByteArray.mk #[]))]), (.mv 5 (.c (.int .i64 0)))]) (.seq (.seq (.reg [(.ld 6 (.t 2) true 14), (.call (some 7) (.c (.func 23 [] [])) [(.t 6)]), (.bin 8 .neq (.t 7) (.c (.int .i64 0)))]) (.cond (.t 8) (.seq (.reg [(.bld 9 [(.int .i64 0), (.int .i64 0), (.int .i64 0), (.int .i64 0), (.int .i64 0), (.int .i64 0), (.int .i64 0), (.int .i64 0), (.int .i64 0), (.int .i64 0), (.int .i64 0), (.int .i64 0), (.int .i64 0), (.str (ByteArray.mk #[]))] []), (.st (.t 4) (.t 9) 14), (.mv 5 (.c (.int .i64 1)))]) .ret) .skip)) (.seq (.seq (.reg [(.mv 10 (.t 1)), (.bin 11 .lss (.t 10) (.c (.int .i64 0))), (.mv 12 (.t 11)), (.g 12 false (some 13) (.mv 13 (.t 1))), (.g 12 false (some 14) (.bin 14 .gtr (.t 13) (.c (.int .i64 109951162)))), (.pick 15 (.t 12) (.c (.bool true)) (.t 14))]) (.cond (.t 15) (.seq (.reg [(.bld 16 [(.int .i64 0), (.int .i64 0), (.int .i64 0), (.int .i64 0), (.int .i64 0), (.int .i64 0), (.int .i64 0), (.int .i64 0), (.int .i64 0), (.int .i64 0), (.int .i64 0), (.int .i64 0), (.int .i64 0), (.str (ByteArray.mk #[]))] []), (.st (.t 4) (.t 16) 14), (.mv 5 (.c (.int .i64 2)))]) .ret) .skip)) (.seq (.reg [(.ld 17 (.t 2) true 14), (.mv 18 (.t 1)), (.call (some 19) (.c (.func 98 [] [])) [(.t 17), (.t 18)]), (.fld 20 (.t 19) 0 true 14), (.st (.t 4) (.t 20) 14), (.mv 5 (.c (.int .i64 0)))]) .ret))))
theorem e26 : compC prog f26.ntmps (f26.body.getD .skip) = c26 := by kernel_rfl
def c4 : SC := (.seq (.reg [(.box 2 31 (.t 0)), (.mv 4 (.c (.bool false)))]) (.seq (.seq (.reg [(.call (some 9) (.c (.func 18 [] [])) []), (.not 10 (.t 9))]) (.cond (.t 10) (.seq (.reg [(.mv 4 (.c (.bool false)))]) .ret) .skip)) (.seq (.seq (.reg [(.ld 11 (.t 2) true 14), (.call (some 12) (.c (.func 19 [] [])) [(.t 11)]), (.not 13 (.t 12))]) (.cond (.t 13) (.seq (.reg [(.mv 4 (.c (.bool true)))]) .ret) .skip)) (.seq (.reg [(.ld 15 (.t 2) true 14), (.mv 16 (.t 1)), (.call (some 17) (.c (.func 25 [] [])) [(.t 15), (.t 16)]), (.mv 14 (.t 17)), (.ext 18 (.t 14) 0), (.ext 19 (.t 14) 1), (.alc 5 43 [(.int .i64 0), (.int .i64 0), (.int .i64 0), (.int .i64 0), (.int .i64 0), (.int .i64 0), (.int .i64 0), (.int .i64 0), (.int .i64 0), (.int .i64 0), (.int .i64 0), (.int .i64 0), (.int .i64 0), (.str (ByteArray.mk #[]))]), (.st (.t 5) (.t 18) 14), (.mv 6 (.t 19))]) (.seq (.reg [(.ld 21 (.t 2) true 14), (.mv 22 (.t 1)), (.call (some 23) (.c (.func 26 [] [])) [(.t 21), (.t 22)]), (.mv 20 (.t 23)), (.ext 24 (.t 20) 0), (.ext 25 (.t 20) 1), (.alc 7 43 [(.int .i64 0), (.int .i64 0), (.int .i64 0), (.int .i64 0), (.int .i64 0), (.int .i64 0), (.int .i64 0), (.int .i64 0), (.int .i64 0), (.int .i64 0), (.int .i64 0), (.int .i64 0), (.int .i64 0), (.str (ByteArray.mk #[]))]), (.st (.t 7) (.t 24) 14), (.mv 8 (.t 25))]) (.seq (.reg [(.ld 26 (.t 5) true 14), (.ld 27 (.t 7) true 14), (.binA 28 false [1, 1, 1, 1, 1, 1, 1, 1, 1, 1, 1, 1, 1, 3] (.t 26) (.t 27)), (.mv 29 (.t 28)), (.g 29 true (some 30) (.mv 30 (.t 6))), (.g 29 true (some 31) (.mv 31 (.t 8))), (.g 29 true (some 32) (.bin 32 .eql (.t 30) (.t 31))), (.pick 33 (.t 29) (.t 32) (.c (.bool false))), (.mv 4 (.t 33))]) .ret))))))
theorem e4 : compC prog f4.ntmps (f4.body.getD .skip) = c4 := by kernel_rfl
def plEnc (p : Plan) : List AVal := [.int .i64 p.act.kind, .int .i64 p.act.off, .int .i64 p.act.fr.kind, .int .i64 p.act.fr.src, .int .i64 p.act.fr.tgt, .int .i64 p.act.fr.list, .int .i64 p.act.fr.seq, .int .i64 p.act.fr.flow, .int .i64 p.act.fr.num, .int .i64 p.act.fr.err, .int .i64 p.act.fr.slot, .int .i64 p.act.fr.rank, .int .i64 p.act.fr.epoch, .str p.act.fr.data, .int .i64 p.cell.slot, .int .i64 p.cell.off, .int .i64 p.cell.kind, .bool p.cell.send, .int .i64 p.cell.peer, .int .i64 p.cell.flow, .int .i64 (p.pk.getD Packet.zero).id, .int .i64 (p.pk.getD Packet.zero).to, .int .i64 (p.pk.getD Packet.zero).pri, .int .i64 (p.pk.getD Packet.zero).born, .int .i64 (p.pk.getD Packet.zero).life, .str (p.pk.getD Packet.zero).data, .bool p.pk.isSome]
attribute [go_sem] plEnc
theorem c98_ok {s : Station} {slot : Int} (hB : StBd s) : ACalls prog 98 [.agg s.enc, .int .i64 slot] [] (.agg (plEnc (plan s slot))) [] := by
  obtain ⟨b1, b2, b3, b4, b5⟩ := hB
  have h31 := c31_pf s.tab slot b1
  have hm : ∀ (l : List Int) (x : Int), (l.any fun y => decide (y = x)) = true ↔ x ∈ l := by intro l x; simp [List.any_eq_true]
  refine calls_of hmx func98 (by kernel_rfl) (c := f98.body.getD .skip) rfl e98 (rs := [(.cell 4 true 27)]) (by kernel_rfl) (by simp [ntmps98]) ?_
  simp only [c98, argS]
  cases hc : tabAt s.tab slot with
  | none =>
    rw [hc] at h31
    have e : plan s slot = ⟨Action.zero, TCell.zero, none⟩ := by simp only [plan, hc]
    rw [e]
    repeat' first | refine CX_pure (h31) rfl rfl rfl rfl ?_ | refine GX_call (fun _ => (h31)) (by rfl) (by intro h; simp only [h]; rfl) (by rfl) (by rfl) ?_ | (with_reducible intro h; try simp only [h]) | (with_reducible refine And.intro ?_ ?_) | (change chk _ _ = true; rfl) | simp only [go_sem, seval, Vc_bool, Option.isSome_none] | refine (GX_split rfl).2 ?_
    exact Rt_pure (by rfl) (by rfl)
  | some c =>
    rw [hc] at h31
    simp only [Option.getD_some, Option.isSome_some] at h31
    have h198 := c198_pf s b1 b2
    have h196 := c196_pf s.q c.peer b2
    have h107 := c107_pf s c.flow b3
    by_cases h3 : c.kind = 3
    · have k1 : decide (c.kind = 1) = false := by simp [h3]
      have k2 : decide (c.kind = 2) = false := by simp [h3]
      have k3 : decide (c.kind = 3) = true := by simp [h3]
      cases hq : candidate s with
      | none =>
        rw [hq, oPk_none] at h198
        have e : plan s slot = ⟨⟨2, c.off, Frame.zero⟩, c, none⟩ := by simp [plan, hc, h3, hq]
        rw [e]
        repeat' first | refine CX_pure (h31) rfl rfl rfl rfl ?_ | refine CX_pure (h198) rfl rfl rfl rfl ?_ | refine GX_call (fun _ => (h31)) (by rfl) (by intro h; simp only [h]; rfl) (by rfl) (by rfl) ?_ | refine GX_call (fun _ => (h198)) (by rfl) (by intro h; simp only [h]; rfl) (by rfl) (by rfl) ?_ | (with_reducible intro h; try simp only [h]) | (with_reducible refine And.intro ?_ ?_) | (change chk _ _ = true; rfl) | simp only [go_sem, seval, Vc_bool, k1, k2, k3] | refine (GX_split rfl).2 ?_
        exact Rt_pure (by rfl) (by rfl)
      | some p =>
        rw [hq, oPk_some] at h198
        cases hw : decide (s.wait = 0)
        · have e : plan s slot = ⟨⟨2, c.off, Frame.zero⟩, c, some p⟩ := by simp [plan, hc, h3, hq, of_decide_eq_false hw]
          rw [e]
          repeat' first | refine CX_pure (h31) rfl rfl rfl rfl ?_ | refine CX_pure (h198) rfl rfl rfl rfl ?_ | refine GX_call (fun _ => (h31)) (by rfl) (by intro h; simp only [h]; rfl) (by rfl) (by rfl) ?_ | refine GX_call (fun _ => (h198)) (by rfl) (by intro h; simp only [h]; rfl) (by rfl) (by rfl) ?_ | (with_reducible intro h; try simp only [h]) | (with_reducible refine And.intro ?_ ?_) | (change chk _ _ = true; rfl) | simp only [go_sem, seval, Vc_bool, k1, k2, k3, hw] | refine (GX_split rfl).2 ?_
          exact Rt_pure (by rfl) (by rfl)
        · have e : plan s slot = ⟨⟨1, c.off, msgOf s p⟩, c, some p⟩ := by simp [plan, hc, h3, hq, of_decide_eq_true hw]
          rw [e]
          repeat' first | refine CX_pure (h31) rfl rfl rfl rfl ?_ | refine CX_pure (h198) rfl rfl rfl rfl ?_ | refine CX_pure (c197_ok (s := s) (p := p)) rfl rfl rfl rfl ?_ | refine GX_call (fun _ => (h31)) (by rfl) (by intro h; simp only [h]; rfl) (by rfl) (by rfl) ?_ | refine GX_call (fun _ => (h198)) (by rfl) (by intro h; simp only [h]; rfl) (by rfl) (by rfl) ?_ | refine GX_call (fun _ => (c197_ok (s := s) (p := p))) (by rfl) (by intro h; simp only [h]; rfl) (by rfl) (by rfl) ?_ | (with_reducible intro h; try simp only [h]) | (with_reducible refine And.intro ?_ ?_) | (change chk _ _ = true; rfl) | simp only [go_sem, seval, Vc_bool, k1, k2, k3, hw] | refine (GX_split rfl).2 ?_
          exact Rt_pure (by rfl) (by rfl)
    · have k3 : decide (c.kind = 3) = false := by simpa using h3
      cases hs : c.send
      · have e : plan s slot = ⟨⟨2, c.off, Frame.zero⟩, c, none⟩ := by simp [plan, hc, hs, h3]
        rw [e]
        cases k1 : decide (c.kind = 1) <;> cases k2 : decide (c.kind = 2)
        all_goals repeat' first | refine CX_pure (h31) rfl rfl rfl rfl ?_ | refine GX_call (fun _ => (h31)) (by rfl) (by intro h; simp only [h]; rfl) (by rfl) (by rfl) ?_ | (with_reducible intro h; try simp only [h]) | (with_reducible refine And.intro ?_ ?_) | (change chk _ _ = true; rfl) | simp only [go_sem, seval, Vc_bool, hs, k1, k2, k3] | refine (GX_split rfl).2 ?_
        all_goals exact Rt_pure (by rfl) (by rfl)
      · cases k1 : decide (c.kind = 1)
        · have g1 : ¬ c.kind = 1 := of_decide_eq_false k1
          cases k2 : decide (c.kind = 2)
          · have e : plan s slot = ⟨⟨2, c.off, Frame.zero⟩, c, none⟩ := by simp [plan, hc, hs, h3, g1, of_decide_eq_false k2]
            rw [e]
            repeat' first | refine CX_pure (h31) rfl rfl rfl rfl ?_ | refine GX_call (fun _ => (h31)) (by rfl) (by intro h; simp only [h]; rfl) (by rfl) (by rfl) ?_ | (with_reducible intro h; try simp only [h]) | (with_reducible refine And.intro ?_ ?_) | (change chk _ _ = true; rfl) | simp only [go_sem, seval, Vc_bool, hs, k1, k2, k3] | refine (GX_split rfl).2 ?_
            exact Rt_pure (by rfl) (by rfl)
          · have g2 : c.kind = 2 := of_decide_eq_true k2
            cases hq : qFirst s.q c.peer with
            | none =>
              rw [hq, oPk_none] at h196
              have e : plan s slot = ⟨Action.zero, c, none⟩ := by simp [plan, hc, hs, g2, hq]
              rw [e]
              repeat' first | refine CX_pure (h31) rfl rfl rfl rfl ?_ | refine CX_pure (h196) rfl rfl rfl rfl ?_ | refine GX_call (fun _ => (h31)) (by rfl) (by intro h; simp only [h]; rfl) (by rfl) (by rfl) ?_ | refine GX_call (fun _ => (h196)) (by rfl) (by intro h; simp only [h]; rfl) (by rfl) (by rfl) ?_ | (with_reducible intro h; try simp only [h]) | (with_reducible refine And.intro ?_ ?_) | (change chk _ _ = true; rfl) | simp only [go_sem, seval, Vc_bool, hs, k1, k2, k3] | refine (GX_split rfl).2 ?_
              exact Rt_pure (by rfl) (by rfl)
            | some p =>
              rw [hq, oPk_some] at h196
              have e : plan s slot = ⟨⟨1, c.off, msgOf s p⟩, c, some p⟩ := by simp [plan, hc, hs, g2, hq]
              rw [e]
              repeat' first | refine CX_pure (h31) rfl rfl rfl rfl ?_ | refine CX_pure (h196) rfl rfl rfl rfl ?_ | refine CX_pure (c197_ok (s := s) (p := p)) rfl rfl rfl rfl ?_ | refine GX_call (fun _ => (h31)) (by rfl) (by intro h; simp only [h]; rfl) (by rfl) (by rfl) ?_ | refine GX_call (fun _ => (h196)) (by rfl) (by intro h; simp only [h]; rfl) (by rfl) (by rfl) ?_ | refine GX_call (fun _ => (c197_ok (s := s) (p := p))) (by rfl) (by intro h; simp only [h]; rfl) (by rfl) (by rfl) ?_ | (with_reducible intro h; try simp only [h]) | (with_reducible refine And.intro ?_ ?_) | (change chk _ _ = true; rfl) | simp only [go_sem, seval, Vc_bool, hs, k1, k2, k3] | refine (GX_split rfl).2 ?_
              exact Rt_pure (by rfl) (by rfl)
        · have g1 : c.kind = 1 := of_decide_eq_true k1
          rcases idxFrom_find (fun h : Held => decide (h.flow = c.flow)) s.held with ⟨h1, h2⟩ | ⟨i, x, h1, h2, h3', h4, h5⟩
          · have e1 : heldIdx s.held c.flow = -1 := h1
            have e2 : heldOf s.held c.flow = none := h2
            rw [e1] at h107
            have e : plan s slot = ⟨Action.zero, c, none⟩ := by simp [plan, hc, hs, g1, e2]
            rw [e]
            repeat' first | refine CX_pure (h31) rfl rfl rfl rfl ?_ | refine CX_pure (h107) rfl rfl rfl rfl ?_ | refine GX_call (fun _ => (h31)) (by rfl) (by intro h; simp only [h]; rfl) (by rfl) (by rfl) ?_ | refine GX_call (fun _ => (h107)) (by rfl) (by intro h; simp only [h]; rfl) (by rfl) (by rfl) ?_ | (with_reducible intro h; try simp only [h]) | (with_reducible refine And.intro ?_ ?_) | (change chk _ _ = true; rfl) | simp only [go_sem, seval, Vc_bool, hs, k1] | refine (GX_split rfl).2 ?_
            exact Rt_pure (by rfl) (by rfl)
          · have e1 : heldIdx s.held c.flow = i := h3'
            have e2 : heldOf s.held c.flow = some x := h4
            have e3 : (s.held.map Held.enc)[i]? = some x.enc := by rw [List.getElem?_map, h1]; rfl
            have e4 : decide ((i : Int) < 0) = false := by simp
            have hx : x.acked.length < 2 ^ 62 := b4 x (List.mem_of_getElem? h1)
            rw [e1] at h107
            cases hw : decide (x.upto < slot)
            · have g : ¬ x.upto < slot := of_decide_eq_false hw
              cases ha : x.acked.any fun y => decide (y = c.peer)
              · have g' : c.peer ∉ x.acked := fun h => by rw [(hm _ _).2 h] at ha; cases ha
                have e : plan s slot = ⟨⟨1, c.off, dataOf s x c.peer⟩, c, none⟩ := by simp [plan, hc, hs, g1, e2, g, g']
                rw [e]
                repeat' first | refine CX_pure (h31) rfl rfl rfl rfl ?_ | refine CX_pure (h107) rfl rfl rfl rfl ?_ | refine CX_pure (c195_ok (l := x.acked) (x := c.peer) hx) rfl rfl rfl rfl ?_ | refine GX_call (fun _ => (h31)) (by rfl) (by intro h; simp only [h]; rfl) (by rfl) (by rfl) ?_ | refine GX_call (fun _ => (h107)) (by rfl) (by intro h; simp only [h]; rfl) (by rfl) (by rfl) ?_ | refine GX_call (fun _ => (c195_ok (l := x.acked) (x := c.peer) hx)) (by rfl) (by intro h; simp only [h]; rfl) (by rfl) (by rfl) ?_ | (with_reducible intro h; try simp only [h]) | (with_reducible refine And.intro ?_ ?_) | (change chk _ _ = true; rfl) | simp only [go_sem, seval, Vc_bool, hs, k1, e3, e4, hw, ha, Int.toNat_natCast, Int.natCast_nonneg] | refine (GX_split rfl).2 ?_
                · exact Rt_pure (by rfl) (by rfl)
              · have g' : c.peer ∈ x.acked := (hm _ _).1 ha
                have e : plan s slot = ⟨Action.zero, c, none⟩ := by simp [plan, hc, hs, g1, e2, g']
                rw [e]
                repeat' first | refine CX_pure (h31) rfl rfl rfl rfl ?_ | refine CX_pure (h107) rfl rfl rfl rfl ?_ | refine CX_pure (c195_ok (l := x.acked) (x := c.peer) hx) rfl rfl rfl rfl ?_ | refine GX_call (fun _ => (h31)) (by rfl) (by intro h; simp only [h]; rfl) (by rfl) (by rfl) ?_ | refine GX_call (fun _ => (h107)) (by rfl) (by intro h; simp only [h]; rfl) (by rfl) (by rfl) ?_ | refine GX_call (fun _ => (c195_ok (l := x.acked) (x := c.peer) hx)) (by rfl) (by intro h; simp only [h]; rfl) (by rfl) (by rfl) ?_ | (with_reducible intro h; try simp only [h]) | (with_reducible refine And.intro ?_ ?_) | (change chk _ _ = true; rfl) | simp only [go_sem, seval, Vc_bool, hs, k1, e3, e4, hw, ha, Int.toNat_natCast, Int.natCast_nonneg] | refine (GX_split rfl).2 ?_
                exact Rt_pure (by rfl) (by rfl)
            · have g : x.upto < slot := of_decide_eq_true hw
              have e : plan s slot = ⟨Action.zero, c, none⟩ := by simp [plan, hc, hs, g1, e2, g]
              rw [e]
              repeat' first | refine CX_pure (h31) rfl rfl rfl rfl ?_ | refine CX_pure (h107) rfl rfl rfl rfl ?_ | refine CX_pure (c195_ok (l := x.acked) (x := c.peer) hx) rfl rfl rfl rfl ?_ | refine GX_call (fun _ => (h31)) (by rfl) (by intro h; simp only [h]; rfl) (by rfl) (by rfl) ?_ | refine GX_call (fun _ => (h107)) (by rfl) (by intro h; simp only [h]; rfl) (by rfl) (by rfl) ?_ | refine GX_call (fun _ => (c195_ok (l := x.acked) (x := c.peer) hx)) (by rfl) (by intro h; simp only [h]; rfl) (by rfl) (by rfl) ?_ | (with_reducible intro h; try simp only [h]) | (with_reducible refine And.intro ?_ ?_) | (change chk _ _ = true; rfl) | simp only [go_sem, seval, Vc_bool, hs, k1, e3, e4, hw, Int.toNat_natCast, Int.natCast_nonneg] | refine (GX_split rfl).2 ?_
              exact Rt_pure (by rfl) (by rfl)
theorem c26_ok {s : Station} {slot : Int} (hB : StBd s) : ACalls prog 26 [.agg s.enc, .int .i64 slot] [] (.tup [.agg (actSt s slot).1.enc, .int .i64 (actSt s slot).2]) [] := by
  refine calls_of hmx func26 (by kernel_rfl) (c := f26.body.getD .skip) rfl e26 (rs := [(.cell 4 true 14), (.t 5)]) (by kernel_rfl) (by simp [ntmps26]) ?_
  simp only [c26, argS]
  repeat' first | refine CX_pure (c23_ok (s := s) hB) rfl rfl rfl rfl ?_ | refine CX_pure (c98_ok (s := s) (slot := slot) hB) rfl rfl rfl rfl ?_ | refine GX_call (fun _ => (c23_ok (s := s) hB)) (by rfl) (by intro h; simp only [h]; rfl) (by rfl) (by rfl) ?_ | refine GX_call (fun _ => (c98_ok (s := s) (slot := slot) hB)) (by rfl) (by intro h; simp only [h]; rfl) (by rfl) (by rfl) ?_ | (with_reducible intro h; try simp only [h]) | (with_reducible refine And.intro ?_ ?_) | (change chk _ _ = true; rfl) | simp only [go_sem, seval, Vc_bool] | refine (GX_split rfl).2 ?_
  · have e : actSt s slot = (Action.zero, 1) := by
      have h1 : slotErr s slot = 1 := by grind [slotErr, stErr]
      simp [actSt, h1]
    rw [e]
    exact Rt_pure (by rfl) (by rfl)
  · have e : actSt s slot = (Action.zero, 2) := by
      have h1 : slotErr s slot = 2 := by grind [slotErr, stErr]
      simp [actSt, h1]
    rw [e]
    exact Rt_pure (by rfl) (by rfl)
  · have e : actSt s slot = ((plan s slot).act, 0) := by
      have h1 : slotErr s slot = 0 := by grind [slotErr, stErr]
      simp [actSt, h1]
    rw [e]
    exact Rt_pure (by rfl) (by rfl)

theorem few_cl {s : Station} (h : stFew s = true) : ClBd s := by
  simp only [stFew, tabFew, qFew, heldFew, fewCells, Bool.and_eq_true, Bool.or_eq_true, decide_eq_true_eq, List.all_eq_true] at h
  obtain ⟨⟨⟨h1, h2⟩, h3⟩, h4⟩ := h
  refine ⟨by omega, by omega, by omega, by omega, fun x hx => ?_⟩
  have := (h3.2 x hx).2
  omega
theorem dec_self (n : Int) : decide (n = n) = true := by simp
/-! Plain laws of a station. -/
theorem chain_pair {α : Type} {ok : α → Bool} {lt : α → α → Bool} {f : α → Int} (hlt : ∀ a b, lt a b = true → f a < f b) : ∀ (xs : List α) (p : Option α), chain ok lt p xs = true → xs.Pairwise (fun a b => f a < f b) ∧ ∀ q, p = some q → ∀ x ∈ xs, f q < f x
  | [], p, _ => ⟨.nil, by simp⟩
  | x :: xs, none, h => by
    simp only [chain, Bool.and_eq_true] at h
    obtain ⟨i1, i2⟩ := chain_pair hlt xs (some x) h.2
    exact ⟨List.pairwise_cons.2 ⟨fun y hy => i2 x rfl y hy, i1⟩, by simp⟩
  | x :: xs, some p, h => by
    simp only [chain, Bool.and_eq_true] at h
    obtain ⟨i1, i2⟩ := chain_pair hlt xs (some x) h.2
    refine ⟨List.pairwise_cons.2 ⟨fun y hy => i2 x rfl y hy, i1⟩, fun q hq y hy => ?_⟩
    cases hq
    have h3 : f p < f x := hlt p x h.1.2
    rcases List.mem_cons.1 hy with rfl | hy
    · exact h3
    · exact Int.lt_trans h3 (i2 x rfl y hy)
theorem tw_len {α : Type} (p : α → Bool) : ∀ (l : List α), l.take (l.takeWhile p).length = l.takeWhile p ∧ l.drop (l.takeWhile p).length = l.dropWhile p
  | [] => ⟨rfl, rfl⟩
  | x :: xs => by
    obtain ⟨h1, h2⟩ := tw_len p xs
    by_cases h : p x = true
    · simp [List.takeWhile_cons, List.dropWhile_cons, h, h1, h2]
    · simp [List.takeWhile_cons, List.dropWhile_cons, h]
/-- A place for an element in a sorted list: it takes the place of its like, or is put in. -/
def putSrt {α : Type} (f : α → Int) (l : List α) (x : α) : List α := if bsHit (fun y : α => cmp (f y) (f x)) l = true then l.set (bsLo (fun y : α => cmp (f y) (f x)) l) x else l.take (bsLo (fun y : α => cmp (f y) (f x)) l) ++ x :: l.drop (bsLo (fun y : α => cmp (f y) (f x)) l)
def putFil {α : Type} (f : α → Int) (l : List α) (x : α) : List α := l.takeWhile (fun y => decide (f y < f x)) ++ x :: (l.dropWhile (fun y => decide (f y < f x))).filter fun y => !decide (f y = f x)
theorem put_srt {α : Type} {f : α → Int} {x : α} : ∀ {l : List α}, l.Pairwise (fun a b => f a < f b) → putSrt f l x = putFil f l x
  | [], _ => rfl
  | y :: ys, hp => by
    obtain ⟨h1, h2⟩ := List.pairwise_cons.1 hp
    have ih := put_srt (x := x) h2
    by_cases c : f y < f x
    · have e1 : bsLo (fun y : α => cmp (f y) (f x)) (y :: ys) = bsLo (fun y : α => cmp (f y) (f x)) ys + 1 := by rw [bsLo, List.takeWhile_cons, if_pos (by simpa [cmp_lt] using c)]; rfl
      have e2 : bsHit (fun y : α => cmp (f y) (f x)) (y :: ys) = bsHit (fun y : α => cmp (f y) (f x)) ys := by rw [bsHit, e1, List.getElem?_cons_succ]; rfl
      have e3 : putSrt f (y :: ys) x = y :: putSrt f ys x := by
        simp only [putSrt, e1, e2, List.set_cons_succ, List.take_succ_cons, List.drop_succ_cons]
        split <;> rfl
      rw [e3, ih]
      simp [putFil, List.takeWhile_cons, List.dropWhile_cons, c]
    · have e1 : bsLo (fun y : α => cmp (f y) (f x)) (y :: ys) = 0 := by rw [bsLo, List.takeWhile_cons, if_neg (by simpa [cmp_lt] using c)]; rfl
      have e2 : bsHit (fun y : α => cmp (f y) (f x)) (y :: ys) = decide (cmp (f y) (f x) = 0) := by rw [bsHit, e1, List.getElem?_cons_zero]
      have e4 : List.filter (fun z : α => !decide (f z = f x)) ys = ys := List.filter_eq_self.2 fun z hz => by have := h1 z hz; simp; omega
      simp only [putSrt, e1, e2]
      by_cases c2 : f y = f x
      · simp [putFil, cmp_eq, c2, List.takeWhile_cons, List.dropWhile_cons, e4]
      · simp [putFil, cmp_eq, c2, c, List.takeWhile_cons, List.dropWhile_cons, e4]
/-! Plain laws of Hold, Put and Expire. -/
theorem held_srt {s : Station} (h : stOk s = true) : s.held.Pairwise (fun a b => a.flow < b.flow) ∧ s.held.length ≤ 16 := by
  simp only [stOk, heldOk, Bool.and_eq_true, decide_eq_true_eq] at h
  exact ⟨(chain_pair (f := fun x : Held => x.flow) (fun a b h => of_decide_eq_true h) _ _ h.1.1.1.1.1.1.1.2.1).1, by have := h.1.1.1.1.1.1.1.2.2; omega⟩
theorem putSrt_len {α : Type} {f : α → Int} {l : List α} {x : α} : (putSrt f l x).length = if bsHit (fun y : α => cmp (f y) (f x)) l = true then l.length else l.length + 1 := by
  have hle := bsLo_le (c := fun y : α => cmp (f y) (f x)) l
  simp only [putSrt]
  split
  · rw [List.length_set]
  · rw [List.length_append, List.length_cons, List.length_take, List.length_drop]; omega
def heldHit (l : List Held) (h : Held) : Bool := bsHit (fun y : Held => cmp y.flow h.flow) l
/-- Hold, as the program says it. -/
def holdE (s : Station) (h : Held) : Station × Int :=
  if stOk s = false then (Station.zero, 1)
  else if hRange h = false then (Station.zero, 2)
  else if 100 < (h.data.size : Int) ∨ (heldHit s.held h = false ∧ (s.held.length : Int) = 16) then (Station.zero, 8)
  else ({ s with held := putSrt (fun y : Held => y.flow) s.held h }, 0)
theorem hold_eq (s : Station) (h : Held) : holdE s h = holdSt s h := by
  unfold holdE holdSt
  by_cases h0 : stOk s = false
  · rw [if_pos h0, if_pos h0]
  · have h0' : stOk s = true := by simpa using h0
    rw [if_neg h0, if_neg h0]
    by_cases h1 : hRange h = false
    · rw [if_pos h1, if_pos h1]
    · rw [if_neg h1, if_neg h1]
      obtain ⟨hs, hl⟩ := held_srt h0'
      have e : holdIns s.held h = putSrt (fun y : Held => y.flow) s.held h := (put_srt hs).symm
      have hlen := putSrt_len (f := fun y : Held => y.flow) (l := s.held) (x := h)
      rw [e]
      by_cases h2 : 100 < (h.data.size : Int)
      · rw [if_pos (.inl h2), if_pos h2]
      · rw [if_neg h2]
        by_cases h3 : heldHit s.held h = true
        · have h3' : bsHit (fun y : Held => cmp y.flow h.flow) s.held = true := h3
          rw [if_pos h3'] at hlen
          rw [if_neg (by simp [h2, h3]), if_neg (by omega)]
        · have h3' : ¬ bsHit (fun y : Held => cmp y.flow h.flow) s.held = true := h3
          have h3'' : heldHit s.held h = false := by simpa using h3
          rw [if_neg h3'] at hlen
          by_cases h4 : (s.held.length : Int) = 16
          · rw [if_pos (.inr ⟨h3'', h4⟩), if_pos (by omega)]
          · rw [if_neg (by simp [h2, h4]), if_neg (by omega)]
theorem idx_tw {α : Type} (p : α → Bool) : ∀ (l : List α) (k : Nat), (idxFrom p k l = -1 ∧ (l.takeWhile fun x => !p x).length = l.length) ∨ (idxFrom p k l = ((k + (l.takeWhile fun x => !p x).length : Nat) : Int) ∧ (l.takeWhile fun x => !p x).length < l.length)
  | [], k => .inl ⟨rfl, rfl⟩
  | x :: xs, k => by
    by_cases h : p x = true
    · refine .inr ⟨?_, ?_⟩ <;> simp [idxFrom, List.takeWhile_cons, h]
    · have h' : p x = false := by simpa using h
      rcases idx_tw p xs (k + 1) with ⟨h1, h2⟩ | ⟨h1, h2⟩
      · refine .inl ⟨?_, ?_⟩ <;> simp [idxFrom, List.takeWhile_cons, h', h1, h2]
      · refine .inr ⟨?_, ?_⟩
        · simp [idxFrom, List.takeWhile_cons, h', h1]; omega
        · simp [List.takeWhile_cons, h', h2]
theorem putIdx_tw (l : List Packet) (pri : Int) : putIdx l pri = (l.takeWhile fun x => decide (x.pri ≤ pri)).length := by
  have hf : (fun x : Packet => !decide (pri < x.pri)) = fun x : Packet => decide (x.pri ≤ pri) := by
    funext x; by_cases h : pri < x.pri <;> simp [h] <;> omega
  unfold putIdx
  rcases idx_tw (fun y : Packet => decide (pri < y.pri)) l 0 with ⟨h1, h2⟩ | ⟨h1, h2⟩
  · rw [hf] at h2; rw [if_pos (by omega), h2]
  · rw [hf] at h1 h2; rw [h1, if_neg (by omega)]; omega
/-- Put of a queue, as the program says it. -/
def qPutE (q : Queue) (p : Packet) : Queue × List Packet × Int :=
  if qErr q ≠ 0 then (Queue.zero, [], 1)
  else if pkErr p ≠ 0 then (Queue.zero, [], pkErr p)
  else if 0 ≤ pkIdx q.pk p.id then (Queue.zero, [], 6)
  else if (q.pk.length : Int) = q.limit then
    match q.pk.getLast? with
    | some l => if l.pri ≤ p.pri then (Queue.zero, [], 13) else (⟨q.limit, putAt q.pk.dropLast p⟩, [l], 0)
    | none => (Queue.zero, [], 0)
  else (⟨q.limit, putAt q.pk p⟩, [], 0)
theorem putAt_tw (l : List Packet) (p : Packet) : putAt l p = (l.takeWhile fun x => decide (x.pri ≤ p.pri)) ++ p :: l.dropWhile fun x => decide (x.pri ≤ p.pri) := by
  obtain ⟨h1, h2⟩ := tw_len (fun x : Packet => decide (x.pri ≤ p.pri)) l
  rw [putAt, putIdx_tw, h1, h2]
theorem settle_eq {s : Station} (h : stOk s = true) (q : Queue) (l : List Held) : settleG { s with q := q, held := l } = Sp.settle { s with q := q, held := l } := by
  simp only [stOk, Bool.and_eq_true] at h
  have ht := h.1.1.1.1.1.2
  simp only [tryOk, Bool.or_eq_true, Bool.and_eq_true, decide_eq_true_eq] at ht
  unfold settleG Sp.settle
  by_cases h1 : hasId q.pk s.trying = true
  · simp [h1]
  · have h1' : hasId q.pk s.trying = false := by simpa using h1
    by_cases h2 : 0 ≤ s.trying
    · simp [h1', h2]
    · have h3 : s.trying = -1 ∧ s.tries = 0 := by omega
      rcases s with ⟨a1, a2, a3, a4, a5, a6, a7, a8, a9, a10, a11⟩
      obtain ⟨rfl, rfl⟩ := h3
      simp [h1']

/-- slices.Insert into the first part of a row whose object has room for one more. -/
theorem ins_P {t k bytes fo fr q i : Nat} {zs v z : List AVal} {fv : Bool} {xs : List (List AVal)} (hk : 0 < k) (hzs : zs.length = k) (hv : v.length = k) (hc : cloE xs) (hcv : cloE [v]) (hcz : cloE [z]) (hb : (xs.length + 1) * bytes ≤ 140737488355328) (hn : xs.length + 1 ≤ 140737488355328) (hi : i ≤ xs.length)
    (hov : ∀ {qA qB oB lB : Nat} {fa fb : Bool} {v : List AVal} {es : List (List AVal)}, 1 ≤ lB → ACalls prog fo [.row 0 qA 0 1, .row 1 qB oB lB] [.cells qA k t fa [v], .cells qB k t fb es] (.bool false) [.cells qA k t fa [v], .cells qB k t fb es]) :
    V prog 95 2 (Ret [.t 6] 2 (.sl k (xs.take i ++ v :: xs.drop i)) [.dead, .cells 0 k t fv [v]]) [.code (cIns t k bytes zs fo fr)] (argS [.row 0 q 0 xs.length, .int .i64 i, .row 1 0 0 1] 0) [.cells q k t false (xs ++ [z]), .cells 0 k t fv [v]] := by
  simp only [cIns, argS]
  have n1 : (xs.length : Int).toNat = xs.length := by omega
  have i1 : (i : Int).toNat = i := by omega
  have lz : (xs ++ [z]).length = xs.length + 1 := by simp
  simp only [go_sem, Nat.reduceEqDiff, Nat.reduceAdd, Nat.reduceLeDiff, Nat.reduceLT, reduceIte, Int.reduceEq, Int.reduceLE, Int.reduceLT, Int.reduceNeg, Int.reduceToNat, Int.reduceAdd, Int.reduceSub, Int.reduceMul, Int.reduceNegSucc, List.reduceReplicate, reduceCtorEq, n1, i1, Nat.zero_add, lz]
  refine ⟨⟨by omega, by omega, by omega⟩, ?_⟩
  rcases Nat.lt_or_ge i xs.length with hlt | hge
  · have d1 : decide ((i : Int) = (xs.length : Int)) = false := by simp; omega
    have w1 : IntKind.i64.wrap ((xs.length : Int) + 1) = ((xs.length + 1 : Nat) : Int) := by rw [wrap_ok (by omega) (by omega)]; omega
    simp only [go_sem, Nat.reduceEqDiff, Nat.reduceAdd, Nat.reduceLeDiff, Nat.reduceLT, reduceIte, Int.reduceEq, Int.reduceLE, Int.reduceLT, Int.reduceNeg, Int.reduceToNat, Int.reduceAdd, Int.reduceSub, Int.reduceMul, Int.reduceNegSucc, List.reduceReplicate, reduceCtorEq, d1]
    rw [CPX_row rfl]
    intro m _
    have w2 : IntKind.i64.wrap (((xs.length + 1 : Nat) : Int) - (i : Int)) = ((xs.length + 1 - i : Nat) : Int) := by rw [wrap_ok (by omega) (by omega)]; omega
    have w3 : IntKind.i64.wrap ((i : Int) + 1) = ((i + 1 : Nat) : Int) := by rw [wrap_ok (by omega) (by omega)]; omega
    have c1 : ((xs.length + 1 - i : Nat) : Int).toNat = xs.length + 1 - i := by omega
    have c2 : ((xs.length + 1 : Nat) : Int).toNat = xs.length + 1 := by omega
    have c3 : ((i + 1 : Nat) : Int).toNat = i + 1 := by omega
    have r1 : i + (xs.length + 1 - i) = xs.length + 1 := by omega
    have lt0 : (xs ++ ([z] ++ List.replicate m (List.replicate k AVal.undef))).all (ltL 0) = true := by
      rw [List.all_append, List.all_append, clo_lt hc, clo_lt hcz, Bool.true_and, Bool.true_and]
      refine List.all_eq_true.2 fun e he => ?_
      rw [List.eq_of_mem_replicate he]
      have : ∀ k, ltL 0 (List.replicate k AVal.undef) = true := by intro k; induction k <;> simp_all [ltL, ltv, List.replicate_succ]
      exact this k
    have hU : ([z] ++ List.replicate m (List.replicate k AVal.undef)).length = m + 1 := by simp
    have lz' : ((xs ++ [z]).length : Int) = ((xs.length + 1 : Nat) : Int) := by rw [lz]
    rw [lz', List.append_assoc]
    generalize [z] ++ List.replicate m (List.replicate k AVal.undef) = U at *
    have hl : (xs ++ U).length = xs.length + (m + 1) := by rw [List.length_append, hU]
    have d2 : decide (((xs.length + 1 : Nat) : Int) + (m : Int) - 0 < ((xs.length + 1 : Nat) : Int)) = false := by simp; omega
    simp only [go_sem, Nat.reduceEqDiff, Nat.reduceAdd, Nat.reduceLeDiff, Nat.reduceLT, reduceIte, Int.reduceEq, Int.reduceLE, Int.reduceLT, Int.reduceNeg, Int.reduceToNat, Int.reduceAdd, Int.reduceSub, Int.reduceMul, Int.reduceNegSucc, List.reduceReplicate, reduceCtorEq, hl, w1, w2, w3, n1, i1, c1, c2, c3, d2, r1, Nat.sub_zero]
    refine ⟨⟨by omega, by omega⟩, ⟨by omega, by omega, by omega⟩, ?_⟩
    have lv0 : ([v] : List (List AVal)).all (ltL 0) = true := clo_lt hcv
    have lo0 : ∀ {q : Nat} {f : Bool}, ltO 0 (.cells q k t f (xs ++ U)) = true := lt0
    have lo1 : ∀ {q : Nat} {f : Bool}, ltO 0 (.cells q k t f [v]) = true := lv0
    refine CX_rd [1, 0] (hov (qA := 0) (qB := q) (oB := i + 1) (lB := xs.length + 1 - (i + 1)) (fa := fv) (fb := true) (v := v) (es := xs ++ U) (by omega)) (by rfl) (by rfl) (by rfl) ?_ (by rfl) (by decide) (by rfl) ?_ (by rfl) ?_
    · rw [List.all_cons, List.all_cons, List.all_nil, ltO_mono (Nat.zero_le _) lo0, ltO_mono (Nat.zero_le _) lo1]; rfl
    · rw [List.map_cons, List.map_cons, List.map_nil, List.map_cons, List.map_cons, List.map_nil, renO_lt (m := 0) (fun id h => by omega) lo0, renO_lt (m := 0) (fun id h => by omega) lo1]; rfl
    have m1 : min 1 (xs.length + 1 - i) = 1 := by omega
    have t1 : List.take 1 [v] = [v] := rfl
    have hlA : (List.take i xs).length = i := by simp; omega
    have s2 : (List.take (xs.length + 1 - i) (List.drop i (xs ++ U))).length = xs.length + 1 - i := by rw [List.length_take, List.length_drop, hl]; omega
    have s3 : List.take (xs.length - i) (List.take (xs.length + 1 - i) (List.drop i (xs ++ U))) = List.drop i xs := by
      have h1 : (List.drop i xs).length = xs.length - i := List.length_drop
      have h2 := List.take_left (l₁ := List.drop i xs) (l₂ := U)
      rw [List.take_take, show min (xs.length - i) (xs.length + 1 - i) = xs.length - i by omega, List.drop_append, show i - xs.length = 0 by omega, List.drop_zero]
      rwa [h1] at h2
    have m3 : min (xs.length + 1 - i) (xs.length + 1 - (i + 1)) = xs.length - i := by omega
    have r4 : i + 1 + (xs.length - i) = xs.length + 1 := by omega
    have l1 : (List.take (i + 1) (xs ++ U)).length = i + 1 := by rw [List.length_take, hl]; omega
    have l2 : (List.take (i + 1) (xs ++ U) ++ List.drop i xs ++ List.drop (xs.length + 1) (xs ++ U)).length = xs.length + (m + 1) := by
      rw [List.length_append, List.length_append, l1, List.length_drop, List.length_drop, hl]; omega
    simp only [go_sem, Nat.reduceEqDiff, Nat.reduceAdd, Nat.reduceLeDiff, Nat.reduceLT, reduceIte, Int.reduceEq, Int.reduceLE, Int.reduceLT, Int.reduceNeg, Int.reduceToNat, Int.reduceAdd, Int.reduceSub, Int.reduceMul, Int.reduceNegSucc, List.reduceReplicate, reduceCtorEq, hl, w1, w2, w3, n1, i1, c1, c2, c3, d2, r1, Nat.sub_zero, m1, t1, s2, m3, s3, r4, l2]
    refine ⟨⟨by omega, by omega, by omega⟩, ⟨by omega, by omega, by omega⟩, ⟨by omega, by omega, by omega⟩, ?_⟩
    refine Rt.gs (Gs_freeze 0 (s' := [(6, .sl k (xs.take i ++ v :: xs.drop i))]) (H' := [.dead, .cells 0 k t fv [v]]) rfl ?_ ?_) (Rt_all (by rfl) (by rfl) ?_ (Nat.le_refl _))
    · refine List.forall_mem_cons.2 ⟨?_, by simp⟩
      refine Fz.row 0 (xs.length + 1) ?_ (cloE_ins hc hcv)
      have e1 : List.take i (List.take (i + 1) (xs ++ U) ++ List.drop i xs ++ List.drop (xs.length + 1) (xs ++ U)) = List.take i xs := by
        rw [List.append_assoc, List.take_append_of_le_length (by omega), List.take_take, show min i (i + 1) = i by omega, List.take_append_of_le_length (by omega)]
      have e2 : List.drop (i + 1) (List.take (i + 1) (xs ++ U) ++ List.drop i xs ++ List.drop (xs.length + 1) (xs ++ U)) = List.drop i xs ++ List.drop (xs.length + 1) (xs ++ U) := by
        have h := List.drop_left (l₁ := List.take (i + 1) (xs ++ U)) (l₂ := List.drop i xs ++ List.drop (xs.length + 1) (xs ++ U))
        rw [l1] at h
        rw [List.append_assoc, h]
      rw [List.drop_zero, e1, e2]
      have h4 : (List.take i xs ++ [v] ++ List.drop i xs).length = xs.length + 1 := by rw [List.length_append, List.length_append, hlA, List.length_drop, List.length_singleton]; omega
      have h5 := List.take_left (l₁ := List.take i xs ++ [v] ++ List.drop i xs) (l₂ := List.drop (xs.length + 1) (xs ++ U))
      rw [h4] at h5
      rw [← List.append_assoc, h5, List.append_assoc]
      rfl
    · repeat' (first | exact FzL.nil | refine FzL.cons ?_ ?_ | exact Fz.wk (Wk.refl _) | exact Fz.wk (Wk.nil _) | exact Fz.wk (Wk.emp _) | exact Fz.row0 _ _ _ _ | exact FzH.nil _ | exact FzO.refl _ | refine FzO.one ?_ | refine FzH.cons (by decide) ?_ ?_ | refine FzH.this rfl ?_ | exact FzO.dead (by simp) | (simp only [List.forall_mem_cons, List.not_mem_nil, false_implies, implies_true, and_true, go_sem, Nat.reduceEqDiff, Nat.reduceAdd, Nat.reduceLeDiff, Nat.reduceLT, reduceIte, Int.reduceEq, Int.reduceLE, Int.reduceLT, Int.reduceNeg, Int.reduceToNat, Int.reduceAdd, Int.reduceSub, Int.reduceMul, Int.reduceNegSucc, List.reduceReplicate, reduceCtorEq]) | refine And.intro ?_ ?_)
    · exact lt_ins hcv
  · have d1 : decide ((i : Int) = (xs.length : Int)) = true := by simp; omega
    have hi2 : i = xs.length := by omega
    have a1 : xs.length ≤ xs.length + 1 := by omega
    have a2 : ¬ xs.length = xs.length + 1 := by omega
    have a3 : List.take xs.length (xs ++ [z]) = xs := List.take_left
    have a4 : List.drop (xs.length + 1) (xs ++ [z]) = [] := List.drop_eq_nil_of_le (by simp)
    simp only [go_sem, Nat.reduceEqDiff, Nat.reduceAdd, Nat.reduceLeDiff, Nat.reduceLT, reduceIte, Int.reduceEq, Int.reduceLE, Int.reduceLT, Int.reduceNeg, Int.reduceToNat, Int.reduceAdd, Int.reduceSub, Int.reduceMul, Int.reduceNegSucc, List.reduceReplicate, reduceCtorEq, d1, lz, a1, a2, a3, a4]
    refine ⟨hb, ?_⟩
    refine Rt.gs (Gs_freeze 0 (s' := [(6, .sl k (xs.take i ++ v :: xs.drop i))]) (H' := [.dead, .cells 0 k t fv [v]]) rfl ?_ ?_) (Rt_all (by rfl) (by rfl) ?_ (Nat.le_refl _))
    · refine List.forall_mem_cons.2 ⟨?_, by simp⟩
      refine Fz.row 0 (xs.length + 1) ?_ ?_
      · rw [List.drop_zero, hi2, List.take_length, List.drop_length, List.take_of_length_le (by simp)]
      · rw [hi2, List.take_length, List.drop_length]
        intro e he
        rcases List.mem_append.1 he with h | h
        · exact hc e h
        · exact hcv e h
    · repeat' (first | exact FzL.nil | refine FzL.cons ?_ ?_ | exact Fz.wk (Wk.refl _) | exact Fz.wk (Wk.nil _) | exact Fz.wk (Wk.emp _) | exact Fz.row0 _ _ _ _ | exact FzH.nil _ | exact FzO.refl _ | refine FzO.one ?_ | refine FzH.cons (by decide) ?_ ?_ | refine FzH.this rfl ?_ | exact FzO.dead (by simp) | (simp only [List.forall_mem_cons, List.not_mem_nil, false_implies, implies_true, and_true, go_sem, Nat.reduceEqDiff, Nat.reduceAdd, Nat.reduceLeDiff, Nat.reduceLT, reduceIte, Int.reduceEq, Int.reduceLE, Int.reduceLT, Int.reduceNeg, Int.reduceToNat, Int.reduceAdd, Int.reduceSub, Int.reduceMul, Int.reduceNegSucc, List.reduceReplicate, reduceCtorEq]) | refine And.intro ?_ ?_)
    · have := clo_lt hcv
      simp only [List.all_cons, List.all_nil, ltO, Bool.and_true, Bool.true_and] at this ⊢
      exact ltL_mono (Nat.zero_le _) v this
theorem c268p_ok {xs : List Packet} {v z : Packet} {i q : Nat} {fv : Bool} (hi : i ≤ xs.length) (hb : (xs.length + 1) * 56 ≤ 140737488355328) : ACalls prog 268 [.row 0 q 0 xs.length, .int .i64 i, .row 1 0 0 1] [.cells q 6 104 false ((xs ++ [z]).map Packet.enc), .cells 0 6 104 fv [Packet.enc v]] (.sl 6 ((xs.take i ++ v :: xs.drop i).map Packet.enc)) [.dead, .cells 0 6 104 fv [Packet.enc v]] := by
  refine calls_of hmx func268 (by kernel_rfl) (c := f268.body.getD .skip) rfl e268 (rs := [.t 6]) (by kernel_rfl) (show (3:Nat) ≤ 95 by decide) ?_
  have h := ins_P (t := 104) (k := 6) (bytes := 56) (zs := [(.int .i64 0), (.int .i64 0), (.int .i64 0), (.int .i64 0), (.int .i64 0), (.str (ByteArray.mk #[]))]) (fo := 350) (fr := 351) (q := q) (i := i) (v := Packet.enc v) (z := Packet.enc z) (fv := fv) (xs := xs.map Packet.enc) (by decide) rfl rfl (cloE_map fun _ => by rfl) (cloE_map (f := Packet.enc) (xs := [v]) fun _ => by rfl) (cloE_map (f := Packet.enc) (xs := [z]) fun _ => by rfl) (by simpa using hb) (by rw [List.length_map]; omega) (by simpa using hi) ov350
  rw [List.length_map] at h
  rw [List.map_append, List.map_append, List.map_take, List.map_cons, List.map_cons, List.map_nil, List.map_drop]
  exact h

end Go.Av.T
