/- The seat: part Fw11. -/
import Derived.Test.YtmhchaedhmnofaaGreatFw10
import Derived.Test.YtmhchaedhmnofaaGreatFw9
import Derived.KernelRfl
set_option maxRecDepth 100000
set_option maxHeartbeats 1000000
set_option linter.unusedSimpArgs false
set_option linter.unusedVariables false
namespace Go.Av.T
open Go Go.Av Go.Av.Sp Go.Proofs.Tryz
def c9L1 : SC := (.seq (.reg [(.bin 78 .lss (.t 77) (.t 76))]) (.seq (.cond (.t 78) .skip (.exit 0)) (.seq (.block 1 (.seq (.reg [(.mv 79 (.t 77)), (.ia 80 (.t 75) (.t 77) 1), (.ld 81 (.t 80) false 1), (.mv 17 (.t 79)), (.mv 18 (.t 81))]) (.seq (.reg [(.ld 83 (.t 9) true 14), (.mv 84 (.t 17)), (.bin 85 .mul (.c (.int .i64 2)) (.t 84)), (.call (some 86) (.c (.func 25 [] [])) [(.t 83), (.t 85)]), (.mv 82 (.t 86)), (.ext 87 (.t 82) 0), (.ext 88 (.t 82) 1), (.alc 19 43 [(.int .i64 0), (.int .i64 0), (.int .i64 0), (.int .i64 0), (.int .i64 0), (.int .i64 0), (.int .i64 0), (.int .i64 0), (.int .i64 0), (.int .i64 0), (.int .i64 0), (.int .i64 0), (.int .i64 0), (.str (ByteArray.mk #[]))]), (.st (.t 19) (.t 87) 14), (.mv 20 (.t 88))]) (.seq (.reg [(.mv 89 (.t 15)), (.not 90 (.t 89)), (.mv 91 (.t 90)), (.g 91 true (some 92) (.mv 92 (.t 17))), (.g 91 true (some 93) (.bin 93 .mul (.c (.int .i64 2)) (.t 92))), (.g 91 true (some 94) (.mv 94 (.t 1))), (.g 91 true (some 95) (.conv 95 .i64 (.t 94))), (.g 91 true (some 96) (.bin 96 .leq (.t 93) (.t 95))), (.pick 97 (.t 91) (.t 96) (.c (.bool false))), (.mv 21 (.t 97))]) (.seq (.seq (.reg [(.mv 98 (.t 20)), (.bin 99 .neq (.t 98) (.c (.int .i64 0))), (.mv 100 (.t 99)), (.g 100 false (some 101) (.fa 101 (.t 19) 0)), (.g 100 false (some 102) (.ld 102 (.t 101) false 1)), (.g 100 false (some 103) (.bin 103 .eql (.t 102) (.c (.int .i64 1)))), (.g 100 false (some 104) (.mv 104 (.t 21))), (.g 100 false (some 105) (.binB 105 true (.t 103) (.t 104))), (.pick 106 (.t 100) (.c (.bool true)) (.t 105))]) (.cond (.t 106) (.seq (.reg [(.mv 8 (.c (.bool false)))]) .ret) .skip)) (.seq (.seq (.reg [(.mv 107 (.t 21)), (.not 108 (.t 107))]) (.cond (.t 108) (.exit 1) .skip)) (.seq (.seq (.reg [(.fa 109 (.t 19) 2), (.fa 110 (.t 109) 5), (.ld 111 (.t 110) false 1), (.bin 112 .neq (.t 111) (.c (.int .i64 9))), (.mv 113 (.t 112)), (.g 113 false (some 114) (.fa 114 (.t 19) 2)), (.g 113 false (some 115) (.fa 115 (.t 114) 6)), (.g 113 false (some 116) (.ld 116 (.t 115) false 1)), (.g 113 false (some 117) (.mv 117 (.t 0))), (.g 113 false (some 118) (.conv 118 .i64 (.t 117))), (.g 113 false (some 119) (.bin 119 .neq (.t 116) (.t 118))), (.pick 120 (.t 113) (.c (.bool true)) (.t 119)), (.mv 121 (.t 120)), (.g 121 false (some 122) (.fa 122 (.t 19) 2)), (.g 121 false (some 123) (.fa 123 (.t 122) 11)), (.g 121 false (some 124) (.ld 124 (.t 123) false 1)), (.g 121 false (some 125) (.mv 125 (.t 2))), (.g 121 false (some 126) (.binS 126 .neq (.t 124) (.t 125))), (.pick 127 (.t 121) (.c (.bool true)) (.t 126)), (.mv 128 (.t 127)), (.g 128 false (some 129) (.fa 129 (.t 19) 2)), (.g 128 false (some 130) (.fa 130 (.t 129) 2)), (.g 128 false (some 131) (.ld 131 (.t 130) false 1)), (.g 128 false (some 132) (.bin 132 .neq (.t 131) (.c (.int .i64 2)))), (.pick 133 (.t 128) (.c (.bool true)) (.t 132))]) (.cond (.t 133) (.seq (.reg [(.mv 8 (.c (.bool false)))]) .ret) .skip)) (.seq (.reg [(.mv 134 (.t 18)), (.bin 135 .and (.t 134) (.c (.int .u8 1))), (.bin 136 .eql (.t 135) (.c (.int .u8 0))), (.mv 22 (.t 136))]) (.seq (.reg [(.ld 138 (.t 11) true 14), (.mv 139 (.t 17)), (.bin 140 .mul (.c (.int .i64 2)) (.t 139)), (.mv 141 (.t 22)), (.fa 142 (.t 19) 2), (.ld 143 (.t 142) true 12), (.bld 144 [(.bool false), (.bool false), (.int .i64 0), (.int .i64 0), (.int .i64 0), (.int .i64 0), (.int .i64 0), (.int .i64 0), (.int .i64 0), (.int .i64 0), (.int .i64 0), (.int .i64 0), (.int .i64 0), (.str (ByteArray.mk #[])), (.int .i64 0)] [(1, 1, (.t 141)), (2, 12, (.t 143))]), (.call (some 145) (.c (.func 28 [] [])) [(.t 138), (.t 140), (.t 144)]), (.mv 137 (.t 145)), (.ext 146 (.t 137) 0), (.ext 147 (.t 137) 1), (.ext 148 (.t 137) 2), (.alc 23 31 [(.int .i64 0), (.int .i64 0), .nil, (.int .i64 0), .nil, .nil, .nil, (.int .i64 0), (.int .i64 0), (.int .i64 0), (.int .i64 0), (.int .i64 0), (.int .i64 0), (.int .i64 0)]), (.alc 24 51 [(.bool false), (.bool false), (.int .i64 0), (.int .i64 0), (.int .i64 0), (.int .i64 0), (.int .i64 0), (.int .i64 0), (.int .i64 0), (.int .i64 0), (.int .i64 0), (.int .i64 0), (.int .i64 0), (.str (ByteArray.mk #[]))]), (.st (.t 23) (.t 146) 14), (.st (.t 24) (.t 147) 14), (.mv 25 (.t 148))]) (.seq (.seq (.reg [(.mv 149 (.t 25)), (.bin 150 .neq (.t 149) (.c (.int .i64 0))), (.mv 151 (.t 150)), (.g 151 false (some 152) (.fa 152 (.t 24) 0)), (.g 151 false (some 153) (.ld 153 (.t 152) false 1)), (.g 151 false (some 154) (.mv 154 (.t 22))), (.g 151 false (some 155) (.binB 155 true (.t 153) (.t 154))), (.pick 156 (.t 151) (.c (.bool true)) (.t 155)), (.mv 157 (.t 156)), (.g 157 false (some 158) (.mv 158 (.t 22))), (.g 157 false (some 159) (.mv 159 (.t 158))), (.g 159 true (some 160) (.fa 160 (.t 24) 1)), (.g 159 true (some 161) (.ld 161 (.t 160) false 1)), (.g 159 true (some 162) (.mv 162 (.t 16))), (.g 159 true (some 163) (.binB 163 false (.t 161) (.t 162))), (.g 157 false (some 164) (.pick 164 (.t 159) (.t 163) (.c (.bool false)))), (.pick 165 (.t 157) (.c (.bool true)) (.t 164))]) (.cond (.t 165) (.seq (.reg [(.mv 8 (.c (.bool false)))]) .ret) .skip)) (.seq (.seq (.reg [(.mv 166 (.t 22)), (.mv 167 (.t 166)), (.g 167 true (some 168) (.mv 168 (.t 16))), (.g 167 true (some 169) (.not 169 (.t 168))), (.pick 170 (.t 167) (.t 169) (.c (.bool false)))]) (.cond (.t 170) (.seq (.reg [(.ld 172 (.t 23) true 14), (.ld 173 (.t 13) true 5), (.call (some 174) (.c (.func 45 [] [])) [(.t 172), (.t 173)]), (.mv 171 (.t 174)), (.ext 175 (.t 171) 0), (.ext 176 (.t 171) 1), (.st (.t 23) (.t 175) 14), (.mv 25 (.t 176))]) (.reg [(.mv 16 (.c (.bool true)))])) .skip)) (.seq (.reg [(.mv 177 (.t 22)), (.mv 178 (.t 177)), (.g 178 true (some 179) (.mv 179 (.t 18))), (.g 178 true (some 180) (.bin 180 .and (.t 179) (.c (.int .u8 2)))), (.g 178 true (some 181) (.bin 181 .eql (.t 180) (.c (.int .u8 0)))), (.pick 182 (.t 178) (.t 181) (.c (.bool false))), (.mv 15 (.t 182))]) (.seq (.reg [(.ld 184 (.t 9) true 14), (.mv 185 (.t 17)), (.bin 186 .mul (.c (.int .i64 2)) (.t 185)), (.mv 187 (.t 15)), (.bld 188 [(.bool false), (.bool false), (.int .i64 0), (.int .i64 0), (.int .i64 0), (.int .i64 0), (.int .i64 0), (.int .i64 0), (.int .i64 0), (.int .i64 0), (.int .i64 0), (.int .i64 0), (.int .i64 0), (.str (ByteArray.mk #[])), (.int .i64 0)] [(0, 1, (.t 187))]), (.call (some 189) (.c (.func 28 [] [])) [(.t 184), (.t 186), (.t 188)]), (.mv 183 (.t 189)), (.ext 190 (.t 183) 0), (.ext 191 (.t 183) 1), (.ext 192 (.t 183) 2), (.alc 26 31 [(.int .i64 0), (.int .i64 0), .nil, (.int .i64 0), .nil, .nil, .nil, (.int .i64 0), (.int .i64 0), (.int .i64 0), (.int .i64 0), (.int .i64 0), (.int .i64 0), (.int .i64 0)]), (.alc 27 51 [(.bool false), (.bool false), (.int .i64 0), (.int .i64 0), (.int .i64 0), (.int .i64 0), (.int .i64 0), (.int .i64 0), (.int .i64 0), (.int .i64 0), (.int .i64 0), (.int .i64 0), (.int .i64 0), (.str (ByteArray.mk #[]))]), (.st (.t 26) (.t 190) 14), (.st (.t 27) (.t 191) 14), (.mv 28 (.t 192))]) (.seq (.seq (.reg [(.mv 193 (.t 25)), (.bin 194 .neq (.t 193) (.c (.int .i64 0))), (.mv 195 (.t 194)), (.g 195 false (some 196) (.mv 196 (.t 28))), (.g 195 false (some 197) (.bin 197 .neq (.t 196) (.c (.int .i64 0)))), (.pick 198 (.t 195) (.c (.bool true)) (.t 197))]) (.cond (.t 198) (.seq (.reg [(.mv 8 (.c (.bool false)))]) .ret) .skip)) (.regD [(.ld 199 (.t 26) true 14), (.ld 200 (.t 23) true 14), (.st (.t 9) (.t 199) 14), (.st (.t 11) (.t 200) 14)] [(1, 2)]))))))))))))))) (.reg [(.bin 201 .add (.t 77) (.c (.int .i64 1))), (.mv 77 (.t 201))]))))
def c9 : SC := (.seq (.reg [(.mv 8 (.c (.bool false)))]) (.seq (.seq (.reg [(.call (some 29) (.c (.func 18 [] [])) []), (.not 30 (.t 29))]) (.cond (.t 30) (.seq (.reg [(.mv 8 (.c (.bool false)))]) .ret) .skip)) (.seq (.seq (.reg [(.mv 31 (.t 3)), (.len 32 false (.t 31)), (.bin 33 .gtr (.t 32) (.c (.int .i64 40))), (.mv 34 (.t 33)), (.g 34 false (some 35) (.mv 35 (.t 2))), (.g 34 false (some 36) (.len 36 true (.t 35))), (.g 34 false (some 37) (.bin 37 .gtr (.t 36) (.c (.int .i64 100)))), (.pick 38 (.t 34) (.c (.bool true)) (.t 37))]) (.cond (.t 38) (.seq (.reg [(.mv 8 (.c (.bool true)))]) .ret) .skip)) (.seq (.reg [(.bld 40 [(.int .i64 0), (.int .i64 0), (.int .i64 0), (.bool false), (.int .i64 0), (.int .i64 0)] [(2, 1, (.c (.int .i64 1))), (3, 1, (.c (.bool true))), (4, 1, (.c (.int .i64 2))), (5, 1, (.c (.int .i64 9)))]), (.bsl 41 57 6 [(.int .i64 0), (.int .i64 0), (.int .i64 0), (.bool false), (.int .i64 0), (.int .i64 0)] 1 [(0, (.t 40))]), (.bld 42 [(.int .i64 0), (.int .i64 0), .nil] [(0, 1, (.c (.int .i64 1))), (1, 1, (.c (.int .i64 2))), (2, 1, (.t 41))]), (.call (some 43) (.c (.func 20 [] [])) [(.t 42), (.c (.int .i64 1)), (.c (.int .i64 0))]), (.mv 39 (.t 43)), (.ext 44 (.t 39) 0), (.ext 45 (.t 39) 1), (.alc 9 31 [(.int .i64 0), (.int .i64 0), .nil, (.int .i64 0), .nil, .nil, .nil, (.int .i64 0), (.int .i64 0), (.int .i64 0), (.int .i64 0), (.int .i64 0), (.int .i64 0), (.int .i64 0)]), (.st (.t 9) (.t 44) 14), (.mv 10 (.t 45))]) (.seq (.reg [(.bld 47 [(.int .i64 0), (.int .i64 0), (.int .i64 0), (.bool false), (.int .i64 0), (.int .i64 0)] [(2, 1, (.c (.int .i64 1))), (4, 1, (.c (.int .i64 1))), (5, 1, (.c (.int .i64 9)))]), (.bsl 48 57 6 [(.int .i64 0), (.int .i64 0), (.int .i64 0), (.bool false), (.int .i64 0), (.int .i64 0)] 1 [(0, (.t 47))]), (.bld 49 [(.int .i64 0), (.int .i64 0), .nil] [(0, 1, (.c (.int .i64 2))), (1, 1, (.c (.int .i64 2))), (2, 1, (.t 48))]), (.call (some 50) (.c (.func 20 [] [])) [(.t 49), (.c (.int .i64 1)), (.c (.int .i64 0))]), (.mv 46 (.t 50)), (.ext 51 (.t 46) 0), (.ext 52 (.t 46) 1), (.alc 11 31 [(.int .i64 0), (.int .i64 0), .nil, (.int .i64 0), .nil, .nil, .nil, (.int .i64 0), (.int .i64 0), (.int .i64 0), (.int .i64 0), (.int .i64 0), (.int .i64 0), (.int .i64 0)]), (.st (.t 11) (.t 51) 14), (.mv 12 (.t 52))]) (.seq (.reg [(.mv 53 (.t 0)), (.conv 54 .i64 (.t 53)), (.mv 55 (.t 1)), (.conv 56 .i64 (.t 55)), (.mv 57 (.t 2)), (.bld 58 [(.int .i64 0), (.int .i64 0), (.int .i64 0), (.str (ByteArray.mk #[])), .nil] [(0, 1, (.c (.int .i64 9))), (1, 1, (.t 54)), (2, 1, (.t 56)), (3, 1, (.t 57))]), (.alc 13 100 [(.int .i64 0), (.int .i64 0), (.int .i64 0), (.str (ByteArray.mk #[])), .nil]), (.st (.t 13) (.t 58) 5)]) (.seq (.reg [(.ld 60 (.t 9) true 14), (.ld 61 (.t 13) true 5), (.call (some 62) (.c (.func 45 [] [])) [(.t 60), (.t 61)]), (.mv 59 (.t 62)), (.ext 63 (.t 59) 0), (.ext 64 (.t 59) 1), (.st (.t 9) (.t 63) 14), (.mv 14 (.t 64))]) (.seq (.seq (.reg [(.mv 65 (.t 10)), (.bin 66 .neq (.t 65) (.c (.int .i64 0))), (.mv 67 (.t 66)), (.g 67 false (some 68) (.mv 68 (.t 12))), (.g 67 false (some 69) (.bin 69 .neq (.t 68) (.c (.int .i64 0)))), (.pick 70 (.t 67) (.c (.bool true)) (.t 69)), (.mv 71 (.t 70)), (.g 71 false (some 72) (.mv 72 (.t 14))), (.g 71 false (some 73) (.bin 73 .neq (.t 72) (.c (.int .i64 0)))), (.pick 74 (.t 71) (.c (.bool true)) (.t 73))]) (.cond (.t 74) (.seq (.reg [(.mv 8 (.c (.bool false)))]) .ret) .skip)) (.seq (.reg [(.mv 15 (.c (.bool false))), (.mv 16 (.c (.bool false)))]) (.seq (.seq (.reg [(.mv 75 (.t 3)), (.len 76 false (.t 75)), (.mv 77 (.c (.int .i64 0)))]) (.block 0 (.loop c9L1))) (.seq (.reg [(.mv 8 (.c (.bool true)))]) .ret)))))))))))
theorem e9 : compC prog f9.ntmps (f9.body.getD .skip) = c9 := by kernel_rfl
def eU (n : Int) : List AVal := [.int .u8 n]
attribute [go_sem] eU
def h9 (fr un : Int) (d : ByteArray) (k1 k2 : Bool) : Heap := [.dead, .cells 0 14 31 true [(stFA fr un d k1).enc], .dead, .cells 0 14 31 true [(stFB fr un d k2).enc], .cells 0 5 100 true [(heldF fr un d false).enc]]
def and8 (n m : Int) : Int := IntKind.u8.wrap ((BitVec.ofInt IntKind.u8.bits n &&& BitVec.ofInt IntKind.u8.bits m).toNat : Int)
theorem and8_f {n m : Int} : IntKind.u8.wrap ((BitVec.ofInt IntKind.u8.bits n &&& BitVec.ofInt IntKind.u8.bits m).toNat : Int) = and8 n m := rfl
theorem az1 : decide (Action.zero.kind = 1) = false := rfl
theorem uz1 : Up.zero.got = false := rfl
theorem bq1 : (true == true) = true := rfl
theorem bq2 : (false == false) = true := rfl
theorem bq3 : (true == false) = false := rfl
theorem bq4 : (false == true) = false := rfl
section
variable {fr un : Int} {d : ByteArray}
theorem clFA (k : Bool) : ClBd (stFA fr un d k) := ⟨by show (1:Nat) * 48 ≤ _; decide, by show (0:Nat) * 56 ≤ _; decide, by show (1:Nat) * 64 ≤ _; decide, by show (0:Nat) * 16 ≤ _; decide, by
  intro h hh
  have e : h = heldF fr un d k := by simpa [stFA] using hh
  subst e
  cases k <;> simp [heldF]⟩
theorem clFB (k : Bool) : ClBd (stFB fr un d k) := ⟨by show (1:Nat) * 48 ≤ _; decide, by show (0:Nat) * 56 ≤ _; decide, by cases k <;> (simp [stFB]), by show (0:Nat) * 16 ≤ _; decide, by
  intro h hh
  cases k with
  | false => cases hh
  | true =>
    have e : h = heldF fr un d false := by simpa [stFB] using hh
    subst e
    simp [heldF]⟩
theorem dnFA (k : Bool) : DnBd (stFA fr un d k) := ⟨clFA k, by show (0:Nat) < _; decide, by
  intro h hh
  have e : h = heldF fr un d k := by simpa [stFA] using hh
  subst e
  cases k <;> simp [heldF]⟩
theorem dnFB (k : Bool) : DnBd (stFB fr un d k) := ⟨clFB k, by show (0:Nat) < _; decide, by
  intro h hh
  cases k with
  | false => cases hh
  | true =>
    have e : h = heldF fr un d false := by simpa [stFB] using hh
    subst e
    simp [heldF]⟩
theorem l9 (b : BdF fr un d) (l : List Int) (hL : l.length ≤ 40) (k' : List It) (hk : ∀ zs k1 k2, V prog f9.ntmps 0 (Ret [.t 8] 0 (.bool true) []) k' zs (h9 fr un d k1 k2)) :
    ∀ (rest done : List Int) (k1 k2 : Bool), l = done ++ rest →
    Lp prog f9.ntmps 0 (Ret [.t 8] 0 (.bool true) []) c9L1 (.blk 0 :: k') [(0, .int .u16 fr), (1, .int .u8 un), (2, .str d), (8, .bool false), (9, .ptr 1 0 0 0), (11, .ptr 3 0 0 0), (13, .ptr 4 0 0 0), (15, .bool k1), (16, .bool k2), (75, .sl 1 (l.map eU)), (76, .int .i64 l.length), (77, .int .i64 done.length)] (h9 fr un d k1 k2) := by
  have bf := b.f
  have bu := b.u
  have bd := b.d
  have wu : IntKind.i64.wrap un = un := wrap_ok (by omega) (by omega)
  have wf : IntKind.i64.wrap fr = fr := wrap_ok (by omega) (by omega)
  intro rest
  induction rest with
  | nil =>
    intro done k1 k2 hd
    refine Lp.of_eq hmx c9L1.eq_1 ?_
    have h1 := rg_end hd
    simp only [go_sem, seval, h1, List.length_map]
    exact hk _ k1 k2
  | cons n rest ih =>
    intro done k1 k2 hd
    refine Lp.of_eq hmx c9L1.eq_1 ?_
    obtain ⟨h1, h2, h3, h4⟩ := rg_hd eU hd (by omega)
    have hlen : done.length + 1 ≤ l.length := by rw [hd]; simp
    have hi : done.length ≤ 40 := by omega
    have w1 : IntKind.i64.wrap (2 * (done.length : Int)) = 2 * (done.length : Int) := wrap_ok (by omega) (by omega)
    have h25 := c25_act (s := stFA fr un d k1) (slot := 2 * (done.length : Int)) (clFA k1)
    rw [actF b hi] at h25
    have hs : (k1 = true ∨ decide (2 * (done.length : Int) ≤ un) = false) ∨ (k1 = false ∧ decide (2 * (done.length : Int) ≤ un) = true) := by
      cases k1 <;> cases decide (2 * (done.length : Int) ≤ un) <;> simp
    rcases hs with hs | ⟨rfl, hu⟩
    · have ih' := ih (done ++ [n]) k1 k2 h4
      have hn : ¬ (k1 = false ∧ 2 * (done.length : Int) ≤ un) := by
        rcases hs with rfl | hs
        · simp
        · rw [decide_eq_false_iff_not] at hs; exact fun h => hs h.2
      rw [if_neg hn] at h25
      cases k1 with
      | true =>
        repeat' first | refine CX_pure (h25) rfl rfl rfl rfl ?_ | refine GX_call (fun _ => (h25)) (by rfl) (by intro h; simp only [h]; rfl) (by rfl) (by rfl) ?_ | (with_reducible intro h; try simp only [h]) | (with_reducible refine And.intro ?_ ?_) | (change chk _ _ = true; rfl) | simp only [go_sem, seval, Vc_bool, h9, az1, bq1, bq2, bq3, bq4, h1, h2, h3, w1, wu, List.length_map, Int.toNat_natCast, Int.natCast_nonneg] | refine (GX_split rfl).2 ?_
        refine Lp.bkE [_] ih' (by rfl) (by rfl) (by rfl) (Nat.zero_le _) rfl
      | false =>
        have hu : decide (2 * (done.length : Int) ≤ un) = false := by rcases hs with hs | hs; cases hs; exact hs
        repeat' first | refine CX_pure (h25) rfl rfl rfl rfl ?_ | refine GX_call (fun _ => (h25)) (by rfl) (by intro h; simp only [h]; rfl) (by rfl) (by rfl) ?_ | (with_reducible intro h; try simp only [h]) | (with_reducible refine And.intro ?_ ?_) | (change chk _ _ = true; rfl) | simp only [go_sem, seval, Vc_bool, h9, az1, bq1, bq2, bq3, bq4, h1, h2, h3, w1, wu, hu, List.length_map, Int.toNat_natCast, Int.natCast_nonneg] | refine (GX_split rfl).2 ?_
        refine Lp.bkE [_] ih' (by rfl) (by rfl) (by rfl) (Nat.zero_le _) rfl
    · have hu' : 2 * (done.length : Int) ≤ un := of_decide_eq_true hu
      rw [if_pos ⟨rfl, hu'⟩] at h25
      obtain ⟨bh, hb⟩ : ∃ b, decide (and8 n 1 = 0) = b := ⟨_, rfl⟩
      obtain ⟨bb, hc⟩ : ∃ b, decide (and8 n 2 = 0) = b := ⟨_, rfl⟩
      have hB := c28_ok (s := stFB fr un d k2) (slot := 2 * (done.length : Int)) (r := ⟨false, bh, frF fr d, 0⟩) (dnFB k2)
      rw [doneFB b hi] at hB
      have hA := c28_ok (s := stFA fr un d false) (slot := 2 * (done.length : Int)) (r := ⟨bh && bb, false, Frame.zero, 0⟩) (dnFA false)
      rw [doneFA b hi hu'] at hA
      have hH := c45_ok (s := stFB fr un d false) (h := heldF fr un d false) (clFB false) (by simp [heldF]) (by simp [stFB, stF0])
      rw [(holdF b).2] at hH
      cases bh with
      | false =>
        have ih' := ih (done ++ [n]) false k2 h4
        rw [Bool.false_and] at hA
        simp only [Bool.false_eq_true, if_false] at hB
        repeat' first | refine CX_pure (h25) rfl rfl rfl rfl ?_ | refine CX_pure (hB) rfl rfl rfl rfl ?_ | refine CX_pure (hA) rfl rfl rfl rfl ?_ | refine GX_call (fun _ => (h25)) (by rfl) (by intro h; simp only [h]; rfl) (by rfl) (by rfl) ?_ | refine GX_call (fun _ => (hB)) (by rfl) (by intro h; simp only [h]; rfl) (by rfl) (by rfl) ?_ | refine GX_call (fun _ => (hA)) (by rfl) (by intro h; simp only [h]; rfl) (by rfl) (by rfl) ?_ | (with_reducible intro h; try simp only [h]) | (with_reducible refine And.intro ?_ ?_) | (change chk _ _ = true; rfl) | simp only [go_sem, seval, Vc_bool, ↓and8_f, h9, frF, bq1, bq2, bq3, bq4, uz1, h1, h2, h3, w1, wu, wf, hu, hb, hc, dec_self, bytes_self, List.length_map, Int.toNat_natCast, Int.natCast_nonneg] | refine (GX_split rfl).2 ?_
        refine Lp.bkE [_, _, _, _, _] ih' (by rfl) (by rfl) (by rfl) (Nat.zero_le _) rfl
      | true =>
        rw [Bool.true_and] at hA
        simp only [if_true] at hB
        cases k2 with
        | false =>
          have ih' := ih (done ++ [n]) bb true h4
          repeat' first | refine CX_pure (h25) rfl rfl rfl rfl ?_ | refine CX_pure (hB) rfl rfl rfl rfl ?_ | refine CX_pure (hH) rfl rfl rfl rfl ?_ | refine CX_pure (hA) rfl rfl rfl rfl ?_ | refine GX_call (fun _ => (h25)) (by rfl) (by intro h; simp only [h]; rfl) (by rfl) (by rfl) ?_ | refine GX_call (fun _ => (hB)) (by rfl) (by intro h; simp only [h]; rfl) (by rfl) (by rfl) ?_ | refine GX_call (fun _ => (hH)) (by rfl) (by intro h; simp only [h]; rfl) (by rfl) (by rfl) ?_ | refine GX_call (fun _ => (hA)) (by rfl) (by intro h; simp only [h]; rfl) (by rfl) (by rfl) ?_ | (with_reducible intro h; try simp only [h]) | (with_reducible refine And.intro ?_ ?_) | (change chk _ _ = true; rfl) | simp only [go_sem, seval, Vc_bool, ↓and8_f, h9, frF, bq1, bq2, bq3, bq4, uz1, h1, h2, h3, w1, wu, wf, hu, hb, hc, dec_self, bytes_self, List.length_map, Int.toNat_natCast, Int.natCast_nonneg] | refine (GX_split rfl).2 ?_
          refine Lp.bkE [_, _, _, _, _] ih' (by rfl) (by rfl) (by rfl) (Nat.zero_le _) rfl
        | true =>
          have ih' := ih (done ++ [n]) bb true h4
          repeat' first | refine CX_pure (h25) rfl rfl rfl rfl ?_ | refine CX_pure (hB) rfl rfl rfl rfl ?_ | refine CX_pure (hA) rfl rfl rfl rfl ?_ | refine GX_call (fun _ => (h25)) (by rfl) (by intro h; simp only [h]; rfl) (by rfl) (by rfl) ?_ | refine GX_call (fun _ => (hB)) (by rfl) (by intro h; simp only [h]; rfl) (by rfl) (by rfl) ?_ | refine GX_call (fun _ => (hA)) (by rfl) (by intro h; simp only [h]; rfl) (by rfl) (by rfl) ?_ | (with_reducible intro h; try simp only [h]) | (with_reducible refine And.intro ?_ ?_) | (change chk _ _ = true; rfl) | simp only [go_sem, seval, Vc_bool, ↓and8_f, h9, frF, bq1, bq2, bq3, bq4, uz1, h1, h2, h3, w1, wu, wf, hu, hb, hc, dec_self, bytes_self, List.length_map, Int.toNat_natCast, Int.natCast_nonneg] | refine (GX_split rfl).2 ?_
          refine Lp.bkE [_, _, _, _, _] ih' (by rfl) (by rfl) (by rfl) (Nat.zero_le _) rfl
end
theorem c20FA : ACalls prog 20 [.agg [.int .i64 1, .int .i64 2, .sl 6 [[.int .i64 0, .int .i64 0, .int .i64 1, .bool true, .int .i64 2, .int .i64 9]]], .int .i64 1, .int .i64 0] [] (.tup [.agg (stF0 tabFA).enc, .int .i64 0]) [] := by
  have h := c20_pf tabFA 1 0 (by decide)
  rw [newFA] at h
  exact h
theorem c20FB : ACalls prog 20 [.agg [.int .i64 2, .int .i64 2, .sl 6 [[.int .i64 0, .int .i64 0, .int .i64 1, .bool false, .int .i64 1, .int .i64 9]]], .int .i64 1, .int .i64 0] [] (.tup [.agg (stF0 tabFB).enc, .int .i64 0]) [] := by
  have h := c20_pf tabFB 1 0 (by decide)
  rw [newFB] at h
  exact h
theorem c9_ok {fr un : Int} {d : ByteArray} {l : List Int} (hf : 0 ≤ fr ∧ fr ≤ 65535) (hu : 0 ≤ un ∧ un ≤ 255) : ACalls prog 9 [.int .u16 fr, .int .u8 un, .str d, .sl 1 (l.map eU)] [] (.bool true) [] := by
  have wu : IntKind.i64.wrap un = un := wrap_ok (by omega) (by omega)
  have wf : IntKind.i64.wrap fr = fr := wrap_ok (by omega) (by omega)
  refine calls_of hmx func9 (by kernel_rfl) (c := f9.body.getD .skip) rfl e9 (rs := [(.t 8)]) (by kernel_rfl) (by simp [ntmps9]) ?_
  simp only [c9, argS]
  cases h1 : decide ((40 : Int) < (l.length : Int)) with
  | true =>
    repeat' first | (refine Rt_pure ?_ rfl; simp only [retO, retO1, retOs, S, get_cons, Nat.reduceEqDiff, reduceIte, obj, getO_cons_zero, getO_cons_succ, List.getElem?_cons_zero, List.getElem?_cons_succ, List.drop_zero, List.drop_succ_cons, loadFrom_cell, loadFrom_agg, List.length_cons, List.length_nil, Nat.reduceAdd, Nat.reduceLeDiff, List.take_succ_cons, List.take_zero, List.take_nil]) | refine CX_pure (c18_ok) rfl rfl rfl rfl ?_ | refine GX_call (fun _ => (c18_ok)) (by rfl) (by intro h; simp only [h]; rfl) (by rfl) (by rfl) ?_ | (with_reducible intro h; try simp only [h]) | (with_reducible refine And.intro ?_ ?_) | (change chk _ _ = true; rfl) | simp only [go_sem, seval, Vc_bool, h1, List.length_map] | refine (GX_split rfl).2 ?_
  | false =>
    cases h2 : decide ((100 : Int) < (d.size : Int)) with
    | true =>
      repeat' first | (refine Rt_pure ?_ rfl; simp only [retO, retO1, retOs, S, get_cons, Nat.reduceEqDiff, reduceIte, obj, getO_cons_zero, getO_cons_succ, List.getElem?_cons_zero, List.getElem?_cons_succ, List.drop_zero, List.drop_succ_cons, loadFrom_cell, loadFrom_agg, List.length_cons, List.length_nil, Nat.reduceAdd, Nat.reduceLeDiff, List.take_succ_cons, List.take_zero, List.take_nil]) | refine CX_pure (c18_ok) rfl rfl rfl rfl ?_ | refine GX_call (fun _ => (c18_ok)) (by rfl) (by intro h; simp only [h]; rfl) (by rfl) (by rfl) ?_ | (with_reducible intro h; try simp only [h]) | (with_reducible refine And.intro ?_ ?_) | (change chk _ _ = true; rfl) | simp only [go_sem, seval, Vc_bool, h1, h2, List.length_map] | refine (GX_split rfl).2 ?_
    | false =>
      have hl : l.length ≤ 40 := by have := of_decide_eq_false h1; omega
      have b : BdF fr un d := ⟨hf, hu, by have := of_decide_eq_false h2; omega⟩
      have h45 := c45_ok (s := stF0 tabFA) (h := heldF fr un d false) ⟨by show (1:Nat) * 48 ≤ _; decide, by show (0:Nat) * 56 ≤ _; decide, by show (0:Nat) * 64 ≤ _; decide, by show (0:Nat) * 16 ≤ _; decide, by intro h hh; cases hh⟩ (by simp [heldF]) (by simp [stF0])
      rw [(holdF b).1] at h45
      repeat' first | refine CX_pure (c18_ok) rfl rfl rfl rfl ?_ | refine GX_call (fun _ => (c18_ok)) (by rfl) (by intro h; simp only [h]; rfl) (by rfl) (by rfl) ?_ | (with_reducible intro h; try simp only [h]) | (with_reducible refine And.intro ?_ ?_) | (change chk _ _ = true; rfl) | simp only [go_sem, seval, Vc_bool, h1, h2, List.length_map] | refine (GX_split rfl).2 ?_
      refine CX.gs (Gs_freeze 0 (s' := [(42, .agg [.int .i64 1, .int .i64 2, .sl 6 [[.int .i64 0, .int .i64 0, .int .i64 1, .bool true, .int .i64 2, .int .i64 9]]]), (0, .int .u16 fr), (1, .int .u8 un), (2, .str d), (3, .sl 1 (l.map eU)), (8, .bool false)]) (H' := [.dead]) rfl ?_ ?_) ?_
      · refine List.forall_mem_cons.2 ⟨?_, List.forall_mem_cons.2 ⟨?_, List.forall_mem_cons.2 ⟨?_, List.forall_mem_cons.2 ⟨?_, List.forall_mem_cons.2 ⟨?_, List.forall_mem_cons.2 ⟨?_, by simp⟩⟩⟩⟩⟩⟩
        · exact Fz.aggL (.cons (.wk (.refl _)) (.cons (.wk (.refl _)) (.cons (Fz.row 0 1 rfl (cloE_map (f := TCell.enc) (xs := [⟨0, 0, 1, true, 2, 9⟩]) fun _ => by rfl)) .nil)))
        all_goals exact .wk (.refl _)
      · repeat' (first | exact FzL.nil | refine FzL.cons ?_ ?_ | exact Fz.wk (Wk.refl _) | exact Fz.wk (Wk.nil _) | exact Fz.wk (Wk.emp _) | exact Fz.row0 _ _ _ _ | exact FzH.nil _ | exact FzO.refl _ | refine FzO.one ?_ | refine FzH.cons (by decide) ?_ ?_ | refine FzH.this rfl ?_ | exact FzO.dead (by simp) | (simp only [List.forall_mem_cons, List.not_mem_nil, false_implies, implies_true, and_true, go_sem, seval]) | refine And.intro ?_ ?_)
      refine CX_pure c20FA rfl rfl rfl rfl ?_
      repeat' first | (with_reducible intro h; try simp only [h]) | (with_reducible refine And.intro ?_ ?_) | (change chk _ _ = true; rfl) | simp only [go_sem, seval, Vc_bool] | refine (GX_split rfl).2 ?_
      refine CX.gs (Gs_freeze 2 (s' := [(49, .agg [.int .i64 2, .int .i64 2, .sl 6 [[.int .i64 0, .int .i64 0, .int .i64 1, .bool false, .int .i64 1, .int .i64 9]]]), (0, .int .u16 fr), (1, .int .u8 un), (2, .str d), (3, .sl 1 (l.map eU)), (8, .bool false), (9, .ptr 1 0 0 0), (10, .int .i64 0)]) (H' := [.dead, .cells 0 14 31 true [(stF0 tabFA).enc], .dead]) rfl ?_ ?_) ?_
      · refine List.forall_mem_cons.2 ⟨?_, List.forall_mem_cons.2 ⟨?_, List.forall_mem_cons.2 ⟨?_, List.forall_mem_cons.2 ⟨?_, List.forall_mem_cons.2 ⟨?_, List.forall_mem_cons.2 ⟨?_, List.forall_mem_cons.2 ⟨?_, List.forall_mem_cons.2 ⟨?_, by simp⟩⟩⟩⟩⟩⟩⟩⟩
        · exact Fz.aggL (.cons (.wk (.refl _)) (.cons (.wk (.refl _)) (.cons (Fz.row 0 1 rfl (cloE_map (f := TCell.enc) (xs := [⟨0, 0, 1, false, 1, 9⟩]) fun _ => by rfl)) .nil)))
        all_goals exact .wk (.refl _)
      · repeat' (first | exact FzL.nil | refine FzL.cons ?_ ?_ | exact Fz.wk (Wk.refl _) | exact Fz.wk (Wk.nil _) | exact Fz.wk (Wk.emp _) | exact Fz.row0 _ _ _ _ | exact FzH.nil _ | exact FzO.refl _ | refine FzO.one ?_ | refine FzH.cons (by decide) ?_ ?_ | refine FzH.this rfl ?_ | exact FzO.dead (by simp) | (simp only [List.forall_mem_cons, List.not_mem_nil, false_implies, implies_true, and_true, go_sem, seval]) | refine And.intro ?_ ?_)
      refine CX_pure c20FB rfl rfl rfl rfl ?_
      repeat' first | (with_reducible intro h; try simp only [h]) | (with_reducible refine And.intro ?_ ?_) | (change chk _ _ = true; rfl) | simp only [go_sem, seval, Vc_bool, wu, wf] | refine (GX_split rfl).2 ?_
      refine CX.gs (Gs_tell (s' := [(60, .agg (stF0 tabFA).enc), (61, .agg (heldF fr un d false).enc), (0, .int .u16 fr), (1, .int .u8 un), (2, .str d), (3, .sl 1 (l.map eU)), (8, .bool false), (9, .ptr 1 0 0 0), (10, .int .i64 0), (11, .ptr 3 0 0 0), (12, .int .i64 0), (13, .ptr 4 0 0 0)]) (H' := [.dead, .cells 0 14 31 true [(stF0 tabFA).enc], .dead, .cells 0 14 31 true [(stF0 tabFB).enc], .cells 0 5 100 true [(heldF fr un d false).enc]]) ?_ ?_) ?_
      · refine List.forall_mem_cons.2 ⟨?_, List.forall_mem_cons.2 ⟨?_, List.forall_mem_cons.2 ⟨?_, List.forall_mem_cons.2 ⟨?_, List.forall_mem_cons.2 ⟨?_, List.forall_mem_cons.2 ⟨?_, List.forall_mem_cons.2 ⟨?_, List.forall_mem_cons.2 ⟨?_, List.forall_mem_cons.2 ⟨?_, List.forall_mem_cons.2 ⟨?_, List.forall_mem_cons.2 ⟨?_, List.forall_mem_cons.2 ⟨?_, by simp⟩⟩⟩⟩⟩⟩⟩⟩⟩⟩⟩⟩
        · exact .wk (.refl _)
        · exact Fz.aggL (.cons (.wk (.refl _)) (.cons (.wk (.refl _)) (.cons (.wk (.refl _)) (.cons (.wk (.refl _)) (.cons (.wk (.nil _)) .nil)))))
        all_goals exact .wk (.refl _)
      · repeat' (first | exact FzL.nil | refine FzL.cons ?_ ?_ | exact Fz.wk (Wk.refl _) | exact Fz.wk (Wk.nil _) | exact Fz.wk (Wk.emp _) | exact Fz.row0 _ _ _ _ | exact FzH.nil _ | exact FzO.refl _ | refine FzO.one ?_ | refine FzH.cons (by decide) ?_ ?_ | refine FzH.this rfl ?_ | exact FzO.dead (by simp) | (simp only [List.forall_mem_cons, List.not_mem_nil, false_implies, implies_true, and_true, go_sem, seval]) | refine And.intro ?_ ?_)
      refine CX_pure h45 rfl rfl rfl rfl ?_
      repeat' first | (with_reducible intro h; try simp only [h]) | (with_reducible refine And.intro ?_ ?_) | (change chk _ _ = true; rfl) | simp only [go_sem, seval, Vc_bool, List.length_map] | refine (GX_split rfl).2 ?_
      refine Lp.bkE0 (l9 b l hl _ (fun zs k1 k2 => ?_) l [] false false rfl) (by rfl) rfl
      repeat' first | (with_reducible intro h; try simp only [h]) | (with_reducible refine And.intro ?_ ?_) | (change chk _ _ = true; rfl) | simp only [go_sem, seval, Vc_bool] | refine (GX_split rfl).2 ?_
      exact Rt_pure (by rfl) (by rfl)

end Go.Av.T
