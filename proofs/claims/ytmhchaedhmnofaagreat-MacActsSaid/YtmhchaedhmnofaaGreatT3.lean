/- The seat: part T3. -/
import Derived.Test.YtmhchaedhmnofaaGreatT2
import Derived.KernelRfl
set_option maxRecDepth 100000
set_option maxHeartbeats 1000000
set_option linter.unusedSimpArgs false
set_option linter.unusedVariables false
namespace Go.Av.T
open Go Go.Av Go.Av.Sp Go.Proofs.Tryz
def c23L1 : SC := (.seq (.seq (.reg [(.mv 23 (.t 3)), (.fa 24 (.t 1) 3), (.fa 25 (.t 24) 1), (.ld 26 (.t 25) false 1), (.len 27 false (.t 26)), (.bin 28 .lss (.t 23) (.t 27))]) (.cond (.t 28) .skip (.exit 0))) (.seq (.block 1 (.seq (.reg [(.fa 31 (.t 1) 3), (.fa 32 (.t 31) 1), (.ld 33 (.t 32) false 1), (.mv 34 (.t 3)), (.ia 35 (.t 33) (.t 34) 6), (.ld 36 (.t 35) true 6), (.alc 4 104 [(.int .i64 0), (.int .i64 0), (.int .i64 0), (.int .i64 0), (.int .i64 0), (.str (ByteArray.mk #[]))]), (.st (.t 4) (.t 36) 6)]) (.seq (.reg [(.fa 37 (.t 4) 1), (.ld 38 (.t 37) false 1), (.fa 39 (.t 1) 0), (.fa 40 (.t 39) 0), (.ld 41 (.t 40) false 1), (.bin 42 .eql (.t 38) (.t 41)), (.mv 43 (.t 42)), (.g 43 false (some 44) (.fa 44 (.t 4) 5)), (.g 43 false (some 45) (.ld 45 (.t 44) false 1)), (.g 43 false (some 46) (.len 46 true (.t 45))), (.g 43 false (some 47) (.bin 47 .gtr (.t 46) (.c (.int .i64 100)))), (.pick 48 (.t 43) (.c (.bool true)) (.t 47))]) (.cond (.t 48) (.seq (.reg [(.mv 2 (.c (.int .i64 1)))]) .ret) .skip)))) (.reg [(.mv 29 (.t 3)), (.bin 30 .add (.t 29) (.c (.int .i64 1))), (.mv 3 (.t 30))])))
def c23L2 : SC := (.seq (.seq (.reg [(.mv 49 (.t 5)), (.fa 50 (.t 1) 5), (.ld 51 (.t 50) false 1), (.len 52 false (.t 51)), (.bin 53 .lss (.t 49) (.t 52))]) (.cond (.t 53) .skip (.exit 2))) (.seq (.block 3 (.seq (.regD [(.fa 56 (.t 1) 5), (.ld 57 (.t 56) false 1), (.mv 58 (.t 5)), (.ia 59 (.t 57) (.t 58) 5), (.ld 60 (.t 59) true 5), (.call (some 61) (.c (.func 89 [] [])) [(.t 60)]), (.bin 62 .neq (.t 61) (.c (.int .i64 0))), (.mv 63 (.t 62)), (.g 63 false (some 64) (.mv 64 (.t 5))), (.g 63 false (some 65) (.bin 65 .gtr (.t 64) (.c (.int .i64 0)))), (.g 63 false (some 66) (.mv 66 (.t 65))), (.g 66 true (some 67) (.fa 67 (.t 1) 5)), (.g 66 true (some 68) (.ld 68 (.t 67) false 1)), (.g 66 true (some 69) (.mv 69 (.t 5))), (.g 66 true (some 70) (.bin 70 .sub (.t 69) (.c (.int .i64 1)))), (.g 66 true (some 71) (.ia 71 (.t 68) (.t 70) 5)), (.g 66 true (some 72) (.fa 72 (.t 71) 0)), (.g 66 true (some 73) (.ld 73 (.t 72) false 1)), (.g 66 true (some 74) (.fa 74 (.t 1) 5)), (.g 66 true (some 75) (.ld 75 (.t 74) false 1)), (.g 66 true (some 76) (.mv 76 (.t 5))), (.g 66 true (some 77) (.ia 77 (.t 75) (.t 76) 5)), (.g 66 true (some 78) (.fa 78 (.t 77) 0)), (.g 66 true (some 79) (.ld 79 (.t 78) false 1)), (.g 66 true (some 80) (.bin 80 .geq (.t 73) (.t 79))), (.g 63 false (some 81) (.pick 81 (.t 66) (.t 80) (.c (.bool false)))), (.pick 82 (.t 63) (.c (.bool true)) (.t 81))] []) (.cond (.t 82) (.seq (.reg [(.mv 2 (.c (.int .i64 1)))]) .ret) .skip))) (.reg [(.mv 54 (.t 5)), (.bin 55 .add (.t 54) (.c (.int .i64 1))), (.mv 5 (.t 55))])))
def c23L3 : SC := (.seq (.seq (.reg [(.mv 83 (.t 6)), (.fa 84 (.t 1) 6), (.ld 85 (.t 84) false 1), (.len 86 false (.t 85)), (.bin 87 .lss (.t 83) (.t 86))]) (.cond (.t 87) .skip (.exit 4))) (.seq (.block 5 (.seq (.regD [(.fa 90 (.t 1) 6), (.ld 91 (.t 90) false 1), (.mv 92 (.t 6)), (.ia 93 (.t 91) (.t 92) 2), (.fa 94 (.t 93) 0), (.ld 95 (.t 94) false 1), (.call (some 96) (.c (.func 90 [] [])) [(.t 95)]), (.not 97 (.t 96)), (.mv 98 (.t 97)), (.g 98 false (some 99) (.fa 99 (.t 1) 6)), (.g 98 false (some 100) (.ld 100 (.t 99) false 1)), (.g 98 false (some 101) (.mv 101 (.t 6))), (.g 98 false (some 102) (.ia 102 (.t 100) (.t 101) 2)), (.g 98 false (some 103) (.fa 103 (.t 102) 1)), (.g 98 false (some 104) (.ld 104 (.t 103) false 1)), (.g 98 false (some 105) (.call (some 105) (.c (.func 91 [] [])) [(.t 104)])), (.g 98 false (some 106) (.not 106 (.t 105))), (.pick 107 (.t 98) (.c (.bool true)) (.t 106)), (.mv 108 (.t 107)), (.g 108 false (some 109) (.mv 109 (.t 6))), (.g 108 false (some 110) (.bin 110 .gtr (.t 109) (.c (.int .i64 0)))), (.g 108 false (some 111) (.mv 111 (.t 110))), (.g 111 true (some 112) (.fa 112 (.t 1) 6)), (.g 111 true (some 113) (.ld 113 (.t 112) false 1)), (.g 111 true (some 114) (.mv 114 (.t 6))), (.g 111 true (some 115) (.bin 115 .sub (.t 114) (.c (.int .i64 1)))), (.g 111 true (some 116) (.ia 116 (.t 113) (.t 115) 2)), (.g 111 true (some 117) (.fa 117 (.t 116) 0)), (.g 111 true (some 118) (.ld 118 (.t 117) false 1)), (.g 111 true (some 119) (.fa 119 (.t 1) 6)), (.g 111 true (some 120) (.ld 120 (.t 119) false 1)), (.g 111 true (some 121) (.mv 121 (.t 6))), (.g 111 true (some 122) (.ia 122 (.t 120) (.t 121) 2)), (.g 111 true (some 123) (.fa 123 (.t 122) 0)), (.g 111 true (some 124) (.ld 124 (.t 123) false 1)), (.g 111 true (some 125) (.bin 125 .geq (.t 118) (.t 124))), (.g 108 false (some 126) (.pick 126 (.t 111) (.t 125) (.c (.bool false)))), (.pick 127 (.t 108) (.c (.bool true)) (.t 126))] []) (.cond (.t 127) (.seq (.reg [(.mv 2 (.c (.int .i64 1)))]) .ret) .skip))) (.reg [(.mv 88 (.t 6)), (.bin 89 .add (.t 88) (.c (.int .i64 1))), (.mv 6 (.t 89))])))
def c23 : SC := (.seq (.reg [(.box 1 31 (.t 0)), (.mv 2 (.c (.int .i64 0)))]) (.seq (.seq (.reg [(.fa 7 (.t 1) 0), (.ld 8 (.t 7) true 3), (.call (some 9) (.c (.func 83 [] [])) [(.t 8)]), (.bin 10 .neq (.t 9) (.c (.int .i64 0))), (.mv 11 (.t 10)), (.g 11 false (some 12) (.fa 12 (.t 1) 3)), (.g 11 false (some 13) (.ld 13 (.t 12) true 2)), (.g 11 false (some 14) (.call (some 14) (.c (.func 88 [] [])) [(.t 13)])), (.g 11 false (some 15) (.bin 15 .neq (.t 14) (.c (.int .i64 0)))), (.pick 16 (.t 11) (.c (.bool true)) (.t 15)), (.mv 17 (.t 16)), (.g 17 false (some 18) (.fa 18 (.t 1) 5)), (.g 17 false (some 19) (.ld 19 (.t 18) false 1)), (.g 17 false (some 20) (.len 20 false (.t 19))), (.g 17 false (some 21) (.bin 21 .gtr (.t 20) (.c (.int .i64 16)))), (.pick 22 (.t 17) (.c (.bool true)) (.t 21))]) (.cond (.t 22) (.seq (.reg [(.mv 2 (.c (.int .i64 1)))]) .ret) .skip)) (.seq (.seq (.reg [(.mv 3 (.c (.int .i64 0)))]) (.block 0 (.loop c23L1))) (.seq (.seq (.reg [(.mv 5 (.c (.int .i64 0)))]) (.block 2 (.loop c23L2))) (.seq (.seq (.reg [(.mv 6 (.c (.int .i64 0)))]) (.block 4 (.loop c23L3))) (.seq (.seq (.regD [(.fa 128 (.t 1) 7), (.ld 129 (.t 128) false 1), (.call (some 130) (.c (.func 91 [] [])) [(.t 129)]), (.not 131 (.t 130)), (.mv 132 (.t 131)), (.g 132 false (some 133) (.fa 133 (.t 1) 8)), (.g 132 false (some 134) (.ld 134 (.t 133) false 1)), (.g 132 false (some 135) (.call (some 135) (.c (.func 91 [] [])) [(.t 134)])), (.g 132 false (some 136) (.not 136 (.t 135))), (.pick 137 (.t 132) (.c (.bool true)) (.t 136)), (.mv 138 (.t 137)), (.g 138 false (some 139) (.fa 139 (.t 1) 11)), (.g 138 false (some 140) (.ld 140 (.t 139) false 1)), (.g 138 false (some 141) (.bin 141 .lss (.t 140) (.c (.int .i64 0)))), (.pick 142 (.t 138) (.c (.bool true)) (.t 141)), (.mv 143 (.t 142)), (.g 143 false (some 144) (.fa 144 (.t 1) 11)), (.g 143 false (some 145) (.ld 145 (.t 144) false 1)), (.g 143 false (some 146) (.bin 146 .gtr (.t 145) (.c (.int .i64 5)))), (.pick 147 (.t 143) (.c (.bool true)) (.t 146)), (.mv 148 (.t 147)), (.g 148 false (some 149) (.fa 149 (.t 1) 12)), (.g 148 false (some 150) (.ld 150 (.t 149) false 1)), (.g 148 false (some 151) (.bin 151 .lss (.t 150) (.c (.int .i64 0)))), (.pick 152 (.t 148) (.c (.bool true)) (.t 151)), (.mv 153 (.t 152)), (.g 153 false (some 154) (.fa 154 (.t 1) 12)), (.g 153 false (some 155) (.ld 155 (.t 154) false 1)), (.g 153 false (some 156) (.fa 156 (.t 1) 11)), (.g 153 false (some 157) (.ld 157 (.t 156) false 1)), (.g 153 false (some 158) (.call (some 158) (.c (.func 92 [] [])) [(.t 157)])), (.g 153 false (some 159) (.bin 159 .geq (.t 155) (.t 158))), (.pick 160 (.t 153) (.c (.bool true)) (.t 159)), (.mv 161 (.t 160)), (.g 161 false (some 162) (.fa 162 (.t 1) 13)), (.g 161 false (some 163) (.ld 163 (.t 162) false 1)), (.g 161 false (some 164) (.bin 164 .lss (.t 163) (.c (.int .i64 0)))), (.pick 165 (.t 161) (.c (.bool true)) (.t 164)), (.mv 166 (.t 165)), (.g 166 false (some 167) (.fa 167 (.t 1) 13)), (.g 166 false (some 168) (.ld 168 (.t 167) false 1)), (.g 166 false (some 169) (.bin 169 .geq (.t 168) (.c (.int .i64 2147483648)))), (.pick 170 (.t 166) (.c (.bool true)) (.t 169))] [(27, 30)]) (.cond (.t 170) (.seq (.reg [(.mv 2 (.c (.int .i64 1)))]) .ret) .skip)) (.seq (.seq (.reg [(.fa 171 (.t 1) 9), (.ld 172 (.t 171) false 1), (.bin 173 .eql (.t 172) (.c (.int .i64 (-1)))), (.mv 174 (.t 173)), (.g 174 true (some 175) (.fa 175 (.t 1) 10)), (.g 174 true (some 176) (.ld 176 (.t 175) false 1)), (.g 174 true (some 177) (.bin 177 .eql (.t 176) (.c (.int .i64 0)))), (.pick 178 (.t 174) (.t 177) (.c (.bool false)))]) (.cond (.t 178) (.seq (.reg [(.mv 2 (.c (.int .i64 0)))]) .ret) .skip)) (.seq (.seq (.reg [(.fa 179 (.t 1) 3), (.fa 180 (.t 179) 1), (.ld 181 (.t 180) false 1), (.fa 182 (.t 1) 9), (.ld 183 (.t 182) false 1), (.call (some 184) (.c (.func 93 [] [])) [(.t 181), (.t 183)]), (.bin 185 .lss (.t 184) (.c (.int .i64 0))), (.mv 186 (.t 185)), (.g 186 false (some 187) (.fa 187 (.t 1) 10)), (.g 186 false (some 188) (.ld 188 (.t 187) false 1)), (.g 186 false (some 189) (.bin 189 .lss (.t 188) (.c (.int .i64 1)))), (.pick 190 (.t 186) (.c (.bool true)) (.t 189)), (.mv 191 (.t 190)), (.g 191 false (some 192) (.fa 192 (.t 1) 10)), (.g 191 false (some 193) (.ld 193 (.t 192) false 1)), (.g 191 false (some 194) (.bin 194 .geq (.t 193) (.c (.int .i64 4)))), (.pick 195 (.t 191) (.c (.bool true)) (.t 194))]) (.cond (.t 195) (.seq (.reg [(.mv 2 (.c (.int .i64 1)))]) .ret) .skip)) (.seq (.reg [(.mv 2 (.c (.int .i64 0)))]) .ret)))))))))
theorem e23 : compC prog f23.ntmps (f23.body.getD .skip) = c23 := by kernel_rfl
def tryOk' (s : Station) : Bool := decide (s.trying = -1) && decide (s.tries = 0) || hasId s.q.pk s.trying && decide (1 ≤ s.tries) && decide (s.tries < 4)
def fin23 (s : Station) : Int := if (wi s.list 255 && wi s.seq 255 && wi s.back 5 && wi s.wait (2 ^ s.back.toNat - 1) && wi s.seed 2147483647 && tryOk' s) = true then 0 else 1
def seen23 (s : Station) : Int := if seenOk s.seen = true then fin23 s else 1
def held23 (s : Station) : Int := if chain hOk (fun a b => decide (a.flow < b.flow)) none s.held = true then seen23 s else 1
def pkOk (s : Station) (p : Packet) : Bool := !decide (p.to = s.tab.node) && decide ((p.data.size : Int) ≤ 100)
theorem heldErr_ok (h : Held) : decide (heldErr h = 0) = hOk h := by simp only [heldErr, hOk]; grind
theorem l23a (s : Station) (hL : (s.q.pk).length < 2 ^ 62) (k' : List It) (hk : ∀ zs, get zs 1 = .ptr 0 0 0 0 → V prog f23.ntmps 0 (Ret [(.t 2)] 0 (.int .i64 (held23 s)) []) k' zs [.cells 0 14 31 true [s.enc]]) : ∀ (rest done : List Packet), s.q.pk = done ++ rest →
    Lp prog f23.ntmps 0 (Ret [(.t 2)] 0 (.int .i64 (if (rest).all (pkOk s) = true then held23 s else 1)) []) c23L1 (.blk 0 :: k') [(1, .ptr 0 0 0 0), (3, .int .i64 done.length)] [.cells 0 14 31 true [s.enc]] := by
  intro rest
  induction rest with
  | nil =>
    intro done hd
    refine Lp.of_eq hmx c23L1.eq_1 ?_
    have h1 := rg_end hd
    simp only [go_sem, seval, h1, List.length_map]
    exact hk _ (by rfl)
  | cons c rest ih =>
    intro done hd
    refine Lp.of_eq hmx c23L1.eq_1 ?_
    obtain ⟨h1, h2, h3, h4⟩ := rg_hd Packet.enc hd hL
    have ih' := ih _ h4
    rcases List.eq_nil_or_concat done with h0 | ⟨ds, p, h0⟩
    · obtain ⟨p1, hp⟩ := rg_first' h0
      repeat' first | (refine Lp.bkE [_] ih' (by rfl) (by rfl) (by rfl) (Nat.zero_le _) ?_) | (refine Rt_pure ?_ rfl; simp only [retO, retO1, retOs, S, get_cons, Nat.reduceEqDiff, reduceIte, obj, getO_cons_zero, getO_cons_succ, List.getElem?_cons_zero, List.getElem?_cons_succ, List.drop_zero, List.drop_succ_cons, loadFrom_cell, loadFrom_agg, List.length_cons, List.length_nil, Nat.reduceAdd, Nat.reduceLeDiff, List.take_succ_cons, List.take_zero, List.take_nil]) | (with_reducible intro h; try simp only [h]) | (with_reducible refine And.intro ?_ ?_) | (change chk _ _ = true; rfl) | simp only [go_sem, seval, Vc_bool, h1, h2, h3, Int.toNat_natCast, Int.natCast_nonneg, List.length_map, p1] | refine (GX_split rfl).2 ?_
      all_goals (clear hk ih ih' h1 h2 h3 h4 hd hL)
      all_goals clear p1 h0
      all_goals (simp only [List.all_cons, pkOk]; grind)
    · rw [List.concat_eq_append] at h0
      obtain ⟨p1, p2, p3, hp⟩ := rg_prev' Packet.enc hd h0 hL
      repeat' first | (refine Lp.bkE [_] ih' (by rfl) (by rfl) (by rfl) (Nat.zero_le _) ?_) | (refine Rt_pure ?_ rfl; simp only [retO, retO1, retOs, S, get_cons, Nat.reduceEqDiff, reduceIte, obj, getO_cons_zero, getO_cons_succ, List.getElem?_cons_zero, List.getElem?_cons_succ, List.drop_zero, List.drop_succ_cons, loadFrom_cell, loadFrom_agg, List.length_cons, List.length_nil, Nat.reduceAdd, Nat.reduceLeDiff, List.take_succ_cons, List.take_zero, List.take_nil]) | (with_reducible intro h; try simp only [h]) | (with_reducible refine And.intro ?_ ?_) | (change chk _ _ = true; rfl) | simp only [go_sem, seval, Vc_bool, h1, h2, h3, Int.toNat_natCast, Int.natCast_nonneg, List.length_map, p1, p2, p3] | refine (GX_split rfl).2 ?_
      all_goals (clear hk ih ih' h1 h2 h3 h4 hd hL)
      all_goals clear p1 p2 p3 h0
      all_goals (simp only [List.all_cons, pkOk]; grind)

theorem l23b (s : Station) (hA : ∀ x ∈ s.held, x.acked.length < 2 ^ 62) (hL : (s.held).length < 2 ^ 62) (k' : List It) (hk : ∀ zs, get zs 1 = .ptr 0 0 0 0 → V prog f23.ntmps 0 (Ret [(.t 2)] 0 (.int .i64 (seen23 s)) []) k' zs [.cells 0 14 31 true [s.enc]]) : ∀ (rest done : List Held), s.held = done ++ rest →
    Lp prog f23.ntmps 0 (Ret [(.t 2)] 0 (.int .i64 (if chain hOk (fun a b => decide (a.flow < b.flow)) done.getLast? rest = true then seen23 s else 1)) []) c23L2 (.blk 2 :: k') [(1, .ptr 0 0 0 0), (5, .int .i64 done.length)] [.cells 0 14 31 true [s.enc]] := by
  intro rest
  induction rest with
  | nil =>
    intro done hd
    refine Lp.of_eq hmx c23L2.eq_1 ?_
    have h1 := rg_end hd
    simp only [go_sem, seval, h1, List.length_map]
    exact hk _ (by rfl)
  | cons c rest ih =>
    intro done hd
    refine Lp.of_eq hmx c23L2.eq_1 ?_
    obtain ⟨h1, h2, h3, h4⟩ := rg_hd Held.enc hd hL
    have ih' := ih _ h4
    rw [List.getLast?_append, List.getLast?_singleton, Option.some_or] at ih'
    have hAc := hA c (by rw [hd]; simp)
    have hho := heldErr_ok c
    rcases List.eq_nil_or_concat done with h0 | ⟨ds, p, h0⟩
    · obtain ⟨p1, hp⟩ := rg_first' h0
      cases hw0 : (hOk c)
      all_goals
        repeat' first | (refine Lp.bkE0 ih' (by rfl) ?_) | (refine Rt_pure ?_ rfl; simp only [retO, retO1, retOs, S, get_cons, Nat.reduceEqDiff, reduceIte, obj, getO_cons_zero, getO_cons_succ, List.getElem?_cons_zero, List.getElem?_cons_succ, List.drop_zero, List.drop_succ_cons, loadFrom_cell, loadFrom_agg, List.length_cons, List.length_nil, Nat.reduceAdd, Nat.reduceLeDiff, List.take_succ_cons, List.take_zero, List.take_nil]) | refine CX_pure (c89_ok hAc) rfl rfl rfl rfl ?_ | refine GX_call (fun _ => (c89_ok hAc)) (by rfl) (by intro h; simp only [h]; rfl) (by rfl) (by rfl) ?_ | (with_reducible intro h; try simp only [h]) | (with_reducible refine And.intro ?_ ?_) | (change chk _ _ = true; rfl) | simp only [go_sem, seval, Vc_bool, h1, h2, h3, Int.toNat_natCast, Int.natCast_nonneg, List.length_map, hho, hw0, p1] | refine (GX_split rfl).2 ?_
        all_goals (clear hk ih ih' h1 h2 h3 h4 hd hL hA hAc hho)
        all_goals clear p1 h0
        all_goals (simp only [hp, chain, hw0]; grind)
    · rw [List.concat_eq_append] at h0
      obtain ⟨p1, p2, p3, hp⟩ := rg_prev' Held.enc hd h0 hL
      cases hw0 : (hOk c)
      all_goals
        repeat' first | (refine Lp.bkE0 ih' (by rfl) ?_) | (refine Rt_pure ?_ rfl; simp only [retO, retO1, retOs, S, get_cons, Nat.reduceEqDiff, reduceIte, obj, getO_cons_zero, getO_cons_succ, List.getElem?_cons_zero, List.getElem?_cons_succ, List.drop_zero, List.drop_succ_cons, loadFrom_cell, loadFrom_agg, List.length_cons, List.length_nil, Nat.reduceAdd, Nat.reduceLeDiff, List.take_succ_cons, List.take_zero, List.take_nil]) | refine CX_pure (c89_ok hAc) rfl rfl rfl rfl ?_ | refine GX_call (fun _ => (c89_ok hAc)) (by rfl) (by intro h; simp only [h]; rfl) (by rfl) (by rfl) ?_ | (with_reducible intro h; try simp only [h]) | (with_reducible refine And.intro ?_ ?_) | (change chk _ _ = true; rfl) | simp only [go_sem, seval, Vc_bool, h1, h2, h3, Int.toNat_natCast, Int.natCast_nonneg, List.length_map, hho, hw0, p1, p2, p3] | refine (GX_split rfl).2 ?_
        all_goals (clear hk ih ih' h1 h2 h3 h4 hd hL hA hAc hho)
        all_goals clear p1 p2 p3 h0
        all_goals (simp only [hp, chain, hw0]; grind)

theorem l23c (s : Station) (hL : (s.seen).length < 2 ^ 62) (k' : List It) (hk : ∀ zs, get zs 1 = .ptr 0 0 0 0 → V prog f23.ntmps 0 (Ret [(.t 2)] 0 (.int .i64 (fin23 s)) []) k' zs [.cells 0 14 31 true [s.enc]]) : ∀ (rest done : List Seen), s.seen = done ++ rest →
    Lp prog f23.ntmps 0 (Ret [(.t 2)] 0 (.int .i64 (if chain (fun x => wi x.node 31 && wi x.seq 255) (fun a b => decide (a.node < b.node)) done.getLast? rest = true then fin23 s else 1)) []) c23L3 (.blk 4 :: k') [(1, .ptr 0 0 0 0), (6, .int .i64 done.length)] [.cells 0 14 31 true [s.enc]] := by
  intro rest
  induction rest with
  | nil =>
    intro done hd
    refine Lp.of_eq hmx c23L3.eq_1 ?_
    have h1 := rg_end hd
    simp only [go_sem, seval, h1, List.length_map]
    exact hk _ (by rfl)
  | cons c rest ih =>
    intro done hd
    refine Lp.of_eq hmx c23L3.eq_1 ?_
    obtain ⟨h1, h2, h3, h4⟩ := rg_hd Seen.enc hd hL
    have ih' := ih _ h4
    rw [List.getLast?_append, List.getLast?_singleton, Option.some_or] at ih'
    rcases List.eq_nil_or_concat done with h0 | ⟨ds, p, h0⟩
    · obtain ⟨p1, hp⟩ := rg_first' h0
      cases hw0 : (wi c.node 31) <;> cases hw1 : (wi c.seq 255)
      all_goals
        repeat' first | (refine Lp.bkE0 ih' (by rfl) ?_) | (refine Rt_pure ?_ rfl; simp only [retO, retO1, retOs, S, get_cons, Nat.reduceEqDiff, reduceIte, obj, getO_cons_zero, getO_cons_succ, List.getElem?_cons_zero, List.getElem?_cons_succ, List.drop_zero, List.drop_succ_cons, loadFrom_cell, loadFrom_agg, List.length_cons, List.length_nil, Nat.reduceAdd, Nat.reduceLeDiff, List.take_succ_cons, List.take_zero, List.take_nil]) | refine CX_pure c90_ok rfl rfl rfl rfl ?_ | refine CX_pure c91_ok rfl rfl rfl rfl ?_ | refine GX_call (fun _ => c90_ok) (by rfl) (by intro h; simp only [h]; rfl) (by rfl) (by rfl) ?_ | refine GX_call (fun _ => c91_ok) (by rfl) (by intro h; simp only [h]; rfl) (by rfl) (by rfl) ?_ | (with_reducible intro h; try simp only [h]) | (with_reducible refine And.intro ?_ ?_) | (change chk _ _ = true; rfl) | simp only [go_sem, seval, Vc_bool, h1, h2, h3, Int.toNat_natCast, Int.natCast_nonneg, List.length_map, hw0, hw1, p1] | refine (GX_split rfl).2 ?_
        all_goals (clear hk ih ih' h1 h2 h3 h4 hd hL)
        all_goals clear p1 h0
        all_goals (simp only [hp, chain, hw0, hw1]; grind)
    · rw [List.concat_eq_append] at h0
      obtain ⟨p1, p2, p3, hp⟩ := rg_prev' Seen.enc hd h0 hL
      cases hw0 : (wi c.node 31) <;> cases hw1 : (wi c.seq 255)
      all_goals
        repeat' first | (refine Lp.bkE0 ih' (by rfl) ?_) | (refine Rt_pure ?_ rfl; simp only [retO, retO1, retOs, S, get_cons, Nat.reduceEqDiff, reduceIte, obj, getO_cons_zero, getO_cons_succ, List.getElem?_cons_zero, List.getElem?_cons_succ, List.drop_zero, List.drop_succ_cons, loadFrom_cell, loadFrom_agg, List.length_cons, List.length_nil, Nat.reduceAdd, Nat.reduceLeDiff, List.take_succ_cons, List.take_zero, List.take_nil]) | refine CX_pure c90_ok rfl rfl rfl rfl ?_ | refine CX_pure c91_ok rfl rfl rfl rfl ?_ | refine GX_call (fun _ => c90_ok) (by rfl) (by intro h; simp only [h]; rfl) (by rfl) (by rfl) ?_ | refine GX_call (fun _ => c91_ok) (by rfl) (by intro h; simp only [h]; rfl) (by rfl) (by rfl) ?_ | (with_reducible intro h; try simp only [h]) | (with_reducible refine And.intro ?_ ?_) | (change chk _ _ = true; rfl) | simp only [go_sem, seval, Vc_bool, h1, h2, h3, Int.toNat_natCast, Int.natCast_nonneg, List.length_map, hw0, hw1, p1, p2, p3] | refine (GX_split rfl).2 ?_
        all_goals (clear hk ih ih' h1 h2 h3 h4 hd hL)
        all_goals clear p1 p2 p3 h0
        all_goals (simp only [hp, chain, hw0, hw1]; grind)


end Go.Av.T
set_option maxRecDepth 100000
set_option maxHeartbeats 1000000
set_option linter.unusedSimpArgs false
set_option linter.unusedVariables false
namespace Go.Av.T
open Go Go.Av Go.Av.Sp Go.Proofs.Tryz
theorem qck_id : ∀ (l done : List Packet), qck done l = 0 → ∀ p ∈ l, 0 ≤ p.id
  | [], _, _, p, hp => by cases hp
  | x :: l, done, h, p, hp => by
    simp only [qck] at h
    have h1 : pkErr x = 0 := by
      by_cases h1 : pkErr x = 0
      · exact h1
      · rw [if_pos h1] at h; exact h
    have h2 : qck (done ++ [x]) l = 0 := by grind
    rcases List.mem_cons.1 hp with e | e
    · subst e
      grind [pkErr]
    · exact qck_id l _ h2 p e
theorem tryOk_eq (s : Station) (h : qErr s.q = 0) : tryOk s = tryOk' s := by
  have h1 : hasId s.q.pk s.trying = true → 0 ≤ s.trying := by
    intro h2
    simp only [hasId, List.any_eq_true, decide_eq_true_eq] at h2
    obtain ⟨p, hp, e⟩ := h2
    rw [← e]
    exact qck_id s.q.pk [] (by grind [qErr]) p hp
  simp only [tryOk, tryOk']
  cases h2 : hasId s.q.pk s.trying
  · simp
  · have := h1 h2
    simp [this]
theorem stErr_eq (s : Station) : stErr s = if (decide (tabErr s.tab = 0) && decide (qErr s.q = 0) && decide ((s.held.length : Int) ≤ 16)) = true then (if s.q.pk.all (pkOk s) = true then held23 s else 1) else 1 := by
  by_cases h : qErr s.q = 0
  · have e := tryOk_eq s h
    have e2 : (s.q.pk.all fun p => !decide (p.to = s.tab.node) && decide ((p.data.size : Int) ≤ 100)) = s.q.pk.all (pkOk s) := rfl
    simp only [stErr, stOk, pksOk, heldOk, held23, seen23, fin23, e, h, e2]
    grind
  · simp [stErr, stOk, pksOk, h]
theorem c23_ok {s : Station} (hB : StBd s) : ACalls prog 23 [.agg s.enc] [] (.int .i64 (stErr s)) [] := by
  obtain ⟨hB1, hB2, hB3, hB4, hB5⟩ := hB
  refine calls_of hmx func23 (by kernel_rfl) (c := f23.body.getD .skip) rfl e23 (rs := [(.t 2)]) (by kernel_rfl) (by simp [ntmps23]) ?_
  rw [stErr_eq]
  simp only [c23, argS]
  simp only [go_sem, seval]
  refine CX_pure (c83_ok (t_cells := s.tab.cells) hB1) rfl rfl rfl rfl ?_
  simp only [go_sem, seval]
  refine GX_call (fun _ => (c88_ok (q_pk := s.q.pk) hB2)) (by rfl) (by intro h; simp only [go_sem, seval, h] <;> rfl) (by rfl) (by rfl) ?_
  simp only [go_sem, seval, Vc_bool, List.length_map]
  refine ⟨fun h => ?_, fun h => ?_⟩
  · (refine Rt_pure ?_ rfl; simp only [retO, retO1, retOs, S, get_cons, Nat.reduceEqDiff, reduceIte, obj, getO_cons_zero, getO_cons_succ, List.getElem?_cons_zero, List.getElem?_cons_succ, List.drop_zero, List.drop_succ_cons, loadFrom_cell, loadFrom_agg, List.length_cons, List.length_nil, Nat.reduceAdd, Nat.reduceLeDiff, List.take_succ_cons, List.take_zero, List.take_nil])
    grind
  · refine Lp.bkE0 (l23a s hB2 _ (fun zs1 h1 => ?_) s.q.pk [] rfl) (by rfl) ?_
    · simp only [go_sem, seval, h1]
      refine Lp.gs (Gs_slots (s' := [(1, .ptr 0 0 0 0), (5, .int .i64 0)]) ?_) (Lp.bkE0 (l23b s hB4 hB3 _ (fun zs2 h2 => ?_) s.held [] rfl) (by rfl) ?_)
      · simp only [List.forall_mem_cons, go_sem, seval, h1]
        exact ⟨.refl _, .refl _, by simp⟩
      · simp only [go_sem, seval, h2]
        refine Lp.gs (Gs_slots (s' := [(1, .ptr 0 0 0 0), (6, .int .i64 0)]) ?_) (Lp.bkE0 (l23c s hB5 _ (fun zs3 hk3 => ?_) s.seen [] rfl) (by rfl) ?_)
        · simp only [List.forall_mem_cons, go_sem, seval, h2]
          exact ⟨.refl _, .refl _, by simp⟩
        · clear h h1 h2
          simp only [go_sem, seval, hk3]
          repeat' first | (refine Rt_pure ?_ rfl; simp only [retO, retO1, retOs, S, get_cons, Nat.reduceEqDiff, reduceIte, obj, getO_cons_zero, getO_cons_succ, List.getElem?_cons_zero, List.getElem?_cons_succ, List.drop_zero, List.drop_succ_cons, loadFrom_cell, loadFrom_agg, List.length_cons, List.length_nil, Nat.reduceAdd, Nat.reduceLeDiff, List.take_succ_cons, List.take_zero, List.take_nil]) | refine CX_pure c91_ok rfl rfl rfl rfl ?_ | refine CX_pure (c92_ok (by grind) (by grind)) rfl rfl rfl rfl ?_ | refine CX_pure (c93_ok hB2) rfl rfl rfl rfl ?_ | refine GX_call (fun _ => c91_ok) (by rfl) (by intro h; simp only [h]; rfl) (by rfl) (by rfl) ?_ | refine GX_call (fun _ => (c92_ok (by grind) (by grind))) (by rfl) (by intro h; simp only [h]; rfl) (by rfl) (by rfl) ?_ | refine GX_call (fun _ => (c93_ok hB2)) (by rfl) (by intro h; simp only [h]; rfl) (by rfl) (by rfl) ?_ | (with_reducible intro h; try simp only [h]) | (with_reducible refine And.intro ?_ ?_) | (change chk _ _ = true; rfl) | simp only [go_sem, seval, Vc_bool, hk3] | refine (GX_split rfl).2 ?_
          all_goals clear hB1 hB2 hB3 hB4 hB5 hk3
          all_goals (have hh : decide (0 ≤ pkIdx s.q.pk s.trying) = hasId s.q.pk s.trying := idxFrom_any _ _ _; simp only [fin23, tryOk', wi] at *; grind)
        · rfl
      · rfl
    · grind

end Go.Av.T
