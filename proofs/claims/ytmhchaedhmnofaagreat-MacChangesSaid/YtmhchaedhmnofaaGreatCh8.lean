/- The seat: part Ch8. -/
import Derived.Test.YtmhchaedhmnofaaGreatCh7
import Derived.KernelRfl
import Derived.Test.YtmhchaedhmnofaaGreatCh6
import Derived.Test.YtmhchaedhmnofaaGreatCh5
set_option maxRecDepth 100000
set_option maxHeartbeats 1000000
set_option linter.unusedSimpArgs false
set_option linter.unusedVariables false
namespace Go.Av.T
open Go Go.Av Go.Av.Sp Go.Proofs.Tryz
def c23L1 : SC := (.seq (.seq (.reg [(.mv 23 (.t 3)), (.fa 24 (.t 1) 3), (.fa 25 (.t 24) 1), (.ld 26 (.t 25) false 1), (.len 27 false (.t 26)), (.bin 28 .lss (.t 23) (.t 27))]) (.cond (.t 28) .skip (.exit 0))) (.seq (.block 1 (.seq (.reg [(.fa 31 (.t 1) 3), (.fa 32 (.t 31) 1), (.ld 33 (.t 32) false 1), (.mv 34 (.t 3)), (.ia 35 (.t 33) (.t 34) 6), (.ld 36 (.t 35) true 6), (.alc 4 104 [(.int .i64 0), (.int .i64 0), (.int .i64 0), (.int .i64 0), (.int .i64 0), (.str (ByteArray.mk #[]))]), (.st (.t 4) (.t 36) 6)]) (.seq (.reg [(.fa 37 (.t 4) 1), (.ld 38 (.t 37) false 1), (.fa 39 (.t 1) 0), (.fa 40 (.t 39) 0), (.ld 41 (.t 40) false 1), (.bin 42 .eql (.t 38) (.t 41)), (.mv 43 (.t 42)), (.g 43 false (some 44) (.fa 44 (.t 4) 5)), (.g 43 false (some 45) (.ld 45 (.t 44) false 1)), (.g 43 false (some 46) (.len 46 true (.t 45))), (.g 43 false (some 47) (.bin 47 .gtr (.t 46) (.c (.int .i64 100)))), (.pick 48 (.t 43) (.c (.bool true)) (.t 47))]) (.cond (.t 48) (.seq (.reg [(.mv 2 (.c (.int .i64 1)))]) .ret) .skip)))) (.reg [(.mv 29 (.t 3)), (.bin 30 .add (.t 29) (.c (.int .i64 1))), (.mv 3 (.t 30))])))
def c23L2 : SC := (.seq (.seq (.reg [(.mv 49 (.t 5)), (.fa 50 (.t 1) 5), (.ld 51 (.t 50) false 1), (.len 52 false (.t 51)), (.bin 53 .lss (.t 49) (.t 52))]) (.cond (.t 53) .skip (.exit 2))) (.seq (.block 3 (.seq (.regD [(.fa 56 (.t 1) 5), (.ld 57 (.t 56) false 1), (.mv 58 (.t 5)), (.ia 59 (.t 57) (.t 58) 5), (.ld 60 (.t 59) true 5), (.call (some 61) (.c (.func 89 [] [])) [(.t 60)]), (.bin 62 .neq (.t 61) (.c (.int .i64 0))), (.mv 63 (.t 62)), (.g 63 false (some 64) (.mv 64 (.t 5))), (.g 63 false (some 65) (.bin 65 .gtr (.t 64) (.c (.int .i64 0)))), (.g 63 false (some 66) (.mv 66 (.t 65))), (.g 66 true (some 67) (.fa 67 (.t 1) 5)), (.g 66 true (some 68) (.ld 68 (.t 67) false 1)), (.g 66 true (some 69) (.mv 69 (.t 5))), (.g 66 true (some 70) (.bin 70 .sub (.t 69) (.c (.int .i64 1)))), (.g 66 true (some 71) (.ia 71 (.t 68) (.t 70) 5)), (.g 66 true (some 72) (.fa 72 (.t 71) 0)), (.g 66 true (some 73) (.ld 73 (.t 72) false 1)), (.g 66 true (some 74) (.fa 74 (.t 1) 5)), (.g 66 true (some 75) (.ld 75 (.t 74) false 1)), (.g 66 true (some 76) (.mv 76 (.t 5))), (.g 66 true (some 77) (.ia 77 (.t 75) (.t 76) 5)), (.g 66 true (some 78) (.fa 78 (.t 77) 0)), (.g 66 true (some 79) (.ld 79 (.t 78) false 1)), (.g 66 true (some 80) (.bin 80 .geq (.t 73) (.t 79))), (.g 63 false (some 81) (.pick 81 (.t 66) (.t 80) (.c (.bool false)))), (.pick 82 (.t 63) (.c (.bool true)) (.t 81))] []) (.cond (.t 82) (.seq (.reg [(.mv 2 (.c (.int .i64 1)))]) .ret) .skip))) (.reg [(.mv 54 (.t 5)), (.bin 55 .add (.t 54) (.c (.int .i64 1))), (.mv 5 (.t 55))])))
def c23L3 : SC := (.seq (.seq (.reg [(.mv 83 (.t 6)), (.fa 84 (.t 1) 6), (.ld 85 (.t 84) false 1), (.len 86 false (.t 85)), (.bin 87 .lss (.t 83) (.t 86))]) (.cond (.t 87) .skip (.exit 4))) (.seq (.block 5 (.seq (.regD [(.fa 90 (.t 1) 6), (.ld 91 (.t 90) false 1), (.mv 92 (.t 6)), (.ia 93 (.t 91) (.t 92) 2), (.fa 94 (.t 93) 0), (.ld 95 (.t 94) false 1), (.call (some 96) (.c (.func 90 [] [])) [(.t 95)]), (.not 97 (.t 96)), (.mv 98 (.t 97)), (.g 98 false (some 99) (.fa 99 (.t 1) 6)), (.g 98 false (some 100) (.ld 100 (.t 99) false 1)), (.g 98 false (some 101) (.mv 101 (.t 6))), (.g 98 false (some 102) (.ia 102 (.t 100) (.t 101) 2)), (.g 98 false (some 103) (.fa 103 (.t 102) 1)), (.g 98 false (some 104) (.ld 104 (.t 103) false 1)), (.g 98 false (some 105) (.call (some 105) (.c (.func 91 [] [])) [(.t 104)])), (.g 98 false (some 106) (.not 106 (.t 105))), (.pick 107 (.t 98) (.c (.bool true)) (.t 106)), (.mv 108 (.t 107)), (.g 108 false (some 109) (.mv 109 (.t 6))), (.g 108 false (some 110) (.bin 110 .gtr (.t 109) (.c (.int .i64 0)))), (.g 108 false (some 111) (.mv 111 (.t 110))), (.g 111 true (some 112) (.fa 112 (.t 1) 6)), (.g 111 true (some 113) (.ld 113 (.t 112) false 1)), (.g 111 true (some 114) (.mv 114 (.t 6))), (.g 111 true (some 115) (.bin 115 .sub (.t 114) (.c (.int .i64 1)))), (.g 111 true (some 116) (.ia 116 (.t 113) (.t 115) 2)), (.g 111 true (some 117) (.fa 117 (.t 116) 0)), (.g 111 true (some 118) (.ld 118 (.t 117) false 1)), (.g 111 true (some 119) (.fa 119 (.t 1) 6)), (.g 111 true (some 120) (.ld 120 (.t 119) false 1)), (.g 111 true (some 121) (.mv 121 (.t 6))), (.g 111 true (some 122) (.ia 122 (.t 120) (.t 121) 2)), (.g 111 true (some 123) (.fa 123 (.t 122) 0)), (.g 111 true (some 124) (.ld 124 (.t 123) false 1)), (.g 111 true (some 125) (.bin 125 .geq (.t 118) (.t 124))), (.g 108 false (some 126) (.pick 126 (.t 111) (.t 125) (.c (.bool false)))), (.pick 127 (.t 108) (.c (.bool true)) (.t 126))] []) (.cond (.t 127) (.seq (.reg [(.mv 2 (.c (.int .i64 1)))]) .ret) .skip))) (.reg [(.mv 88 (.t 6)), (.bin 89 .add (.t 88) (.c (.int .i64 1))), (.mv 6 (.t 89))])))
def c23 : SC := (.seq (.reg [(.box 1 31 (.t 0)), (.mv 2 (.c (.int .i64 0)))]) (.seq (.seq (.reg [(.fa 7 (.t 1) 0), (.ld 8 (.t 7) true 3), (.call (some 9) (.c (.func 83 [] [])) [(.t 8)]), (.bin 10 .neq (.t 9) (.c (.int .i64 0))), (.mv 11 (.t 10)), (.g 11 false (some 12) (.fa 12 (.t 1) 3)), (.g 11 false (some 13) (.ld 13 (.t 12) true 2)), (.g 11 false (some 14) (.call (some 14) (.c (.func 88 [] [])) [(.t 13)])), (.g 11 false (some 15) (.bin 15 .neq (.t 14) (.c (.int .i64 0)))), (.pick 16 (.t 11) (.c (.bool true)) (.t 15)), (.mv 17 (.t 16)), (.g 17 false (some 18) (.fa 18 (.t 1) 5)), (.g 17 false (some 19) (.ld 19 (.t 18) false 1)), (.g 17 false (some 20) (.len 20 false (.t 19))), (.g 17 false (some 21) (.bin 21 .gtr (.t 20) (.c (.int .i64 16)))), (.pick 22 (.t 17) (.c (.bool true)) (.t 21))]) (.cond (.t 22) (.seq (.reg [(.mv 2 (.c (.int .i64 1)))]) .ret) .skip)) (.seq (.seq (.reg [(.mv 3 (.c (.int .i64 0)))]) (.block 0 (.loop c23L1))) (.seq (.seq (.reg [(.mv 5 (.c (.int .i64 0)))]) (.block 2 (.loop c23L2))) (.seq (.seq (.reg [(.mv 6 (.c (.int .i64 0)))]) (.block 4 (.loop c23L3))) (.seq (.seq (.regD [(.fa 128 (.t 1) 7), (.ld 129 (.t 128) false 1), (.call (some 130) (.c (.func 91 [] [])) [(.t 129)]), (.not 131 (.t 130)), (.mv 132 (.t 131)), (.g 132 false (some 133) (.fa 133 (.t 1) 8)), (.g 132 false (some 134) (.ld 134 (.t 133) false 1)), (.g 132 false (some 135) (.call (some 135) (.c (.func 91 [] [])) [(.t 134)])), (.g 132 false (some 136) (.not 136 (.t 135))), (.pick 137 (.t 132) (.c (.bool true)) (.t 136)), (.mv 138 (.t 137)), (.g 138 false (some 139) (.fa 139 (.t 1) 11)), (.g 138 false (some 140) (.ld 140 (.t 139) false 1)), (.g 138 false (some 141) (.bin 141 .lss (.t 140) (.c (.int .i64 0)))), (.pick 142 (.t 138) (.c (.bool true)) (.t 141)), (.mv 143 (.t 142)), (.g 143 false (some 144) (.fa 144 (.t 1) 11)), (.g 143 false (some 145) (.ld 145 (.t 144) false 1)), (.g 143 false (some 146) (.bin 146 .gtr (.t 145) (.c (.int .i64 5)))), (.pick 147 (.t 143) (.c (.bool true)) (.t 146)), (.mv 148 (.t 147)), (.g 148 false (some 149) (.fa 149 (.t 1) 12)), (.g 148 false (some 150) (.ld 150 (.t 149) false 1)), (.g 148 false (some 151) (.bin 151 .lss (.t 150) (.c (.int .i64 0)))), (.pick 152 (.t 148) (.c (.bool true)) (.t 151)), (.mv 153 (.t 152)), (.g 153 false (some 154) (.fa 154 (.t 1) 12)), (.g 153 false (some 155) (.ld 155 (.t 154) false 1)), (.g 153 false (some 156) (.fa 156 (.t 1) 11)), (.g 153 false (some 157) (.ld 157 (.t 156) false 1)), (.g 153 false (some 158) (.call (some 158) (.c (.func 92 [] [])) [(.t 157)])), (.g 153 false (some 159) (.bin 159 .geq (.t 155) (.t 158))), (.pick 160 (.t 153) (.c (.bool true)) (.t 159)), (.mv 161 (.t 160)), (.g 161 false (some 162) (.fa 162 (.t 1) 13)), (.g 161 false (some 163) (.ld 163 (.t 162) false 1)), (.g 161 false (some 164) (.bin 164 .lss (.t 163) (.c (.int .i64 0)))), (.pick 165 (.t 161) (.c (.bool true)) (.t 164)), (.mv 166 (.t 165)), (.g 166 false (some 167) (.fa 167 (.t 1) 13)), (.g 166 false (some 168) (.ld 168 (.t 167) false 1)), (.g 166 false (some 169) (.bin 169 .geq (.t 168) (.c (.int .i64 2147483648)))), (.pick 170 (.t 166) (.c (.bool true)) (.t 169))] [(27, 30)]) (.cond (.t 170) (.seq (.reg [(.mv 2 (.c (.int .i64 1)))]) .ret) .skip)) (.seq (.seq (.reg [(.fa 171 (.t 1) 9), (.ld 172 (.t 171) false 1), (.bin 173 .eql (.t 172) (.c (.int .i64 (-1)))), (.mv 174 (.t 173)), (.g 174 true (some 175) (.fa 175 (.t 1) 10)), (.g 174 true (some 176) (.ld 176 (.t 175) false 1)), (.g 174 true (some 177) (.bin 177 .eql (.t 176) (.c (.int .i64 0)))), (.pick 178 (.t 174) (.t 177) (.c (.bool false)))]) (.cond (.t 178) (.seq (.reg [(.mv 2 (.c (.int .i64 0)))]) .ret) .skip)) (.seq (.seq (.reg [(.fa 179 (.t 1) 3), (.fa 180 (.t 179) 1), (.ld 181 (.t 180) false 1), (.fa 182 (.t 1) 9), (.ld 183 (.t 182) false 1), (.call (some 184) (.c (.func 93 [] [])) [(.t 181), (.t 183)]), (.bin 185 .lss (.t 184) (.c (.int .i64 0))), (.mv 186 (.t 185)), (.g 186 false (some 187) (.fa 187 (.t 1) 10)), (.g 186 false (some 188) (.ld 188 (.t 187) false 1)), (.g 186 false (some 189) (.bin 189 .lss (.t 188) (.c (.int .i64 1)))), (.pick 190 (.t 186) (.c (.bool true)) (.t 189)), (.mv 191 (.t 190)), (.g 191 false (some 192) (.fa 192 (.t 1) 10)), (.g 191 false (some 193) (.ld 193 (.t 192) false 1)), (.g 191 false (some 194) (.bin 194 .geq (.t 193) (.c (.int .i64 4)))), (.pick 195 (.t 191) (.c (.bool true)) (.t 194))]) (.cond (.t 195) (.seq (.reg [(.mv 2 (.c (.int .i64 1)))]) .ret) .skip)) (.seq (.reg [(.mv 2 (.c (.int .i64 0)))]) .ret)))))))))
theorem e23 : compC prog f23.ntmps (f23.body.getD .skip) = c23 := by kernel_rfl
def tryOk' (s : Station) : Bool := decide (s.trying = -1) && decide (s.tries = 0) || hasId s.q.pk s.trying && decide (1 ≤ s.tries) && decide (s.tries < 4)
def fin23 (s : Station) : Int := if (wi s.list 255 && wi s.seq 255 && wi s.back 5 && wi s.wait (2 ^ s.back.toNat - 1) && wi s.seed 2147483647 && tryOk' s) = true then 0 else 1
def seen23 (s : Station) : Int := if seenOk s.seen = true then fin23 s else 1
def held23 (s : Station) : Int := if chain hOk (fun a b => decide (a.flow < b.flow)) none s.held = true then seen23 s else 1
def pkOk (s : Station) (p : Packet) : Bool := !decide (p.to = s.tab.node) && decide ((p.data.size : Int) ≤ 100)
theorem heldErr_ok (h : Held) : decide (heldErr h = 0) = hOk h := by simp only [heldErr, hOk]; grind
theorem l23a (s : Station) (hL : (s.q.pk).length < 2 ^ 62) (k' : List It) (hk : ∀ zs, get zs 1 = .ptr 0 0 0 0 → V prog f23.ntmps 0 (Ret [(.t 2)] 0 (.int .i64 (held23 s)) []) k' zs [.cells 0 14 31 true [s.enc]]) : ∀ (rest done : List Packet), s.q.pk = done ++ rest →
    Lp prog f23.ntmps 0 (Ret [(.t 2)] 0 (.int .i64 (if (rest).all (pkOk s) = true then held23 s else 1)) []) c23L1 (.blk 0 :: k') [(1, .ptr 0 0 0 0), (3, .int .i64 done.length)] [.cells 0 14 31 true [s.enc]] := by
  intro rest
  induction rest with
  | nil =>
    intro done hd
    refine Lp.of_eq hmx c23L1.eq_1 ?_
    have h1 := rg_end hd
    simp only [go_sem, seval, h1, List.length_map]
    exact hk _ (by rfl)
  | cons c rest ih =>
    intro done hd
    refine Lp.of_eq hmx c23L1.eq_1 ?_
    obtain ⟨h1, h2, h3, h4⟩ := rg_hd Packet.enc hd hL
    have ih' := ih _ h4
    rcases List.eq_nil_or_concat done with h0 | ⟨ds, p, h0⟩
    · obtain ⟨p1, hp⟩ := rg_first' h0
      repeat' first | (refine Lp.bkE [_] ih' (by rfl) (by rfl) (by rfl) (Nat.zero_le _) ?_) | (refine Rt_pure ?_ rfl; simp only [retO, retO1, retOs, S, get_cons, Nat.reduceEqDiff, reduceIte, obj, getO_cons_zero, getO_cons_succ, List.getElem?_cons_zero, List.getElem?_cons_succ, List.drop_zero, List.drop_succ_cons, loadFrom_cell, loadFrom_agg, List.length_cons, List.length_nil, Nat.reduceAdd, Nat.reduceLeDiff, List.take_succ_cons, List.take_zero, List.take_nil]) | (with_reducible intro h; try simp only [h]) | (with_reducible refine And.intro ?_ ?_) | (change chk _ _ = true; rfl) | simp only [go_sem, seval, Vc_bool, h1, h2, h3, Int.toNat_natCast, Int.natCast_nonneg, List.length_map, p1] | refine (GX_split rfl).2 ?_
      all_goals (clear hk ih ih' h1 h2 h3 h4 hd hL)
      all_goals clear p1 h0
      all_goals (simp only [List.all_cons, pkOk]; grind)
    · rw [List.concat_eq_append] at h0
      obtain ⟨p1, p2, p3, hp⟩ := rg_prev' Packet.enc hd h0 hL
      repeat' first | (refine Lp.bkE [_] ih' (by rfl) (by rfl) (by rfl) (Nat.zero_le _) ?_) | (refine Rt_pure ?_ rfl; simp only [retO, retO1, retOs, S, get_cons, Nat.reduceEqDiff, reduceIte, obj, getO_cons_zero, getO_cons_succ, List.getElem?_cons_zero, List.getElem?_cons_succ, List.drop_zero, List.drop_succ_cons, loadFrom_cell, loadFrom_agg, List.length_cons, List.length_nil, Nat.reduceAdd, Nat.reduceLeDiff, List.take_succ_cons, List.take_zero, List.take_nil]) | (with_reducible intro h; try simp only [h]) | (with_reducible refine And.intro ?_ ?_) | (change chk _ _ = true; rfl) | simp only [go_sem, seval, Vc_bool, h1, h2, h3, Int.toNat_natCast, Int.natCast_nonneg, List.length_map, p1, p2, p3] | refine (GX_split rfl).2 ?_
      all_goals (clear hk ih ih' h1 h2 h3 h4 hd hL)
      all_goals clear p1 p2 p3 h0
      all_goals (simp only [List.all_cons, pkOk]; grind)

theorem l23b (s : Station) (hA : ∀ x ∈ s.held, x.acked.length < 2 ^ 62) (hL : (s.held).length < 2 ^ 62) (k' : List It) (hk : ∀ zs, get zs 1 = .ptr 0 0 0 0 → V prog f23.ntmps 0 (Ret [(.t 2)] 0 (.int .i64 (seen23 s)) []) k' zs [.cells 0 14 31 true [s.enc]]) : ∀ (rest done : List Held), s.held = done ++ rest →
    Lp prog f23.ntmps 0 (Ret [(.t 2)] 0 (.int .i64 (if chain hOk (fun a b => decide (a.flow < b.flow)) done.getLast? rest = true then seen23 s else 1)) []) c23L2 (.blk 2 :: k') [(1, .ptr 0 0 0 0), (5, .int .i64 done.length)] [.cells 0 14 31 true [s.enc]] := by
  intro rest
  induction rest with
  | nil =>
    intro done hd
    refine Lp.of_eq hmx c23L2.eq_1 ?_
    have h1 := rg_end hd
    simp only [go_sem, seval, h1, List.length_map]
    exact hk _ (by rfl)
  | cons c rest ih =>
    intro done hd
    refine Lp.of_eq hmx c23L2.eq_1 ?_
    obtain ⟨h1, h2, h3, h4⟩ := rg_hd Held.enc hd hL
    have ih' := ih _ h4
    rw [List.getLast?_append, List.getLast?_singleton, Option.some_or] at ih'
    have hAc := hA c (by rw [hd]; simp)
    have hho := heldErr_ok c
    rcases List.eq_nil_or_concat done with h0 | ⟨ds, p, h0⟩
    · obtain ⟨p1, hp⟩ := rg_first' h0
      cases hw0 : (hOk c)
      all_goals
        repeat' first | (refine Lp.bkE0 ih' (by rfl) ?_) | (refine Rt_pure ?_ rfl; simp only [retO, retO1, retOs, S, get_cons, Nat.reduceEqDiff, reduceIte, obj, getO_cons_zero, getO_cons_succ, List.getElem?_cons_zero, List.getElem?_cons_succ, List.drop_zero, List.drop_succ_cons, loadFrom_cell, loadFrom_agg, List.length_cons, List.length_nil, Nat.reduceAdd, Nat.reduceLeDiff, List.take_succ_cons, List.take_zero, List.take_nil]) | refine CX_pure (c89_ok hAc) rfl rfl rfl rfl ?_ | refine GX_call (fun _ => (c89_ok hAc)) (by rfl) (by intro h; simp only [h]; rfl) (by rfl) (by rfl) ?_ | (with_reducible intro h; try simp only [h]) | (with_reducible refine And.intro ?_ ?_) | (change chk _ _ = true; rfl) | simp only [go_sem, seval, Vc_bool, h1, h2, h3, Int.toNat_natCast, Int.natCast_nonneg, List.length_map, hho, hw0, p1] | refine (GX_split rfl).2 ?_
        all_goals (clear hk ih ih' h1 h2 h3 h4 hd hL hA hAc hho)
        all_goals clear p1 h0
        all_goals (simp only [hp, chain, hw0]; grind)
    · rw [List.concat_eq_append] at h0
      obtain ⟨p1, p2, p3, hp⟩ := rg_prev' Held.enc hd h0 hL
      cases hw0 : (hOk c)
      all_goals
        repeat' first | (refine Lp.bkE0 ih' (by rfl) ?_) | (refine Rt_pure ?_ rfl; simp only [retO, retO1, retOs, S, get_cons, Nat.reduceEqDiff, reduceIte, obj, getO_cons_zero, getO_cons_succ, List.getElem?_cons_zero, List.getElem?_cons_succ, List.drop_zero, List.drop_succ_cons, loadFrom_cell, loadFrom_agg, List.length_cons, List.length_nil, Nat.reduceAdd, Nat.reduceLeDiff, List.take_succ_cons, List.take_zero, List.take_nil]) | refine CX_pure (c89_ok hAc) rfl rfl rfl rfl ?_ | refine GX_call (fun _ => (c89_ok hAc)) (by rfl) (by intro h; simp only [h]; rfl) (by rfl) (by rfl) ?_ | (with_reducible intro h; try simp only [h]) | (with_reducible refine And.intro ?_ ?_) | (change chk _ _ = true; rfl) | simp only [go_sem, seval, Vc_bool, h1, h2, h3, Int.toNat_natCast, Int.natCast_nonneg, List.length_map, hho, hw0, p1, p2, p3] | refine (GX_split rfl).2 ?_
        all_goals (clear hk ih ih' h1 h2 h3 h4 hd hL hA hAc hho)
        all_goals clear p1 p2 p3 h0
        all_goals (simp only [hp, chain, hw0]; grind)

theorem l23c (s : Station) (hL : (s.seen).length < 2 ^ 62) (k' : List It) (hk : ∀ zs, get zs 1 = .ptr 0 0 0 0 → V prog f23.ntmps 0 (Ret [(.t 2)] 0 (.int .i64 (fin23 s)) []) k' zs [.cells 0 14 31 true [s.enc]]) : ∀ (rest done : List Seen), s.seen = done ++ rest →
    Lp prog f23.ntmps 0 (Ret [(.t 2)] 0 (.int .i64 (if chain (fun x => wi x.node 31 && wi x.seq 255) (fun a b => decide (a.node < b.node)) done.getLast? rest = true then fin23 s else 1)) []) c23L3 (.blk 4 :: k') [(1, .ptr 0 0 0 0), (6, .int .i64 done.length)] [.cells 0 14 31 true [s.enc]] := by
  intro rest
  induction rest with
  | nil =>
    intro done hd
    refine Lp.of_eq hmx c23L3.eq_1 ?_
    have h1 := rg_end hd
    simp only [go_sem, seval, h1, List.length_map]
    exact hk _ (by rfl)
  | cons c rest ih =>
    intro done hd
    refine Lp.of_eq hmx c23L3.eq_1 ?_
    obtain ⟨h1, h2, h3, h4⟩ := rg_hd Seen.enc hd hL
    have ih' := ih _ h4
    rw [List.getLast?_append, List.getLast?_singleton, Option.some_or] at ih'
    rcases List.eq_nil_or_concat done with h0 | ⟨ds, p, h0⟩
    · obtain ⟨p1, hp⟩ := rg_first' h0
      cases hw0 : (wi c.node 31) <;> cases hw1 : (wi c.seq 255)
      all_goals
        repeat' first | (refine Lp.bkE0 ih' (by rfl) ?_) | (refine Rt_pure ?_ rfl; simp only [retO, retO1, retOs, S, get_cons, Nat.reduceEqDiff, reduceIte, obj, getO_cons_zero, getO_cons_succ, List.getElem?_cons_zero, List.getElem?_cons_succ, List.drop_zero, List.drop_succ_cons, loadFrom_cell, loadFrom_agg, List.length_cons, List.length_nil, Nat.reduceAdd, Nat.reduceLeDiff, List.take_succ_cons, List.take_zero, List.take_nil]) | refine CX_pure c90_ok rfl rfl rfl rfl ?_ | refine CX_pure c91_ok rfl rfl rfl rfl ?_ | refine GX_call (fun _ => c90_ok) (by rfl) (by intro h; simp only [h]; rfl) (by rfl) (by rfl) ?_ | refine GX_call (fun _ => c91_ok) (by rfl) (by intro h; simp only [h]; rfl) (by rfl) (by rfl) ?_ | (with_reducible intro h; try simp only [h]) | (with_reducible refine And.intro ?_ ?_) | (change chk _ _ = true; rfl) | simp only [go_sem, seval, Vc_bool, h1, h2, h3, Int.toNat_natCast, Int.natCast_nonneg, List.length_map, hw0, hw1, p1] | refine (GX_split rfl).2 ?_
        all_goals (clear hk ih ih' h1 h2 h3 h4 hd hL)
        all_goals clear p1 h0
        all_goals (simp only [hp, chain, hw0, hw1]; grind)
    · rw [List.concat_eq_append] at h0
      obtain ⟨p1, p2, p3, hp⟩ := rg_prev' Seen.enc hd h0 hL
      cases hw0 : (wi c.node 31) <;> cases hw1 : (wi c.seq 255)
      all_goals
        repeat' first | (refine Lp.bkE0 ih' (by rfl) ?_) | (refine Rt_pure ?_ rfl; simp only [retO, retO1, retOs, S, get_cons, Nat.reduceEqDiff, reduceIte, obj, getO_cons_zero, getO_cons_succ, List.getElem?_cons_zero, List.getElem?_cons_succ, List.drop_zero, List.drop_succ_cons, loadFrom_cell, loadFrom_agg, List.length_cons, List.length_nil, Nat.reduceAdd, Nat.reduceLeDiff, List.take_succ_cons, List.take_zero, List.take_nil]) | refine CX_pure c90_ok rfl rfl rfl rfl ?_ | refine CX_pure c91_ok rfl rfl rfl rfl ?_ | refine GX_call (fun _ => c90_ok) (by rfl) (by intro h; simp only [h]; rfl) (by rfl) (by rfl) ?_ | refine GX_call (fun _ => c91_ok) (by rfl) (by intro h; simp only [h]; rfl) (by rfl) (by rfl) ?_ | (with_reducible intro h; try simp only [h]) | (with_reducible refine And.intro ?_ ?_) | (change chk _ _ = true; rfl) | simp only [go_sem, seval, Vc_bool, h1, h2, h3, Int.toNat_natCast, Int.natCast_nonneg, List.length_map, hw0, hw1, p1, p2, p3] | refine (GX_split rfl).2 ?_
        all_goals (clear hk ih ih' h1 h2 h3 h4 hd hL)
        all_goals clear p1 p2 p3 h0
        all_goals (simp only [hp, chain, hw0, hw1]; grind)


theorem qck_id : ∀ (l done : List Packet), qck done l = 0 → ∀ p ∈ l, 0 ≤ p.id
  | [], _, _, p, hp => by cases hp
  | x :: l, done, h, p, hp => by
    simp only [qck] at h
    have h1 : pkErr x = 0 := by
      by_cases h1 : pkErr x = 0
      · exact h1
      · rw [if_pos h1] at h; exact h
    have h2 : qck (done ++ [x]) l = 0 := by grind
    rcases List.mem_cons.1 hp with e | e
    · subst e
      grind [pkErr]
    · exact qck_id l _ h2 p e
theorem tryOk_eq (s : Station) (h : qErr s.q = 0) : tryOk s = tryOk' s := by
  have h1 : hasId s.q.pk s.trying = true → 0 ≤ s.trying := by
    intro h2
    simp only [hasId, List.any_eq_true, decide_eq_true_eq] at h2
    obtain ⟨p, hp, e⟩ := h2
    rw [← e]
    exact qck_id s.q.pk [] (by grind [qErr]) p hp
  simp only [tryOk, tryOk']
  cases h2 : hasId s.q.pk s.trying
  · simp
  · have := h1 h2
    simp [this]
theorem stErr_eq (s : Station) : stErr s = if (decide (tabErr s.tab = 0) && decide (qErr s.q = 0) && decide ((s.held.length : Int) ≤ 16)) = true then (if s.q.pk.all (pkOk s) = true then held23 s else 1) else 1 := by
  by_cases h : qErr s.q = 0
  · have e := tryOk_eq s h
    have e2 : (s.q.pk.all fun p => !decide (p.to = s.tab.node) && decide ((p.data.size : Int) ≤ 100)) = s.q.pk.all (pkOk s) := rfl
    simp only [stErr, stOk, pksOk, heldOk, held23, seen23, fin23, e, h, e2]
    grind
  · simp [stErr, stOk, pksOk, h]
theorem c23_ok {s : Station} (hB : StBd s) : ACalls prog 23 [.agg s.enc] [] (.int .i64 (stErr s)) [] := by
  obtain ⟨hB1, hB2, hB3, hB4, hB5⟩ := hB
  refine calls_of hmx func23 (by kernel_rfl) (c := f23.body.getD .skip) rfl e23 (rs := [(.t 2)]) (by kernel_rfl) (by simp [ntmps23]) ?_
  rw [stErr_eq]
  simp only [c23, argS]
  simp only [go_sem, seval]
  refine CX_pure (c83_ok (t_cells := s.tab.cells) hB1) rfl rfl rfl rfl ?_
  simp only [go_sem, seval]
  refine GX_call (fun _ => (c88_ok (q_pk := s.q.pk) hB2)) (by rfl) (by intro h; simp only [go_sem, seval, h] <;> rfl) (by rfl) (by rfl) ?_
  simp only [go_sem, seval, Vc_bool, List.length_map]
  refine ⟨fun h => ?_, fun h => ?_⟩
  · (refine Rt_pure ?_ rfl; simp only [retO, retO1, retOs, S, get_cons, Nat.reduceEqDiff, reduceIte, obj, getO_cons_zero, getO_cons_succ, List.getElem?_cons_zero, List.getElem?_cons_succ, List.drop_zero, List.drop_succ_cons, loadFrom_cell, loadFrom_agg, List.length_cons, List.length_nil, Nat.reduceAdd, Nat.reduceLeDiff, List.take_succ_cons, List.take_zero, List.take_nil])
    grind
  · refine Lp.bkE0 (l23a s hB2 _ (fun zs1 h1 => ?_) s.q.pk [] rfl) (by rfl) ?_
    · simp only [go_sem, seval, h1]
      refine Lp.gs (Gs_slots (s' := [(1, .ptr 0 0 0 0), (5, .int .i64 0)]) ?_) (Lp.bkE0 (l23b s hB4 hB3 _ (fun zs2 h2 => ?_) s.held [] rfl) (by rfl) ?_)
      · simp only [List.forall_mem_cons, go_sem, seval, h1]
        exact ⟨.refl _, .refl _, by simp⟩
      · simp only [go_sem, seval, h2]
        refine Lp.gs (Gs_slots (s' := [(1, .ptr 0 0 0 0), (6, .int .i64 0)]) ?_) (Lp.bkE0 (l23c s hB5 _ (fun zs3 hk3 => ?_) s.seen [] rfl) (by rfl) ?_)
        · simp only [List.forall_mem_cons, go_sem, seval, h2]
          exact ⟨.refl _, .refl _, by simp⟩
        · clear h h1 h2
          simp only [go_sem, seval, hk3]
          repeat' first | (refine Rt_pure ?_ rfl; simp only [retO, retO1, retOs, S, get_cons, Nat.reduceEqDiff, reduceIte, obj, getO_cons_zero, getO_cons_succ, List.getElem?_cons_zero, List.getElem?_cons_succ, List.drop_zero, List.drop_succ_cons, loadFrom_cell, loadFrom_agg, List.length_cons, List.length_nil, Nat.reduceAdd, Nat.reduceLeDiff, List.take_succ_cons, List.take_zero, List.take_nil]) | refine CX_pure c91_ok rfl rfl rfl rfl ?_ | refine CX_pure (c92_ok (by grind) (by grind)) rfl rfl rfl rfl ?_ | refine CX_pure (c93_ok hB2) rfl rfl rfl rfl ?_ | refine GX_call (fun _ => c91_ok) (by rfl) (by intro h; simp only [h]; rfl) (by rfl) (by rfl) ?_ | refine GX_call (fun _ => (c92_ok (by grind) (by grind))) (by rfl) (by intro h; simp only [h]; rfl) (by rfl) (by rfl) ?_ | refine GX_call (fun _ => (c93_ok hB2)) (by rfl) (by intro h; simp only [h]; rfl) (by rfl) (by rfl) ?_ | (with_reducible intro h; try simp only [h]) | (with_reducible refine And.intro ?_ ?_) | (change chk _ _ = true; rfl) | simp only [go_sem, seval, Vc_bool, hk3] | refine (GX_split rfl).2 ?_
          all_goals clear hB1 hB2 hB3 hB4 hB5 hk3
          all_goals (have hh : decide (0 ≤ pkIdx s.q.pk s.trying) = hasId s.q.pk s.trying := idxFrom_any _ _ _; simp only [fin23, tryOk', wi] at *; grind)
        · rfl
      · rfl
    · grind

def c68 : SC := (.seq (.reg [(.box 1 24 (.t 0)), (.mv 2 (.c (.bool false)))]) (.seq (.reg [(.fa 3 (.t 1) 2), (.ld 4 (.t 3) false 1), (.len 5 false (.t 4)), (.call (some 6) (.c (.func 178 [] [])) [(.t 5)]), (.mv 7 (.t 6)), (.g 7 true (some 8) (.fa 8 (.t 1) 1)), (.g 7 true (some 9) (.ld 9 (.t 8) false 1)), (.g 7 true (some 10) (.bin 10 .leq (.t 9) (.c (.int .i64 64)))), (.g 7 true (some 11) (.mv 11 (.t 10))), (.g 11 false (some 12) (.fa 12 (.t 1) 1)), (.g 11 false (some 13) (.ld 13 (.t 12) false 1)), (.g 11 false (some 14) (.bin 14 .gtr (.t 13) (.c (.int .i64 512)))), (.g 7 true (some 15) (.pick 15 (.t 11) (.c (.bool true)) (.t 14))), (.pick 16 (.t 7) (.t 15) (.c (.bool false))), (.mv 2 (.t 16))]) .ret))
theorem e68 : compC prog f68.ntmps (f68.body.getD .skip) = c68 := by kernel_rfl
def c79L1 : SC := (.seq (.seq (.reg [(.mv 8 (.t 3)), (.fa 9 (.t 1) 1), (.ld 10 (.t 9) false 1), (.len 11 false (.t 10)), (.bin 12 .lss (.t 8) (.t 11))]) (.cond (.t 12) .skip (.exit 0))) (.seq (.block 1 (.seq (.reg [(.fa 15 (.t 1) 1), (.ld 16 (.t 15) false 1), (.mv 17 (.t 3)), (.ia 18 (.t 16) (.t 17) 6), (.fa 19 (.t 18) 5), (.ld 20 (.t 19) false 1), (.len 21 true (.t 20)), (.bin 22 .gtr (.t 21) (.c (.int .i64 200)))]) (.cond (.t 22) (.seq (.reg [(.mv 2 (.c (.bool false)))]) .ret) .skip))) (.reg [(.mv 13 (.t 3)), (.bin 14 .add (.t 13) (.c (.int .i64 1))), (.mv 3 (.t 14))])))
def c79 : SC := (.seq (.reg [(.box 1 27 (.t 0)), (.mv 2 (.c (.bool false)))]) (.seq (.seq (.reg [(.fa 4 (.t 1) 1), (.ld 5 (.t 4) false 1), (.len 6 false (.t 5)), (.bin 7 .gtr (.t 6) (.c (.int .i64 70)))]) (.cond (.t 7) (.seq (.reg [(.mv 2 (.c (.bool false)))]) .ret) .skip)) (.seq (.seq (.reg [(.mv 3 (.c (.int .i64 0)))]) (.block 0 (.loop c79L1))) (.seq (.reg [(.mv 2 (.c (.bool true)))]) .ret))))
theorem e79 : compC prog f79.ntmps (f79.body.getD .skip) = c79 := by kernel_rfl
def c19L1 : SC := (.seq (.seq (.reg [(.mv 26 (.t 3)), (.fa 27 (.t 1) 5), (.ld 28 (.t 27) false 1), (.len 29 false (.t 28)), (.bin 30 .lss (.t 26) (.t 29))]) (.cond (.t 30) .skip (.exit 0))) (.seq (.block 1 (.seq (.reg [(.fa 33 (.t 1) 5), (.ld 34 (.t 33) false 1), (.mv 35 (.t 3)), (.ia 36 (.t 34) (.t 35) 5), (.fa 37 (.t 36) 3), (.ld 38 (.t 37) false 1), (.len 39 true (.t 38)), (.bin 40 .gtr (.t 39) (.c (.int .i64 200))), (.mv 41 (.t 40)), (.g 41 false (some 42) (.fa 42 (.t 1) 5)), (.g 41 false (some 43) (.ld 43 (.t 42) false 1)), (.g 41 false (some 44) (.mv 44 (.t 3))), (.g 41 false (some 45) (.ia 45 (.t 43) (.t 44) 5)), (.g 41 false (some 46) (.fa 46 (.t 45) 4)), (.g 41 false (some 47) (.ld 47 (.t 46) false 1)), (.g 41 false (some 48) (.len 48 false (.t 47))), (.g 41 false (some 49) (.bin 49 .gtr (.t 48) (.c (.int .i64 40)))), (.pick 50 (.t 41) (.c (.bool true)) (.t 49))]) (.cond (.t 50) (.seq (.reg [(.mv 2 (.c (.bool false)))]) .ret) .skip))) (.reg [(.mv 31 (.t 3)), (.bin 32 .add (.t 31) (.c (.int .i64 1))), (.mv 3 (.t 32))])))
def c19 : SC := (.seq (.reg [(.box 1 31 (.t 0)), (.mv 2 (.c (.bool false)))]) (.seq (.seq (.reg [(.fa 4 (.t 1) 0), (.ld 5 (.t 4) true 3), (.call (some 6) (.c (.func 68 [] [])) [(.t 5)]), (.not 7 (.t 6)), (.mv 8 (.t 7)), (.g 8 false (some 9) (.fa 9 (.t 1) 3)), (.g 8 false (some 10) (.ld 10 (.t 9) true 2)), (.g 8 false (some 11) (.call (some 11) (.c (.func 79 [] [])) [(.t 10)])), (.g 8 false (some 12) (.not 12 (.t 11))), (.pick 13 (.t 8) (.c (.bool true)) (.t 12)), (.mv 14 (.t 13)), (.g 14 false (some 15) (.fa 15 (.t 1) 5)), (.g 14 false (some 16) (.ld 16 (.t 15) false 1)), (.g 14 false (some 17) (.len 17 false (.t 16))), (.g 14 false (some 18) (.bin 18 .gtr (.t 17) (.c (.int .i64 20)))), (.pick 19 (.t 14) (.c (.bool true)) (.t 18)), (.mv 20 (.t 19)), (.g 20 false (some 21) (.fa 21 (.t 1) 6)), (.g 20 false (some 22) (.ld 22 (.t 21) false 1)), (.g 20 false (some 23) (.len 23 false (.t 22))), (.g 20 false (some 24) (.bin 24 .gtr (.t 23) (.c (.int .i64 40)))), (.pick 25 (.t 20) (.c (.bool true)) (.t 24))]) (.cond (.t 25) (.seq (.reg [(.mv 2 (.c (.bool false)))]) .ret) .skip)) (.seq (.seq (.reg [(.mv 3 (.c (.int .i64 0)))]) (.block 0 (.loop c19L1))) (.seq (.reg [(.mv 2 (.c (.bool true)))]) .ret))))
theorem e19 : compC prog f19.ntmps (f19.body.getD .skip) = c19 := by kernel_rfl
theorem c68_pf (t : Table)  : ACalls prog 68 [.agg [.int .i64 t.node, .int .i64 t.len, .sl 6 (t.cells.map TCell.enc)]] [] (.bool (tabFew t)) [] := by
  refine calls_of hmx func68 (by kernel_rfl) (c := f68.body.getD .skip) rfl e68 (rs := [(.t 2)]) (by kernel_rfl) (by simp [ntmps68]) ?_
  simp only [c68, argS]
  simp only [go_sem, seval, List.length_map]
  repeat' first | (refine Rt_pure ?_ rfl; simp only [retO, retO1, retOs, S, get_cons, Nat.reduceEqDiff, reduceIte, obj, getO_cons_zero, getO_cons_succ, List.getElem?_cons_zero, List.getElem?_cons_succ, List.drop_zero, List.drop_succ_cons, loadFrom_cell, loadFrom_agg, List.length_cons, List.length_nil, Nat.reduceAdd, Nat.reduceLeDiff, List.take_succ_cons, List.take_zero, List.take_nil]) | refine CX_pure c178_ok rfl rfl rfl rfl ?_ | refine GX_call (fun _ => c178_ok) (by rfl) (by intro h; simp only [h]; rfl) (by rfl) (by rfl) ?_ | (with_reducible intro h; try simp only [h]) | (with_reducible refine And.intro ?_ ?_) | (change chk _ _ = true; rfl) | simp only [go_sem, seval, Vc_bool, List.length_map] | refine (GX_split rfl).2 ?_
  all_goals grind [tabFew]
theorem c68_ok {t_node : Int} {t_len : Int} {t_cells : List TCell}  : ACalls prog 68 [.agg [.int .i64 t_node, .int .i64 t_len, .sl 6 (t_cells.map TCell.enc)]] [] (.bool (tabFew (⟨t_node, t_len, t_cells⟩ : Table))) [] := c68_pf (⟨t_node, t_len, t_cells⟩ : Table) 

/-- The code of slices.Clone. -/
def cClone (t k bytes : Nat) (zs : List AVal) : SC := (.seq (.reg [(.mv 2 (.c .nil))]) (.seq (.seq (.reg [(.mv 3 (.t 0)), (.binN 4 1 false (.t 3))]) (.cond (.t 4) (.seq (.reg [(.mv 2 (.c .nil))]) .ret) .skip)) (.seq (.reg [(.bsl 5 t k zs 0 []), (.mv 6 (.t 0)), (.app 7 t k bytes (.t 5) (.t 6)), (.mv 2 (.t 7))]) .ret)))
theorem e82 : compC prog f82.ntmps (f82.body.getD .skip) = cClone 57 6 48 [(.int .i64 0), (.int .i64 0), (.int .i64 0), (.bool false), (.int .i64 0), (.int .i64 0)] := by kernel_rfl
theorem e153 : compC prog f153.ntmps (f153.body.getD .skip) = cClone 3 1 8 [.int .i64 0] := by kernel_rfl
theorem e260 : compC prog f260.ntmps (f260.body.getD .skip) = cClone 104 6 56 [(.int .i64 0), (.int .i64 0), (.int .i64 0), (.int .i64 0), (.int .i64 0), (.str (ByteArray.mk #[]))] := by kernel_rfl
theorem e261 : compC prog f261.ntmps (f261.body.getD .skip) = cClone 100 5 64 [(.int .i64 0), (.int .i64 0), (.int .i64 0), (.str (ByteArray.mk #[])), .nil] := by kernel_rfl
theorem e262 : compC prog f262.ntmps (f262.body.getD .skip) = cClone 160 2 16 [(.int .i64 0), (.int .i64 0)] := by kernel_rfl
theorem clone_V {t k bytes : Nat} {zs : List AVal} {xs : List (List AVal)} (hk : 0 < k) (hzs : zs.length = k) (hc : cloE xs) (hb : xs.length * bytes ≤ 140737488355328) :
    V prog 8 0 (Ret [.t 2] 0 (.sl k xs) []) [.code (cClone t k bytes zs)] (argS [.sl k xs] 0) [] := by
  simp only [cClone, argS]
  cases xs with
  | nil =>
    simp only [go_sem, seval, hk]
    intro b
    cases b
    · simp only [go_sem, seval, hk, Nat.zero_mul]
      refine Rt.gs (Gs_tell (s' := [(2, .sl k [])]) (H' := [.dead]) ?_ ?_) (Rt_pure ?_ rfl)
      · repeat' (first | exact FzL.nil | refine FzL.cons ?_ ?_ | exact Fz.wk (Wk.refl _) | exact Fz.wk (Wk.nil _) | exact Fz.wk (Wk.emp _) | exact Fz.row0 _ _ _ _ | exact FzH.nil _ | exact FzO.refl _ | refine FzO.one ?_ | refine FzH.cons (by decide) ?_ ?_ | refine FzH.this rfl ?_ | exact FzO.dead (by simp) | (simp only [List.forall_mem_cons, List.not_mem_nil, false_implies, implies_true, and_true, go_sem, seval]) | refine And.intro ?_ ?_)
      · repeat' (first | exact FzL.nil | refine FzL.cons ?_ ?_ | exact Fz.wk (Wk.refl _) | exact Fz.wk (Wk.nil _) | exact Fz.wk (Wk.emp _) | exact Fz.row0 _ _ _ _ | exact FzH.nil _ | exact FzO.refl _ | refine FzO.one ?_ | refine FzH.cons (by decide) ?_ ?_ | refine FzH.this rfl ?_ | exact FzO.dead (by simp) | (simp only [List.forall_mem_cons, List.not_mem_nil, false_implies, implies_true, and_true, go_sem, seval]) | refine And.intro ?_ ?_)
      · rfl
    · simp only [go_sem, seval]
      refine Rt.gs (Gs_tell (s' := [(2, .sl k [])]) (H' := []) ?_ ?_) (Rt_pure ?_ rfl)
      · repeat' (first | exact FzL.nil | refine FzL.cons ?_ ?_ | exact Fz.wk (Wk.refl _) | exact Fz.wk (Wk.nil _) | exact Fz.wk (Wk.emp _) | exact Fz.row0 _ _ _ _ | exact FzH.nil _ | exact FzO.refl _ | refine FzO.one ?_ | refine FzH.cons (by decide) ?_ ?_ | refine FzH.this rfl ?_ | exact FzO.dead (by simp) | (simp only [List.forall_mem_cons, List.not_mem_nil, false_implies, implies_true, and_true, go_sem, seval]) | refine And.intro ?_ ?_)
      · repeat' (first | exact FzL.nil | refine FzL.cons ?_ ?_ | exact Fz.wk (Wk.refl _) | exact Fz.wk (Wk.nil _) | exact Fz.wk (Wk.emp _) | exact Fz.row0 _ _ _ _ | exact FzH.nil _ | exact FzO.refl _ | refine FzO.one ?_ | refine FzH.cons (by decide) ?_ ?_ | refine FzH.this rfl ?_ | exact FzO.dead (by simp) | (simp only [List.forall_mem_cons, List.not_mem_nil, false_implies, implies_true, and_true, go_sem, seval]) | refine And.intro ?_ ?_)
      · rfl
  | cons x xs =>
    simp only [go_sem, seval, hk, Nat.zero_add]
    refine ⟨by simpa using hb, ?_⟩
    refine Rt.gs (Gs_freeze 0 (s' := [(2, .sl k (x :: xs))]) (H' := [.dead]) rfl ?_ ?_) (Rt_pure ?_ rfl)
    · repeat' (first | exact FzL.nil | refine FzL.cons ?_ ?_ | exact Fz.wk (Wk.refl _) | exact Fz.wk (Wk.nil _) | exact Fz.wk (Wk.emp _) | exact Fz.row0 _ _ _ _ | exact FzH.nil _ | exact FzO.refl _ | refine FzO.one ?_ | refine FzH.cons (by decide) ?_ ?_ | refine FzH.this rfl ?_ | exact FzO.dead (by simp) | (simp only [List.forall_mem_cons, List.not_mem_nil, false_implies, implies_true, and_true, go_sem, seval]) | refine And.intro ?_ ?_)
      exact Fz.row 0 (xs.length + 1) (by rw [List.drop_zero, ← List.length_cons, List.take_length]) hc
    · repeat' (first | exact FzL.nil | refine FzL.cons ?_ ?_ | exact Fz.wk (Wk.refl _) | exact Fz.wk (Wk.nil _) | exact Fz.wk (Wk.emp _) | exact Fz.row0 _ _ _ _ | exact FzH.nil _ | exact FzO.refl _ | refine FzO.one ?_ | refine FzH.cons (by decide) ?_ ?_ | refine FzH.this rfl ?_ | exact FzO.dead (by simp) | (simp only [List.forall_mem_cons, List.not_mem_nil, false_implies, implies_true, and_true, go_sem, seval]) | refine And.intro ?_ ?_)
    · rfl

theorem clone_R {t k bytes : Nat} {zs : List AVal} {x : List AVal} {xs : List (List AVal)} (hk : 0 < k) (hzs : zs.length = k) (hc : (x :: xs).all (ltL 1) = true) (hb : (x :: xs).length * bytes ≤ 140737488355328) :
    V prog 8 0 (Ret [.t 2] 0 (.row 0 1 0 (x :: xs).length) [.cells 1 k t false (x :: xs)]) [.code (cClone t k bytes zs)] (argS [.sl k (x :: xs)] 0) [] := by
  simp only [cClone, argS]
  simp only [go_sem, seval, hk, Nat.zero_add]
  refine ⟨by simpa using hb, ?_⟩
  refine Rt_all rfl (by rfl) ?_ (Nat.zero_le _)
  rw [List.all_cons, List.all_nil, Bool.and_true]
  exact hc
theorem cloE_map {α : Type} {f : α → List AVal} {xs : List α} (h : ∀ x, (f x).all clo = true) : cloE (xs.map f) := by
  intro e he c hc
  obtain ⟨x, _, rfl⟩ := List.mem_map.1 he
  exact List.all_eq_true.1 (h x) c hc
theorem lt_map {α : Type} {m : Nat} {f : α → List AVal} {xs : List α} (h : ∀ x, ltL m (f x) = true) : (xs.map f).all (ltL m) = true := by
  rw [List.all_map]
  exact List.all_eq_true.2 fun x _ => h x
theorem c82_ok {xs : List TCell} (hb : xs.length * 48 ≤ 140737488355328) : ACalls prog 82 [.sl 6 (xs.map TCell.enc)] [] (.sl 6 (xs.map TCell.enc)) [] := by
  refine calls_of hmx func82 (by kernel_rfl) (c := f82.body.getD .skip) rfl e82 (rs := [.t 2]) (by kernel_rfl) (show (1:Nat) ≤ 8 by decide) ?_
  exact clone_V (by decide) rfl (cloE_map fun _ => by rfl) (by rw [List.length_map]; exact hb)
theorem c153_ok {xs : List Int} (hb : xs.length * 8 ≤ 140737488355328) : ACalls prog 153 [.sl 1 (xs.map eI)] [] (.sl 1 (xs.map eI)) [] := by
  refine calls_of hmx func153 (by kernel_rfl) (c := f153.body.getD .skip) rfl e153 (rs := [.t 2]) (by kernel_rfl) (show (1:Nat) ≤ 8 by decide) ?_
  exact clone_V (by decide) rfl (cloE_map fun _ => by rfl) (by rw [List.length_map]; exact hb)
theorem c260_ok {xs : List Packet} (hb : xs.length * 56 ≤ 140737488355328) : ACalls prog 260 [.sl 6 (xs.map Packet.enc)] [] (.sl 6 (xs.map Packet.enc)) [] := by
  refine calls_of hmx func260 (by kernel_rfl) (c := f260.body.getD .skip) rfl e260 (rs := [.t 2]) (by kernel_rfl) (show (1:Nat) ≤ 8 by decide) ?_
  exact clone_V (by decide) rfl (cloE_map fun _ => by rfl) (by rw [List.length_map]; exact hb)
theorem c260r_ok {x : Packet} {xs : List Packet} (hb : (x :: xs).length * 56 ≤ 140737488355328) : ACalls prog 260 [.sl 6 ((x :: xs).map Packet.enc)] [] (.row 0 1 0 (x :: xs).length) [.cells 1 6 104 false ((x :: xs).map Packet.enc)] := by
  refine calls_of hmx func260 (by kernel_rfl) (c := f260.body.getD .skip) rfl e260 (rs := [.t 2]) (by kernel_rfl) (show (1:Nat) ≤ 8 by decide) ?_
  have h := clone_R (t := 104) (k := 6) (bytes := 56) (zs := [(.int .i64 0), (.int .i64 0), (.int .i64 0), (.int .i64 0), (.int .i64 0), (.str (ByteArray.mk #[]))]) (x := Packet.enc x) (xs := xs.map Packet.enc) (by decide) rfl (lt_map (xs := x :: xs) fun _ => by rfl) (by simpa using hb)
  simp only [List.map_cons, List.length_cons, List.length_map] at h ⊢
  exact h
theorem c261_ok {xs : List Held} (hb : xs.length * 64 ≤ 140737488355328) : ACalls prog 261 [.sl 5 (xs.map Held.enc)] [] (.sl 5 (xs.map Held.enc)) [] := by
  refine calls_of hmx func261 (by kernel_rfl) (c := f261.body.getD .skip) rfl e261 (rs := [.t 2]) (by kernel_rfl) (show (1:Nat) ≤ 8 by decide) ?_
  exact clone_V (by decide) rfl (cloE_map fun _ => by rfl) (by rw [List.length_map]; exact hb)
theorem c261r_ok {x : Held} {xs : List Held} (hb : (x :: xs).length * 64 ≤ 140737488355328) : ACalls prog 261 [.sl 5 ((x :: xs).map Held.enc)] [] (.row 0 1 0 (x :: xs).length) [.cells 1 5 100 false ((x :: xs).map Held.enc)] := by
  refine calls_of hmx func261 (by kernel_rfl) (c := f261.body.getD .skip) rfl e261 (rs := [.t 2]) (by kernel_rfl) (show (1:Nat) ≤ 8 by decide) ?_
  have h := clone_R (t := 100) (k := 5) (bytes := 64) (zs := [(.int .i64 0), (.int .i64 0), (.int .i64 0), (.str (ByteArray.mk #[])), .nil]) (x := Held.enc x) (xs := xs.map Held.enc) (by decide) rfl (lt_map (xs := x :: xs) fun _ => by rfl) (by simpa using hb)
  simp only [List.map_cons, List.length_cons, List.length_map] at h ⊢
  exact h
theorem c262_ok {xs : List Seen} (hb : xs.length * 16 ≤ 140737488355328) : ACalls prog 262 [.sl 2 (xs.map Seen.enc)] [] (.sl 2 (xs.map Seen.enc)) [] := by
  refine calls_of hmx func262 (by kernel_rfl) (c := f262.body.getD .skip) rfl e262 (rs := [.t 2]) (by kernel_rfl) (show (1:Nat) ≤ 8 by decide) ?_
  exact clone_V (by decide) rfl (cloE_map fun _ => by rfl) (by rw [List.length_map]; exact hb)
def c20 : SC := (.seq (.reg [(.box 3 24 (.t 0)), (.alc 6 31 [(.int .i64 0), (.int .i64 0), .nil, (.int .i64 0), .nil, .nil, .nil, (.int .i64 0), (.int .i64 0), (.int .i64 0), (.int .i64 0), (.int .i64 0), (.int .i64 0), (.int .i64 0)]), (.mv 7 (.c (.int .i64 0)))]) (.seq (.seq (.reg [(.ld 8 (.t 3) true 3), (.call (some 9) (.c (.func 80 [] [])) [(.t 8)]), (.bin 10 .neq (.t 9) (.c (.int .i64 0)))]) (.cond (.t 10) (.seq (.reg [(.bld 11 [(.int .i64 0), (.int .i64 0), .nil, (.int .i64 0), .nil, .nil, .nil, (.int .i64 0), (.int .i64 0), (.int .i64 0), (.int .i64 0), (.int .i64 0), (.int .i64 0), (.int .i64 0)] []), (.st (.t 6) (.t 11) 14), (.mv 7 (.c (.int .i64 1)))]) .ret) .skip)) (.seq (.seq (.reg [(.mv 12 (.t 1)), (.bin 13 .lss (.t 12) (.c (.int .i64 1))), (.mv 14 (.t 13)), (.g 14 false (some 15) (.mv 15 (.t 1))), (.g 14 false (some 16) (.bin 16 .gtr (.t 15) (.c (.int .i64 64)))), (.pick 17 (.t 14) (.c (.bool true)) (.t 16)), (.mv 18 (.t 17)), (.g 18 false (some 19) (.mv 19 (.t 2))), (.g 18 false (some 20) (.call (some 20) (.c (.func 81 [] [])) [(.t 19), (.c (.int .i64 2147483647))])), (.g 18 false (some 21) (.not 21 (.t 20))), (.pick 22 (.t 18) (.c (.bool true)) (.t 21))]) (.cond (.t 22) (.seq (.reg [(.bld 23 [(.int .i64 0), (.int .i64 0), .nil, (.int .i64 0), .nil, .nil, .nil, (.int .i64 0), (.int .i64 0), (.int .i64 0), (.int .i64 0), (.int .i64 0), (.int .i64 0), (.int .i64 0)] []), (.st (.t 6) (.t 23) 14), (.mv 7 (.c (.int .i64 2)))]) .ret) .skip)) (.seq (.reg [(.fa 24 (.t 3) 2), (.ld 25 (.t 24) false 1), (.call (some 26) (.c (.func 82 [] [])) [(.t 25)]), (.fa 27 (.t 3) 2), (.st (.t 27) (.t 26) 1)]) (.seq (.reg [(.ld 28 (.t 3) true 3), (.mv 29 (.t 1)), (.bld 30 [(.int .i64 0), .nil] [(0, 1, (.t 29))]), (.mv 31 (.t 2)), (.bld 32 [(.int .i64 0), (.int .i64 0), .nil, (.int .i64 0), .nil, .nil, .nil, (.int .i64 0), (.int .i64 0), (.int .i64 0), (.int .i64 0), (.int .i64 0), (.int .i64 0), (.int .i64 0)] [(0, 3, (.t 28)), (3, 2, (.t 30)), (9, 1, (.c (.int .i64 (-1)))), (13, 1, (.t 31))]), (.st (.t 6) (.t 32) 14), (.mv 7 (.c (.int .i64 0)))]) .ret)))))
theorem e20 : compC prog f20.ntmps (f20.body.getD .skip) = c20 := by kernel_rfl
def c152L1 : SC := (.seq (.reg [(.bin 28 .lss (.t 27) (.t 26))]) (.seq (.cond (.t 28) .skip (.exit 0)) (.seq (.block 1 (.seq (.reg [(.mv 29 (.t 27)), (.mv 3 (.t 29))]) (.regD [(.fa 30 (.t 1) 5), (.ld 31 (.t 30) false 1), (.mv 32 (.t 3)), (.fa 33 (.t 1) 5), (.ld 34 (.t 33) false 1), (.mv 35 (.t 3)), (.ia 36 (.t 34) (.t 35) 5), (.fa 37 (.t 36) 4), (.ld 38 (.t 37) false 1), (.call (some 39) (.c (.func 153 [] [])) [(.t 38)]), (.ia 40 (.t 31) (.t 32) 5), (.fa 41 (.t 40) 4), (.st (.t 41) (.t 39) 1)] [(1, 9)]))) (.reg [(.bin 42 .add (.t 27) (.c (.int .i64 1))), (.mv 27 (.t 42))]))))
def c152 : SC := (.seq (.reg [(.box 1 31 (.t 0)), (.alc 2 31 [(.int .i64 0), (.int .i64 0), .nil, (.int .i64 0), .nil, .nil, .nil, (.int .i64 0), (.int .i64 0), (.int .i64 0), (.int .i64 0), (.int .i64 0), (.int .i64 0), (.int .i64 0)])]) (.seq (.regD [(.fa 4 (.t 1) 0), (.fa 5 (.t 4) 2), (.ld 6 (.t 5) false 1), (.call (some 7) (.c (.func 82 [] [])) [(.t 6)]), (.fa 8 (.t 1) 3), (.fa 9 (.t 8) 1), (.ld 10 (.t 9) false 1), (.call (some 11) (.c (.func 260 [] [])) [(.t 10)]), (.fa 12 (.t 1) 0), (.fa 13 (.t 12) 2), (.st (.t 13) (.t 7) 1), (.fa 14 (.t 1) 3), (.fa 15 (.t 14) 1), (.st (.t 15) (.t 11) 1)] [(3, 6)]) (.seq (.regD [(.fa 16 (.t 1) 5), (.ld 17 (.t 16) false 1), (.call (some 18) (.c (.func 261 [] [])) [(.t 17)]), (.fa 19 (.t 1) 6), (.ld 20 (.t 19) false 1), (.call (some 21) (.c (.func 262 [] [])) [(.t 20)]), (.fa 22 (.t 1) 5), (.st (.t 22) (.t 18) 1), (.fa 23 (.t 1) 6), (.st (.t 23) (.t 21) 1)] [(2, 4)]) (.seq (.seq (.reg [(.fa 24 (.t 1) 5), (.ld 25 (.t 24) false 1), (.len 26 false (.t 25)), (.mv 27 (.c (.int .i64 0)))]) (.block 0 (.loop c152L1))) (.seq (.reg [(.ld 43 (.t 1) true 14), (.st (.t 2) (.t 43) 14)]) .ret)))))
theorem e152 : compC prog f152.ntmps (f152.body.getD .skip) = c152 := by kernel_rfl
theorem tabErr0_len {t : Table} (h : (!decide (tabErr t = 0)) = false) : t.cells.length ≤ 512 := by
  simp only [Bool.not_eq_false', decide_eq_true_eq] at h
  grind [tabErr]
theorem c20_pf (t : Table) (limit : Int) (seed : Int) (hL : t.cells.length < 2 ^ 62) : ACalls prog 20 [.agg [.int .i64 t.node, .int .i64 t.len, .sl 6 (t.cells.map TCell.enc)], .int .i64 limit, .int .i64 seed] [] (.tup [.agg (newSt t limit seed).1.enc, .int .i64 (newSt t limit seed).2]) [] := by
  refine calls_of hmx func20 (by kernel_rfl) (c := f20.body.getD .skip) rfl e20 (rs := [(.cell 6 true 14), (.t 7)]) (by kernel_rfl) (by simp [ntmps20]) ?_
  simp only [c20, argS]
  simp only [go_sem, seval]
  repeat' first | refine CX_pure (c80_ok hL) rfl rfl rfl rfl ?_ | refine CX_pure c81_ok rfl rfl rfl rfl ?_ | refine CX_pure (c82_ok (Nat.le_trans (Nat.mul_le_mul_right 48 (tabErr0_len (by assumption))) (by decide))) rfl rfl rfl rfl ?_ | refine GX_call (fun _ => (c80_ok hL)) (by rfl) (by intro h; simp only [h]; rfl) (by rfl) (by rfl) ?_ | refine GX_call (fun _ => c81_ok) (by rfl) (by intro h; simp only [h]; rfl) (by rfl) (by rfl) ?_ | refine GX_call (fun _ => (c82_ok (Nat.le_trans (Nat.mul_le_mul_right 48 (tabErr0_len (by assumption))) (by decide)))) (by rfl) (by intro h; simp only [h]; rfl) (by rfl) (by rfl) ?_ | (with_reducible intro h; try simp only [h]) | (with_reducible refine And.intro ?_ ?_) | (change chk _ _ = true; rfl) | simp only [go_sem, seval, Vc_bool] | refine (GX_split rfl).2 ?_
  · have e : newSt t limit seed = (Station.zero, 1) := by grind [newSt]
    rw [e]
    refine Rt.gs (Gs_tell (s' := [(6, .ptr 1 0 0 0), (7, .int .i64 1)]) (H' := [.dead, .cells 0 14 31 true [Station.zero.enc]]) ?_ ?_) (Rt_pure ?_ rfl)
    · repeat' (first | exact FzL.nil | refine FzL.cons ?_ ?_ | exact Fz.wk (Wk.refl _) | exact Fz.wk (Wk.nil _) | exact Fz.wk (Wk.emp _) | exact Fz.row0 _ _ _ _ | exact FzH.nil _ | exact FzO.refl _ | refine FzO.one ?_ | refine FzH.cons (by decide) ?_ ?_ | refine FzH.this rfl ?_ | exact FzO.dead (by simp) | (simp only [List.forall_mem_cons, List.not_mem_nil, false_implies, implies_true, and_true, go_sem, seval]) | refine And.intro ?_ ?_)
    · repeat' (first | exact FzL.nil | refine FzL.cons ?_ ?_ | exact Fz.wk (Wk.refl _) | exact Fz.wk (Wk.nil _) | exact Fz.wk (Wk.emp _) | exact Fz.row0 _ _ _ _ | exact FzH.nil _ | exact FzO.refl _ | refine FzO.one ?_ | refine FzH.cons (by decide) ?_ ?_ | refine FzH.this rfl ?_ | exact FzO.dead (by simp) | (simp only [List.forall_mem_cons, List.not_mem_nil, false_implies, implies_true, and_true, go_sem, seval]) | refine And.intro ?_ ?_)
    · rfl
  · have e : newSt t limit seed = (Station.zero, 2) := by grind [newSt, wi]
    rw [e]
    refine Rt.gs (Gs_tell (s' := [(6, .ptr 1 0 0 0), (7, .int .i64 2)]) (H' := [.dead, .cells 0 14 31 true [Station.zero.enc]]) ?_ ?_) (Rt_pure ?_ rfl)
    · repeat' (first | exact FzL.nil | refine FzL.cons ?_ ?_ | exact Fz.wk (Wk.refl _) | exact Fz.wk (Wk.nil _) | exact Fz.wk (Wk.emp _) | exact Fz.row0 _ _ _ _ | exact FzH.nil _ | exact FzO.refl _ | refine FzO.one ?_ | refine FzH.cons (by decide) ?_ ?_ | refine FzH.this rfl ?_ | exact FzO.dead (by simp) | (simp only [List.forall_mem_cons, List.not_mem_nil, false_implies, implies_true, and_true, go_sem, seval]) | refine And.intro ?_ ?_)
    · repeat' (first | exact FzL.nil | refine FzL.cons ?_ ?_ | exact Fz.wk (Wk.refl _) | exact Fz.wk (Wk.nil _) | exact Fz.wk (Wk.emp _) | exact Fz.row0 _ _ _ _ | exact FzH.nil _ | exact FzO.refl _ | refine FzO.one ?_ | refine FzH.cons (by decide) ?_ ?_ | refine FzH.this rfl ?_ | exact FzO.dead (by simp) | (simp only [List.forall_mem_cons, List.not_mem_nil, false_implies, implies_true, and_true, go_sem, seval]) | refine And.intro ?_ ?_)
    · rfl
  · have e : newSt t limit seed = (⟨t, ⟨limit, []⟩, [], [], 0, 0, -1, 0, 0, 0, seed⟩, 0) := by grind [newSt, wi]
    rw [e]
    refine Rt.gs (Gs_tell (s' := [(6, .ptr 1 0 0 0), (7, .int .i64 0)]) (H' := [.dead, .cells 0 14 31 true [Station.enc ⟨t, ⟨limit, []⟩, [], [], 0, 0, -1, 0, 0, 0, seed⟩]]) ?_ ?_) (Rt_pure ?_ rfl)
    · repeat' (first | exact FzL.nil | refine FzL.cons ?_ ?_ | exact Fz.wk (Wk.refl _) | exact Fz.wk (Wk.nil _) | exact Fz.wk (Wk.emp _) | exact Fz.row0 _ _ _ _ | exact FzH.nil _ | exact FzO.refl _ | refine FzO.one ?_ | refine FzH.cons (by decide) ?_ ?_ | refine FzH.this rfl ?_ | exact FzO.dead (by simp) | (simp only [List.forall_mem_cons, List.not_mem_nil, false_implies, implies_true, and_true, go_sem, seval]) | refine And.intro ?_ ?_)
    · repeat' (first | exact FzL.nil | refine FzL.cons ?_ ?_ | exact Fz.wk (Wk.refl _) | exact Fz.wk (Wk.nil _) | exact Fz.wk (Wk.emp _) | exact Fz.row0 _ _ _ _ | exact FzH.nil _ | exact FzO.refl _ | refine FzO.one ?_ | refine FzH.cons (by decide) ?_ ?_ | refine FzH.this rfl ?_ | exact FzO.dead (by simp) | (simp only [List.forall_mem_cons, List.not_mem_nil, false_implies, implies_true, and_true, go_sem, seval]) | refine And.intro ?_ ?_)
    · rfl
theorem set_same {α : Type} {l : List α} {i : Nat} {x : α} (h : l[i]? = some x) : l.set i x = l := by
  obtain ⟨hi, rfl⟩ := List.getElem?_eq_some_iff.1 h
  exact List.set_getElem_self hi
/-- A station whose messages lie in an object of their own. -/
def Station.encH (s : Station) (id n : Nat) : List AVal := [.int .i64 s.tab.node, .int .i64 s.tab.len, .sl 6 (s.tab.cells.map TCell.enc), .int .i64 s.q.limit, .sl 6 (s.q.pk.map Packet.enc), .row id 1 0 n, .sl 2 (s.seen.map Seen.enc), .int .i64 s.list, .int .i64 s.seq, .int .i64 s.trying, .int .i64 s.tries, .int .i64 s.back, .int .i64 s.wait, .int .i64 s.seed]
/-- A station's zero, before it is told. -/
def zSt : List AVal := [.int .i64 0, .int .i64 0, .nil, .int .i64 0, .nil, .nil, .nil, .int .i64 0, .int .i64 0, .int .i64 0, .int .i64 0, .int .i64 0, .int .i64 0, .int .i64 0]
theorem l152 (s : Station) (hL : s.held.length < 2 ^ 62) (hA : ∀ h ∈ s.held, h.acked.length * 8 ≤ 140737488355328) (hr : AVal) (Hr : Heap) (k' : List It)
    (hk : ∀ zs, get zs 1 = .ptr 0 0 0 0 → get zs 2 = .ptr 1 0 0 0 → V prog f152.ntmps 0 (Ret [.cell 2 true 14] 0 hr Hr) k' zs [.cells 0 14 31 true [Station.encH s 2 s.held.length], .cells 0 14 31 true [zSt], .cells 1 5 100 false (s.held.map Held.enc)]) :
    ∀ (rest done : List Held), s.held = done ++ rest →
    Lp prog f152.ntmps 0 (Ret [.cell 2 true 14] 0 hr Hr) c152L1 (.blk 0 :: k') [(1, .ptr 0 0 0 0), (2, .ptr 1 0 0 0), (26, .int .i64 s.held.length), (27, .int .i64 done.length)] [.cells 0 14 31 true [Station.encH s 2 s.held.length], .cells 0 14 31 true [zSt], .cells 1 5 100 false (s.held.map Held.enc)] := by
  intro rest
  induction rest with
  | nil =>
    intro done hd
    refine Lp.of_eq hmx c152L1.eq_1 ?_
    have h1 := rg_end hd
    simp only [go_sem, seval, h1, List.length_map]
    exact hk _ (by rfl) (by rfl)
  | cons c rest ih =>
    intro done hd
    refine Lp.of_eq hmx c152L1.eq_1 ?_
    obtain ⟨h1, h2, h3, h4⟩ := rg_hd Held.enc hd hL
    have hAc := hA c (by rw [hd]; simp)
    have ih' := ih _ h4
    have hlt : done.length < s.held.length := by rw [hd]; simp
    simp only [go_sem, seval, Station.encH, h1, h2, h3, Int.toNat_natCast, Int.natCast_nonneg, List.length_map, hlt, Nat.zero_add]
    refine ⟨Int.ofNat_lt.2 hlt, ?_⟩
    refine CX_pure (c153_ok hAc) rfl rfl rfl rfl ?_
    have hse : (s.held.map Held.enc).set done.length [.int .i64 c.flow, .int .i64 c.frame, .int .i64 c.upto, .str c.data, .sl 1 (c.acked.map eI)] = s.held.map Held.enc := set_same h2
    simp only [go_sem, seval, h1, h2, h3, Int.toNat_natCast, Int.natCast_nonneg, List.length_map, hlt, Nat.zero_add, hse]
    refine ⟨Int.ofNat_lt.2 hlt, by rfl, ?_⟩
    exact Lp.bkE0 ih' (by rfl) rfl
/-- The bounds of a station that Clone takes. -/
structure ClBd (s : Station) : Prop where
  c : s.tab.cells.length * 48 ≤ 140737488355328
  q : s.q.pk.length * 56 ≤ 140737488355328
  h : s.held.length * 64 ≤ 140737488355328
  n : s.seen.length * 16 ≤ 140737488355328
  a : ∀ h ∈ s.held, h.acked.length * 8 ≤ 140737488355328
theorem c261o {hs : List Held} (h0 : hs ≠ []) (hb : hs.length * 64 ≤ 140737488355328) : ACalls prog 261 [.sl 5 (hs.map Held.enc)] [] (.row 0 1 0 hs.length) [.cells 1 5 100 false (hs.map Held.enc)] := by
  cases hs with
  | nil => exact absurd rfl h0
  | cons x xs => exact c261r_ok hb
theorem c152_pf (s : Station) (hB : ClBd s) : ACalls prog 152 [.agg [.int .i64 s.tab.node, .int .i64 s.tab.len, .sl 6 (s.tab.cells.map TCell.enc), .int .i64 s.q.limit, .sl 6 (s.q.pk.map Packet.enc), .sl 5 (s.held.map Held.enc), .sl 2 (s.seen.map Seen.enc), .int .i64 s.list, .int .i64 s.seq, .int .i64 s.trying, .int .i64 s.tries, .int .i64 s.back, .int .i64 s.wait, .int .i64 s.seed]] [] (.agg s.enc) [] := by
  obtain ⟨b1, b2, b3, b4, b5⟩ := hB
  refine calls_of hmx func152 (by kernel_rfl) (c := f152.body.getD .skip) rfl e152 (rs := [(.cell 2 true 14)]) (by kernel_rfl) (by simp [ntmps152]) ?_
  simp only [c152, argS]
  simp only [go_sem, seval]
  repeat' first | refine CX_pure (c82_ok b1) rfl rfl rfl rfl ?_ | refine GX_call (fun _ => (c82_ok b1)) (by rfl) (by intro h; simp only [h]; rfl) (by rfl) (by rfl) ?_ | (with_reducible intro h; try simp only [h]) | (with_reducible refine And.intro ?_ ?_) | (change chk _ _ = true; rfl) | simp only [go_sem, seval, Vc_bool] | refine (GX_split rfl).2 ?_
  repeat' first | refine CX_pure (c260_ok b2) rfl rfl rfl rfl ?_ | refine GX_call (fun _ => (c260_ok b2)) (by rfl) (by intro h; simp only [h]; rfl) (by rfl) (by rfl) ?_ | (with_reducible intro h; try simp only [h]) | (with_reducible refine And.intro ?_ ?_) | (change chk _ _ = true; rfl) | simp only [go_sem, seval, Vc_bool] | refine (GX_split rfl).2 ?_
  repeat' first | (with_reducible intro h; try simp only [h]) | (with_reducible refine And.intro ?_ ?_) | (change chk _ _ = true; rfl) | simp only [go_sem, seval, Vc_bool] | refine (GX_split rfl).2 ?_
  by_cases h0 : s.held = []
  · repeat' first | refine CX_pure (c261_ok b3) rfl rfl rfl rfl ?_ | refine GX_call (fun _ => (c261_ok b3)) (by rfl) (by intro h; simp only [h]; rfl) (by rfl) (by rfl) ?_ | (with_reducible intro h; try simp only [h]) | (with_reducible refine And.intro ?_ ?_) | (change chk _ _ = true; rfl) | simp only [go_sem, seval, Vc_bool] | refine (GX_split rfl).2 ?_
    repeat' first | refine CX_pure (c262_ok b4) rfl rfl rfl rfl ?_ | refine GX_call (fun _ => (c262_ok b4)) (by rfl) (by intro h; simp only [h]; rfl) (by rfl) (by rfl) ?_ | (with_reducible intro h; try simp only [h]) | (with_reducible refine And.intro ?_ ?_) | (change chk _ _ = true; rfl) | simp only [go_sem, seval, Vc_bool] | refine (GX_split rfl).2 ?_
    refine Lp.of_eq hmx c152L1.eq_1 ?_
    simp only [go_sem, seval, h0, List.map_nil, List.length_nil, show decide ((0:Int) < ((0:Nat):Int)) = false from rfl]
    refine Rt.gs (Gs_tell (s' := [(2, .ptr 1 0 0 0)]) (H' := [.dead, .cells 0 14 31 true [Station.enc { s with held := [] }]]) ?_ ?_) (Rt_pure ?_ rfl)
    · repeat' (first | exact FzL.nil | refine FzL.cons ?_ ?_ | exact Fz.wk (Wk.refl _) | exact Fz.wk (Wk.nil _) | exact Fz.wk (Wk.emp _) | exact Fz.row0 _ _ _ _ | exact FzH.nil _ | exact FzO.refl _ | refine FzO.one ?_ | refine FzH.cons (by decide) ?_ ?_ | refine FzH.this rfl ?_ | exact FzO.dead (by simp) | (simp only [List.forall_mem_cons, List.not_mem_nil, false_implies, implies_true, and_true, go_sem, seval]) | refine And.intro ?_ ?_)
    · repeat' (first | exact FzL.nil | refine FzL.cons ?_ ?_ | exact Fz.wk (Wk.refl _) | exact Fz.wk (Wk.nil _) | exact Fz.wk (Wk.emp _) | exact Fz.row0 _ _ _ _ | exact FzH.nil _ | exact FzO.refl _ | refine FzO.one ?_ | refine FzH.cons (by decide) ?_ ?_ | refine FzH.this rfl ?_ | exact FzO.dead (by simp) | (simp only [List.forall_mem_cons, List.not_mem_nil, false_implies, implies_true, and_true, go_sem, seval]) | refine And.intro ?_ ?_)
    · rfl
  · refine CX_new (r1 := .row 2 1 0 s.held.length) (c261o h0 b3) rfl rfl rfl (by rw [List.all_cons, List.all_nil, Bool.and_true]; exact lt_map (xs := s.held) fun _ => by rfl) (by rfl) ?_
    repeat' first | (with_reducible intro h; try simp only [h]) | (with_reducible refine And.intro ?_ ?_) | (change chk _ _ = true; rfl) | simp only [go_sem, seval, Vc_bool] | refine (GX_split rfl).2 ?_
    repeat' first | refine CX_pure (c262_ok b4) rfl rfl rfl rfl ?_ | refine GX_call (fun _ => (c262_ok b4)) (by rfl) (by intro h; simp only [h]; rfl) (by rfl) (by rfl) ?_ | (with_reducible intro h; try simp only [h]) | (with_reducible refine And.intro ?_ ?_) | (change chk _ _ = true; rfl) | simp only [go_sem, seval, Vc_bool] | refine (GX_split rfl).2 ?_
    refine Lp.bkE0 (l152 s (by omega) b5 _ _ _ (fun zs z1 z2 => ?_) s.held [] rfl) (by rfl) rfl
    simp only [go_sem, seval, z1, z2, Station.encH, zSt]
    refine Rt.gs (Gs_freeze 2 (s' := [(2, .ptr 1 0 0 0)]) (H' := [.dead, .cells 0 14 31 true [s.enc], .dead]) rfl ?_ ?_) (Rt_pure ?_ rfl)
    · refine List.forall_mem_cons.2 ⟨?_, by simp⟩
      simp only [go_sem, seval, z2]
      exact Fz.wk (Wk.refl _)
    · repeat' (first | exact FzL.nil | refine FzL.cons ?_ ?_ | exact Fz.wk (Wk.refl _) | exact Fz.wk (Wk.nil _) | exact Fz.wk (Wk.emp _) | exact Fz.row0 _ _ _ _ | exact FzH.nil _ | exact FzO.refl _ | refine FzO.one ?_ | refine FzH.cons (by decide) ?_ ?_ | refine FzH.this rfl ?_ | exact FzO.dead (by simp) | (simp only [List.forall_mem_cons, List.not_mem_nil, false_implies, implies_true, and_true, go_sem, seval]) | refine And.intro ?_ ?_)
      all_goals first | exact Fz.wk (Wk.refl _) | exact Fz.row 0 _ (by rw [List.drop_zero]; exact List.take_of_length_le (by simp)) (cloE_map fun _ => by rfl)
    · rfl
def c300 : SC := (.seq (.reg [(.box 2 57 (.t 0)), (.mv 4 (.c (.int .i64 0)))]) (.seq (.reg [(.fa 5 (.t 2) 0), (.ld 6 (.t 5) false 1), (.mv 7 (.t 1)), (.call (some 8) (.c (.func 151 [] [])) [(.t 6), (.t 7)]), (.mv 4 (.t 8))]) .ret))
theorem e300 : compC prog f300.ntmps (f300.body.getD .skip) = c300 := by kernel_rfl
def c299L1 : SC := (.seq (.seq (.reg [(.mv 15 (.t 9)), (.mv 16 (.t 10)), (.bin 17 .lss (.t 15) (.t 16))]) (.cond (.t 17) .skip (.exit 0))) (.block 1 (.seq (.reg [(.mv 18 (.t 9)), (.mv 19 (.t 10)), (.bin 20 .add (.t 18) (.t 19)), (.conv 21 .u64 (.t 20)), (.bin 22 .shr (.t 21) (.c (.int .u64 1))), (.conv 23 .i64 (.t 22)), (.mv 11 (.t 23))]) (.seq (.reg [(.mv 24 (.t 2)), (.mv 25 (.t 0)), (.mv 26 (.t 11)), (.ia 27 (.t 25) (.t 26) 6), (.ld 28 (.t 27) true 6), (.mv 29 (.t 1)), (.call (some 30) (.t 24) [(.t 28), (.t 29)]), (.bin 31 .lss (.t 30) (.c (.int .i64 0)))]) (.cond (.t 31) (.reg [(.mv 32 (.t 11)), (.bin 33 .add (.t 32) (.c (.int .i64 1))), (.mv 9 (.t 33))]) (.reg [(.mv 34 (.t 11)), (.mv 10 (.t 34))]))))))
def c299 : SC := (.seq (.reg [(.mv 6 (.c (.int .i64 0))), (.mv 7 (.c (.bool false)))]) (.seq (.reg [(.mv 12 (.t 0)), (.len 13 false (.t 12)), (.mv 8 (.t 13))]) (.seq (.reg [(.mv 14 (.t 8)), (.mv 9 (.c (.int .i64 0))), (.mv 10 (.t 14))]) (.seq (.block 0 (.loop c299L1)) (.seq (.reg [(.mv 35 (.t 9)), (.mv 36 (.t 9)), (.mv 37 (.t 8)), (.bin 38 .lss (.t 36) (.t 37)), (.mv 39 (.t 38)), (.g 39 true (some 40) (.mv 40 (.t 2))), (.g 39 true (some 41) (.mv 41 (.t 0))), (.g 39 true (some 42) (.mv 42 (.t 9))), (.g 39 true (some 43) (.ia 43 (.t 41) (.t 42) 6)), (.g 39 true (some 44) (.ld 44 (.t 43) true 6)), (.g 39 true (some 45) (.mv 45 (.t 1))), (.g 39 true (some 46) (.call (some 46) (.t 40) [(.t 44), (.t 45)])), (.g 39 true (some 47) (.bin 47 .eql (.t 46) (.c (.int .i64 0)))), (.pick 48 (.t 39) (.t 47) (.c (.bool false))), (.mv 6 (.t 35)), (.mv 7 (.t 48))]) .ret)))))
theorem e299 : compC prog f299.ntmps (f299.body.getD .skip) = c299 := by kernel_rfl
def c191 : SC := (.seq (.reg [(.box 2 24 (.t 0)), (.alc 4 57 [(.int .i64 0), (.int .i64 0), (.int .i64 0), (.bool false), (.int .i64 0), (.int .i64 0)]), (.mv 5 (.c (.bool false)))]) (.seq (.seq (.reg [(.ld 8 (.t 2) true 3), (.call (some 9) (.c (.func 80 [] [])) [(.t 8)]), (.bin 10 .neq (.t 9) (.c (.int .i64 0))), (.mv 11 (.t 10)), (.g 11 false (some 12) (.mv 12 (.t 1))), (.g 11 false (some 13) (.bin 13 .lss (.t 12) (.c (.int .i64 0)))), (.pick 14 (.t 11) (.c (.bool true)) (.t 13))]) (.cond (.t 14) (.seq (.reg [(.bld 15 [(.int .i64 0), (.int .i64 0), (.int .i64 0), (.bool false), (.int .i64 0), (.int .i64 0)] []), (.st (.t 4) (.t 15) 6), (.mv 5 (.c (.bool false)))]) .ret) .skip)) (.seq (.regD [(.fa 17 (.t 2) 2), (.ld 18 (.t 17) false 1), (.mv 19 (.t 1)), (.fa 20 (.t 2) 1), (.ld 21 (.t 20) false 1), (.bin 22 .rem (.t 19) (.t 21)), (.call (some 23) (.c (.func 299 [] [])) [(.t 18), (.t 22), (.c (.func 300 [] []))]), (.mv 16 (.t 23)), (.ext 24 (.t 16) 0), (.ext 25 (.t 16) 1), (.mv 6 (.t 24)), (.mv 7 (.t 25))] []) (.seq (.seq (.regD [(.mv 26 (.t 6)), (.fa 27 (.t 2) 2), (.ld 28 (.t 27) false 1), (.len 29 false (.t 28)), (.bin 30 .lss (.t 26) (.t 29)), (.mv 31 (.t 30)), (.g 31 true (some 32) (.fa 32 (.t 2) 2)), (.g 31 true (some 33) (.ld 33 (.t 32) false 1)), (.g 31 true (some 34) (.mv 34 (.t 6))), (.g 31 true (some 35) (.ia 35 (.t 33) (.t 34) 6)), (.g 31 true (some 36) (.fa 36 (.t 35) 0)), (.g 31 true (some 37) (.ld 37 (.t 36) false 1)), (.g 31 true (some 38) (.mv 38 (.t 1))), (.g 31 true (some 39) (.fa 39 (.t 2) 1)), (.g 31 true (some 40) (.ld 40 (.t 39) false 1)), (.g 31 true (some 41) (.bin 41 .rem (.t 38) (.t 40))), (.g 31 true (some 42) (.bin 42 .eql (.t 37) (.t 41))), (.pick 43 (.t 31) (.t 42) (.c (.bool false)))] []) (.cond (.t 43) (.seq (.reg [(.fa 44 (.t 2) 2), (.ld 45 (.t 44) false 1), (.mv 46 (.t 6)), (.ia 47 (.t 45) (.t 46) 6), (.ld 48 (.t 47) true 6), (.st (.t 4) (.t 48) 6), (.mv 5 (.c (.bool true)))]) .ret) .skip)) (.seq (.reg [(.bld 49 [(.int .i64 0), (.int .i64 0), (.int .i64 0), (.bool false), (.int .i64 0), (.int .i64 0)] []), (.st (.t 4) (.t 49) 6), (.mv 5 (.c (.bool false)))]) .ret)))))
theorem e191 : compC prog f191.ntmps (f191.body.getD .skip) = c191 := by kernel_rfl
theorem c300_pf (c : TCell) (n : Int)  : ACalls prog 300 [.agg [.int .i64 c.slot, .int .i64 c.off, .int .i64 c.kind, .bool c.send, .int .i64 c.peer, .int .i64 c.flow], .int .i64 n] [] (.int .i64 (cmp c.slot n)) [] := by
  refine calls_of hmx func300 (by kernel_rfl) (c := f300.body.getD .skip) rfl e300 (rs := [(.t 4)]) (by kernel_rfl) (by simp [ntmps300]) ?_
  simp only [c300, argS]
  simp only [go_sem, seval]
  repeat' first | (refine Rt_pure ?_ rfl; simp only [retO, retO1, retOs, S, get_cons, Nat.reduceEqDiff, reduceIte, obj, getO_cons_zero, getO_cons_succ, List.getElem?_cons_zero, List.getElem?_cons_succ, List.drop_zero, List.drop_succ_cons, loadFrom_cell, loadFrom_agg, List.length_cons, List.length_nil, Nat.reduceAdd, Nat.reduceLeDiff, List.take_succ_cons, List.take_zero, List.take_nil]) | refine CX_pure c151_ok rfl rfl rfl rfl ?_ | refine GX_call (fun _ => c151_ok) (by rfl) (by intro h; simp only [h]; rfl) (by rfl) (by rfl) ?_ | (with_reducible intro h; try simp only [h]) | (with_reducible refine And.intro ?_ ?_) | (change chk _ _ = true; rfl) | simp only [go_sem, seval, Vc_bool] | refine (GX_split rfl).2 ?_
theorem c300_ok {c_slot : Int} {c_off : Int} {c_kind : Int} {c_send : Bool} {c_peer : Int} {c_flow : Int} {n : Int}  : ACalls prog 300 [.agg [.int .i64 c_slot, .int .i64 c_off, .int .i64 c_kind, .bool c_send, .int .i64 c_peer, .int .i64 c_flow], .int .i64 n] [] (.int .i64 (cmp c_slot n)) [] := c300_pf (⟨c_slot, c_off, c_kind, c_send, c_peer, c_flow⟩ : TCell) n 

def cBsL (k : Nat) : SC := (.seq (.seq (.reg [(.mv 15 (.t 9)), (.mv 16 (.t 10)), (.bin 17 .lss (.t 15) (.t 16))]) (.cond (.t 17) .skip (.exit 0))) (.block 1 (.seq (.reg [(.mv 18 (.t 9)), (.mv 19 (.t 10)), (.bin 20 .add (.t 18) (.t 19)), (.conv 21 .u64 (.t 20)), (.bin 22 .shr (.t 21) (.c (.int .u64 1))), (.conv 23 .i64 (.t 22)), (.mv 11 (.t 23))]) (.seq (.reg [(.mv 24 (.t 2)), (.mv 25 (.t 0)), (.mv 26 (.t 11)), (.ia 27 (.t 25) (.t 26) k), (.ld 28 (.t 27) true k), (.mv 29 (.t 1)), (.call (some 30) (.t 24) [(.t 28), (.t 29)]), (.bin 31 .lss (.t 30) (.c (.int .i64 0)))]) (.cond (.t 31) (.reg [(.mv 32 (.t 11)), (.bin 33 .add (.t 32) (.c (.int .i64 1))), (.mv 9 (.t 33))]) (.reg [(.mv 34 (.t 11)), (.mv 10 (.t 34))]))))))
/-- Where a search ends. -/
def bsLo {α : Type} (c : α → Int) (xs : List α) : Nat := (xs.takeWhile fun x => decide (c x < 0)).length
def bsHit {α : Type} (c : α → Int) (xs : List α) : Bool := match xs[bsLo c xs]? with | some x => decide (c x = 0) | none => false
theorem mid_ok {i j : Nat} (h : i + j < 2 ^ 63) : IntKind.i64.wrap ((IntKind.u64.wrap (IntKind.i64.wrap ((i : Int) + (j : Int)))).fdiv (2 ^ min 1 64)) = ((i + j) / 2 : Nat) := by
  have e : (2 ^ min 1 64 : Int) = 2 := rfl
  have e1 : IntKind.i64.wrap ((i : Int) + (j : Int)) = (i : Int) + (j : Int) := wrap_ok (by omega) (by omega)
  have e2 : IntKind.u64.wrap ((i : Int) + (j : Int)) = (i : Int) + (j : Int) := by
    simp only [IntKind.wrap, IntKind.signed, IntKind.bits, Bool.false_and, Bool.false_eq_true, if_false]
    omega
  rw [e1, e2, e, Int.fdiv_eq_ediv_of_nonneg _ (by decide)]
  rw [wrap_ok (by omega) (by omega)]
  omega
section
variable {α : Type} {en : α → List AVal} {k : Nat} {xs : List α} {g : FuncId} {tv : AVal} {c : α → Int}
theorem bs_loop (hlen : xs.length < 2 ^ 62) (hen : ∀ x ∈ xs, (en x).length = k) (hea : ∀ x ∈ xs, ltL 0 (en x) = true) (htv : ltv 0 tv = true)
    (hcl : ∀ x ∈ xs, ACalls prog g [.agg (en x), tv] [] (.int .i64 (c x)) []) (hs : ∀ i x, xs[i]? = some x → (c x < 0 ↔ i < bsLo c xs)) (nt : Nat) (rs : List RS) (r : AVal) (k' : List It)
    (hk : ∀ s, get s 0 = .sl k (xs.map en) → get s 1 = tv → get s 2 = .func g [] [] → get s 8 = .int .i64 xs.length → get s 9 = .int .i64 (bsLo c xs) → V prog nt 0 (Ret rs 0 r []) k' s []) : ∀ (m i j : Nat), j - i ≤ m → i ≤ bsLo c xs → bsLo c xs ≤ j → j ≤ xs.length →
    Lp prog nt 0 (Ret rs 0 r []) (cBsL k) (.blk 0 :: k') [(0, .sl k (xs.map en)), (1, tv), (2, .func g [] []), (8, .int .i64 xs.length), (9, .int .i64 i), (10, .int .i64 j)] [] := by
  intro m
  induction m with
  | zero =>
    intro i j h1 h2 h3 h4
    refine Lp.of_eq hmx (cBsL.eq_1 k) ?_
    have e1 : decide ((i : Int) < (j : Int)) = false := by simp; omega
    simp only [go_sem, seval, e1]
    exact hk _ (by rfl) (by rfl) (by rfl) (by rfl) (by show AVal.int .i64 _ = _; congr 1; omega)
  | succ m ih =>
    intro i j h1 h2 h3 h4
    refine Lp.of_eq hmx (cBsL.eq_1 k) ?_
    rcases Nat.lt_or_ge i j with hij | hij
    · have e1 : decide ((i : Int) < (j : Int)) = true := by simp; omega
      have e2 := mid_ok (i := i) (j := j) (by omega)
      have hm : (i + j) / 2 < xs.length := by omega
      have e3 : (xs.map en)[(i + j) / 2]? = some (en xs[(i + j) / 2]) := by rw [List.getElem?_map, List.getElem?_eq_getElem hm]; rfl
      have hx : xs[(i + j) / 2] ∈ xs := List.getElem_mem hm
      have hek := hen _ hx
      have h5 : loadFrom true k (en xs[(i + j) / 2]) = some (.agg (en xs[(i + j) / 2])) := by simp [loadFrom, ← hek]
      have e4 : IntKind.i64.wrap (((i + j) / 2 : Nat) + (1 : Int)) = (((i + j) / 2 + 1 : Nat) : Int) := by rw [wrap_ok (by omega) (by omega)]; omega
      have hsx := hs ((i + j) / 2) _ (List.getElem?_eq_getElem hm)
      simp only [go_sem, seval, e1, e2, e3, e4, h5, Int.toNat_natCast, Int.natCast_nonneg, List.drop_zero]
      refine CX_pure (hcl _ hx) rfl rfl ?_ rfl ?_
      · simp only [List.nil_append, evs, ltL, ltv, hea _ hx, htv, Bool.and_self]
      · cases hc : decide (c xs[(i + j) / 2] < 0)
        · simp only [go_sem, seval, hc, e4]
          exact Lp.bk0 (ih i ((i + j) / 2) (by omega) h2 (by have : ¬ (c xs[(i + j) / 2] < 0) := of_decide_eq_false hc; rw [hsx] at this; omega) (by omega)) (by rfl)
        · simp only [go_sem, seval, hc, e4]
          exact Lp.bk0 (ih ((i + j) / 2 + 1) j (by omega) (by have : (c xs[(i + j) / 2] < 0) := of_decide_eq_true hc; rw [hsx] at this; omega) h3 h4) (by rfl)
    · have e1 : decide ((i : Int) < (j : Int)) = false := by simp; omega
      simp only [go_sem, seval, e1]
      exact hk _ (by rfl) (by rfl) (by rfl) (by rfl) (by show AVal.int .i64 _ = _; congr 1; omega)
end
theorem bsLo_le {α : Type} {c : α → Int} : ∀ (xs : List α), bsLo c xs ≤ xs.length
  | [] => Nat.le_refl _
  | x :: xs => by
    rw [bsLo, List.takeWhile_cons]
    split
    · have := bsLo_le (c := c) xs
      rw [bsLo] at this
      simp only [List.length_cons]
      omega
    · simp
theorem c299_ok {xs : List TCell} {n : Int} (hlen : xs.length < 2 ^ 62) (hs : ∀ i x, xs[i]? = some x → (cmp x.slot n < 0 ↔ i < bsLo (fun x => cmp x.slot n) xs)) :
    ACalls prog 299 [.sl 6 (xs.map TCell.enc), .int .i64 n, .func 300 [] []] [] (.tup [.int .i64 (bsLo (fun x => cmp x.slot n) xs), .bool (bsHit (fun x => cmp x.slot n) xs)]) [] := by
  refine calls_of hmx func299 (by kernel_rfl) (c := f299.body.getD .skip) rfl e299 (rs := [(.t 6), (.t 7)]) (by kernel_rfl) (by simp [ntmps299]) ?_
  simp only [c299, argS]
  simp only [go_sem, seval, List.length_map]
  refine Lp.bk0 (bs_loop (en := TCell.enc) (k := 6) hlen (fun _ _ => by rfl) (fun _ _ => by rfl) (by rfl) (fun x _ => c300_ok) hs _ _ _ _ (fun s z0 z1 z2 z8 z9 => ?_) xs.length 0 xs.length (by omega) (Nat.zero_le _) (bsLo_le _) (Nat.le_refl _)) (by rfl)
  have hle := bsLo_le (c := fun x => cmp x.slot n) xs
  rcases Nat.lt_or_ge (bsLo (fun x : TCell => cmp x.slot n) xs) xs.length with h | h
  · have e1 : decide (((bsLo (fun x => cmp x.slot n) xs : Nat) : Int) < (xs.length : Int)) = true := by simp; omega
    have e2 : (xs.map TCell.enc)[bsLo (fun x => cmp x.slot n) xs]? = some (TCell.enc xs[bsLo (fun x => cmp x.slot n) xs]) := by rw [List.getElem?_map, List.getElem?_eq_getElem h]; rfl
    have e3 : bsHit (fun x => cmp x.slot n) xs = decide (cmp xs[bsLo (fun x => cmp x.slot n) xs].slot n = 0) := by rw [bsHit, List.getElem?_eq_getElem h]
    rw [e3]
    simp only [go_sem, seval, z0, z1, z2, z8, z9, e1, e2, Int.toNat_natCast, Int.natCast_nonneg]
    refine CX_pure c300_ok rfl rfl rfl rfl ?_
    simp only [go_sem, seval]
    (refine Rt_pure ?_ rfl; simp only [retO, retO1, retOs, S, get_cons, Nat.reduceEqDiff, reduceIte, obj, getO_cons_zero, getO_cons_succ, List.getElem?_cons_zero, List.getElem?_cons_succ, List.drop_zero, List.drop_succ_cons, loadFrom_cell, loadFrom_agg, List.length_cons, List.length_nil, Nat.reduceAdd, Nat.reduceLeDiff, List.take_succ_cons, List.take_zero, List.take_nil])
  · have e1 : decide (((bsLo (fun x => cmp x.slot n) xs : Nat) : Int) < (xs.length : Int)) = false := by simp; omega
    have e3 : bsHit (fun x => cmp x.slot n) xs = false := by rw [bsHit, List.getElem?_eq_none h]
    rw [e3]
    simp only [go_sem, seval, z0, z1, z2, z8, z9, e1]
    (refine Rt_pure ?_ rfl; simp only [retO, retO1, retOs, S, get_cons, Nat.reduceEqDiff, reduceIte, obj, getO_cons_zero, getO_cons_succ, List.getElem?_cons_zero, List.getElem?_cons_succ, List.drop_zero, List.drop_succ_cons, loadFrom_cell, loadFrom_agg, List.length_cons, List.length_nil, Nat.reduceAdd, Nat.reduceLeDiff, List.take_succ_cons, List.take_zero, List.take_nil])

theorem cmp_lt (a n : Int) : cmp a n < 0 ↔ a < n := by grind [cmp]
theorem cmp_eq (a n : Int) : cmp a n = 0 ↔ a = n := by grind [cmp]
theorem bs_srt {α : Type} {f : α → Int} {n : Int} : ∀ {xs : List α}, xs.Pairwise (fun a b => f a ≤ f b) → ∀ i x, xs[i]? = some x → (cmp (f x) n < 0 ↔ i < bsLo (fun x => cmp (f x) n) xs)
  | [], _, i, x, h => by simp at h
  | y :: ys, hp, i, x, h => by
    have hl := (List.pairwise_cons.1 hp).1
    have ih := bs_srt (n := n) (List.pairwise_cons.1 hp).2
    rw [bsLo, List.takeWhile_cons]
    cases i with
    | zero =>
      simp only [List.getElem?_cons_zero, Option.some.injEq] at h
      subst h
      by_cases c : cmp (f y) n < 0 <;> simp [c]
    | succ i =>
      rw [List.getElem?_cons_succ] at h
      have h1 := ih i x h
      by_cases c : cmp (f y) n < 0
      · rw [if_pos (decide_eq_true c), List.length_cons, h1, bsLo]; omega
      · have h2 := hl x (List.mem_of_getElem? h)
        rw [cmp_lt] at c
        rw [if_neg (by simp [cmp_lt]; omega), cmp_lt]
        simp
        omega
theorem bs_find {α : Type} {f : α → Int} {n : Int} : ∀ {xs : List α}, xs.Pairwise (fun a b => f a ≤ f b) → xs.find? (fun x => decide (f x = n)) = match xs[bsLo (fun x => cmp (f x) n) xs]? with | some x => if f x = n then some x else none | none => none
  | [], _ => rfl
  | y :: ys, hp => by
    have hl := (List.pairwise_cons.1 hp).1
    have ih := bs_find (n := n) (List.pairwise_cons.1 hp).2
    by_cases c : f y < n
    · have e : bsLo (fun x => cmp (f x) n) (y :: ys) = bsLo (fun x => cmp (f x) n) ys + 1 := by rw [bsLo, List.takeWhile_cons, if_pos (by simpa [cmp_lt] using c)]; rfl
      rw [e, List.find?_cons_of_neg (by simp; omega), List.getElem?_cons_succ]
      exact ih
    · have e : bsLo (fun x => cmp (f x) n) (y :: ys) = 0 := by rw [bsLo, List.takeWhile_cons, if_neg (by simpa [cmp_lt] using c)]; rfl
      rw [e, List.getElem?_cons_zero]
      by_cases c2 : f y = n
      · rw [List.find?_cons_of_pos (by simpa using c2)]; simp [c2]
      · rw [List.find?_cons_of_neg (by simpa using c2)]
        simp only [c2, if_false]
        exact List.find?_eq_none.2 fun x hx => by have := hl x hx; simp; omega
theorem chainE_srt {α : Type} {err : α → Int} {lt : α → α → Bool} {e : Int} {f : α → Int} (he : e ≠ 0) (hlt : ∀ a b, lt a b = true → f a ≤ f b) : ∀ (xs : List α) (p : Option α), chainE err lt e p xs = 0 → xs.Pairwise (fun a b => f a ≤ f b) ∧ ∀ q, p = some q → ∀ x ∈ xs, f q ≤ f x
  | [], p, _ => ⟨.nil, by simp⟩
  | x :: xs, none, h => by
    simp only [chainE, Bool.false_eq_true, if_false] at h
    split at h
    · rename_i h1; exact absurd h h1
    · obtain ⟨i1, i2⟩ := chainE_srt he hlt xs (some x) h
      exact ⟨List.pairwise_cons.2 ⟨fun y hy => i2 x rfl y hy, i1⟩, by simp⟩
  | x :: xs, some p, h => by
    simp only [chainE] at h
    split at h
    · rename_i h1; exact absurd h h1
    · split at h
      · exact absurd h he
      · rename_i h2
        obtain ⟨i1, i2⟩ := chainE_srt he hlt xs (some x) h
        refine ⟨List.pairwise_cons.2 ⟨fun y hy => i2 x rfl y hy, i1⟩, fun q hq y hy => ?_⟩
        cases hq
        have h3 : f p ≤ f x := hlt p x (by simpa using h2)
        rcases List.mem_cons.1 hy with rfl | hy
        · exact h3
        · exact Int.le_trans h3 (i2 x rfl y hy)
theorem tab_srt {t : Table} (h : tabErr t = 0) : t.cells.Pairwise (fun a b => a.slot ≤ b.slot) := by
  unfold tabErr at h
  split at h
  · cases h
  · split at h
    · cases h
    · exact (chainE_srt (by decide) (fun a b h => by simp only [cellLess, Bool.or_eq_true, Bool.and_eq_true, decide_eq_true_eq] at h; omega) _ _ h).1
/-- A cell and whether there is one. -/
def oCell (o : Option TCell) : AVal := match o with | some c => .tup [.agg c.enc, .bool true] | none => .tup [.agg TCell.zero.enc, .bool false]
theorem tab_len {t : Table} (h : tabErr t = 0) : 1 ≤ t.len := by
  unfold tabErr at h
  split at h
  · cases h
  · rename_i h1
    simp only [Bool.or_eq_true, decide_eq_true_eq, not_or] at h1
    omega
theorem find_at {α : Type} {f : α → Int} {n : Int} {xs : List α} (hp : xs.Pairwise (fun a b => f a ≤ f b)) : (∀ (h : bsLo (fun x => cmp (f x) n) xs < xs.length), xs.find? (fun x => decide (f x = n)) = if f (xs[bsLo (fun x => cmp (f x) n) xs]'h) = n then some (xs[bsLo (fun x => cmp (f x) n) xs]'h) else none) ∧ (xs.length ≤ bsLo (fun x => cmp (f x) n) xs → xs.find? (fun x => decide (f x = n)) = none) := by
  refine ⟨fun h => ?_, fun h => ?_⟩
  · rw [bs_find hp, List.getElem?_eq_getElem h]
  · rw [bs_find hp, List.getElem?_eq_none h]
theorem c191_pf (t : Table) (slot : Int) (hL : t.cells.length < 2 ^ 62) : ACalls prog 191 [.agg [.int .i64 t.node, .int .i64 t.len, .sl 6 (t.cells.map TCell.enc)], .int .i64 slot] [] (oCell (tabAt t slot)) [] := by
  refine calls_of hmx func191 (by kernel_rfl) (c := f191.body.getD .skip) rfl e191 (rs := [(.cell 4 true 6), (.t 5)]) (by kernel_rfl) (by simp [ntmps191]) ?_
  simp only [c191, argS]
  simp only [go_sem, seval]
  repeat' first | refine CX_pure (c80_ok hL) rfl rfl rfl rfl ?_ | refine GX_call (fun _ => (c80_ok hL)) (by rfl) (by intro h; simp only [h]; rfl) (by rfl) (by rfl) ?_ | (with_reducible intro h; try simp only [h]) | (with_reducible refine And.intro ?_ ?_) | (change chk _ _ = true; rfl) | simp only [go_sem, seval, Vc_bool] | refine (GX_split rfl).2 ?_
  · have e : tabAt t slot = none := by
      rw [tabAt, if_pos]
      simpa using h
    rw [e]
    (refine Rt_pure ?_ rfl; simp only [retO, retO1, retOs, S, get_cons, Nat.reduceEqDiff, reduceIte, obj, getO_cons_zero, getO_cons_succ, List.getElem?_cons_zero, List.getElem?_cons_succ, List.drop_zero, List.drop_succ_cons, loadFrom_cell, loadFrom_agg, List.length_cons, List.length_nil, Nat.reduceAdd, Nat.reduceLeDiff, List.take_succ_cons, List.take_zero, List.take_nil])
    rfl
  · simp only [Bool.or_eq_false_iff, Bool.not_eq_false', decide_eq_true_eq] at h
    have := tab_len h.1
    omega
  · simp only [Bool.or_eq_false_iff, Bool.not_eq_false', decide_eq_true_eq, decide_eq_false_iff_not] at h
    have hs := tab_srt h.1
    have e : tabAt t slot = t.cells.find? fun c => decide (c.slot = slot.tmod t.len) := by
      rw [tabAt, if_neg]
      simp [h.1]; omega
    obtain ⟨f1, f2⟩ := find_at (n := slot.tmod t.len) hs
    rw [← e] at f1 f2
    refine CX_pure (c299_ok hL (bs_srt hs)) rfl rfl rfl rfl ?_
    clear e
    have hlen := tab_len h.1
    generalize hnn : slot.tmod t.len = nn at *
    rcases Nat.lt_or_ge (bsLo (fun x : TCell => cmp x.slot nn) t.cells) t.cells.length with hl | hl
    · have e1 : decide (((bsLo (fun x : TCell => cmp x.slot nn) t.cells : Nat) : Int) < (t.cells.length : Int)) = true := by simp; omega
      have e2 : (t.cells.map TCell.enc)[bsLo (fun x : TCell => cmp x.slot nn) t.cells]? = some (TCell.enc t.cells[bsLo (fun x : TCell => cmp x.slot nn) t.cells]) := by rw [List.getElem?_map, List.getElem?_eq_getElem hl]; rfl
      rw [f1 hl]
      generalize t.cells[bsLo (fun x : TCell => cmp x.slot nn) t.cells] = c at *
      repeat' first | (with_reducible intro h; try simp only [h]) | (with_reducible refine And.intro ?_ ?_) | (change chk _ _ = true; rfl) | simp only [go_sem, seval, Vc_bool, List.length_map, e1, e2, Int.toNat_natCast, Int.natCast_nonneg, hnn] | refine (GX_split rfl).2 ?_
      · omega
      · rw [if_pos (of_decide_eq_true h)]
        (refine Rt_pure ?_ rfl; simp only [retO, retO1, retOs, S, get_cons, Nat.reduceEqDiff, reduceIte, obj, getO_cons_zero, getO_cons_succ, List.getElem?_cons_zero, List.getElem?_cons_succ, List.drop_zero, List.drop_succ_cons, loadFrom_cell, loadFrom_agg, List.length_cons, List.length_nil, Nat.reduceAdd, Nat.reduceLeDiff, List.take_succ_cons, List.take_zero, List.take_nil])
        rfl
      · rw [if_neg (of_decide_eq_false h)]
        (refine Rt_pure ?_ rfl; simp only [retO, retO1, retOs, S, get_cons, Nat.reduceEqDiff, reduceIte, obj, getO_cons_zero, getO_cons_succ, List.getElem?_cons_zero, List.getElem?_cons_succ, List.drop_zero, List.drop_succ_cons, loadFrom_cell, loadFrom_agg, List.length_cons, List.length_nil, Nat.reduceAdd, Nat.reduceLeDiff, List.take_succ_cons, List.take_zero, List.take_nil])
        rfl
    · have e1 : decide (((bsLo (fun x : TCell => cmp x.slot nn) t.cells : Nat) : Int) < (t.cells.length : Int)) = false := by simp; omega
      rw [f2 hl]
      repeat' first | (refine Rt_pure ?_ rfl; simp only [retO, retO1, retOs, S, get_cons, Nat.reduceEqDiff, reduceIte, obj, getO_cons_zero, getO_cons_succ, List.getElem?_cons_zero, List.getElem?_cons_succ, List.drop_zero, List.drop_succ_cons, loadFrom_cell, loadFrom_agg, List.length_cons, List.length_nil, Nat.reduceAdd, Nat.reduceLeDiff, List.take_succ_cons, List.take_zero, List.take_nil]) | (with_reducible intro h; try simp only [h]) | (with_reducible refine And.intro ?_ ?_) | (change chk _ _ = true; rfl) | simp only [go_sem, seval, Vc_bool, List.length_map, e1] | refine (GX_split rfl).2 ?_
      rfl
theorem c191_ok {t_node : Int} {t_len : Int} {t_cells : List TCell} {slot : Int} (hL : t_cells.length < 2 ^ 62) : ACalls prog 191 [.agg [.int .i64 t_node, .int .i64 t_len, .sl 6 (t_cells.map TCell.enc)], .int .i64 slot] [] (oCell (tabAt (⟨t_node, t_len, t_cells⟩ : Table) slot)) [] := c191_pf (⟨t_node, t_len, t_cells⟩ : Table) slot hL


def c96 : SC := (.seq (.reg [(.box 2 31 (.t 0)), (.mv 4 (.c .nptr)), (.mv 5 (.c (.int .i64 0)))]) (.seq (.seq (.reg [(.ld 7 (.t 2) true 14), (.call (some 8) (.c (.func 22 [] [])) [(.t 7)]), (.bin 9 .neq (.t 8) (.c (.int .i64 0)))]) (.cond (.t 9) (.seq (.reg [(.mv 4 (.c .nptr)), (.mv 5 (.c (.int .i64 1)))]) .ret) .skip)) (.seq (.seq (.reg [(.mv 10 (.t 1)), (.call (some 11) (.c (.func 81 [] [])) [(.t 10), (.c (.int .i64 109951162))]), (.not 12 (.t 11))]) (.cond (.t 12) (.seq (.reg [(.mv 4 (.c .nptr)), (.mv 5 (.c (.int .i64 2)))]) .ret) .skip)) (.seq (.reg [(.ld 13 (.t 2) true 14), (.call (some 14) (.c (.func 152 [] [])) [(.t 13)]), (.mv 15 (.t 1)), (.bld 16 [(.int .i64 0), (.int .i64 0), .nil, (.int .i64 0), .nil, .nil, .nil, (.int .i64 0), (.int .i64 0), (.int .i64 0), (.int .i64 0), (.int .i64 0), (.int .i64 0), (.int .i64 0), (.int .i64 0), (.int .i64 0), (.int .i64 0), (.int .i64 0), (.bool false), (.int .i64 0), (.int .i64 0)] [(0, 14, (.t 14)), (14, 1, (.t 15))]), (.box 17 176 (.t 16)), (.mv 6 (.t 17))]) (.seq (.reg [(.mv 19 (.t 6)), (.fa 20 (.t 2) 0), (.ld 21 (.t 20) true 3), (.mv 22 (.t 1)), (.call (some 23) (.c (.func 191 [] [])) [(.t 21), (.t 22)]), (.mv 18 (.t 23)), (.ext 24 (.t 18) 0), (.ext 25 (.t 18) 1), (.nck 26 (.t 19)), (.fa 27 (.t 26) 15), (.st (.t 27) (.t 24) 6)]) (.seq (.reg [(.mv 28 (.t 6)), (.mv 4 (.t 28)), (.mv 5 (.c (.int .i64 0)))]) .ret))))))
theorem e96 : compC prog f96.ntmps (f96.body.getD .skip) = c96 := by kernel_rfl
/-- A station at work: the slot, and the cell in force. -/
def wEnc (s : Station) (slot : Int) (c : TCell) : List AVal := [.int .i64 s.tab.node, .int .i64 s.tab.len, .sl 6 (s.tab.cells.map TCell.enc), .int .i64 s.q.limit, .sl 6 (s.q.pk.map Packet.enc), .sl 5 (s.held.map Held.enc), .sl 2 (s.seen.map Seen.enc), .int .i64 s.list, .int .i64 s.seq, .int .i64 s.trying, .int .i64 s.tries, .int .i64 s.back, .int .i64 s.wait, .int .i64 s.seed, .int .i64 slot, .int .i64 c.slot, .int .i64 c.off, .int .i64 c.kind, .bool c.send, .int .i64 c.peer, .int .i64 c.flow]
attribute [go_sem] wEnc
theorem ClBd.st {s : Station} (h : ClBd s) : StBd s := by
  obtain ⟨b1, b2, b3, b4, b5⟩ := h
  exact ⟨by omega, by omega, by omega, fun h hh => by have := b5 h hh; omega, by omega⟩
def cellAt (s : Station) (slot : Int) : TCell := (tabAt s.tab slot).getD TCell.zero
theorem oCell_eq (o : Option TCell) : oCell o = .tup [.agg (o.getD TCell.zero).enc, .bool o.isSome] := by cases o <;> rfl
theorem c191_at {s : Station} {slot : Int} (hL : s.tab.cells.length < 2 ^ 62) : ACalls prog 191 [.agg s.tab.enc, .int .i64 slot] [] (.tup [.agg (cellAt s slot).enc, .bool (tabAt s.tab slot).isSome]) [] := by
  have h := c191_ok (t_node := s.tab.node) (t_len := s.tab.len) (t_cells := s.tab.cells) (slot := slot) hL
  rw [oCell_eq] at h
  exact h
theorem c96_err {s : Station} {slot : Int} (hB : ClBd s) (hE : slotErr s slot ≠ 0) : ACalls prog 96 [.agg s.enc, .int .i64 slot] [] (.tup [.nptr, .int .i64 (slotErr s slot)]) [] := by
  refine calls_of hmx func96 (by kernel_rfl) (c := f96.body.getD .skip) rfl e96 (rs := [(.t 4), (.t 5)]) (by kernel_rfl) (by simp [ntmps96]) ?_
  simp only [c96, argS]
  simp only [go_sem, seval]
  repeat' first | refine CX_pure (c22_pf s hB.st) rfl rfl rfl rfl ?_ | refine CX_pure c81_ok rfl rfl rfl rfl ?_ | refine GX_call (fun _ => (c22_pf s hB.st)) (by rfl) (by intro h; simp only [h]; rfl) (by rfl) (by rfl) ?_ | refine GX_call (fun _ => c81_ok) (by rfl) (by intro h; simp only [h]; rfl) (by rfl) (by rfl) ?_ | (with_reducible intro h; try simp only [h]) | (with_reducible refine And.intro ?_ ?_) | (change chk _ _ = true; rfl) | simp only [go_sem, seval, Vc_bool] | refine (GX_split rfl).2 ?_
  · have e : slotErr s slot = 1 := by grind [slotErr, stErr]
    rw [e]
    (refine Rt_pure ?_ rfl; simp only [retO, retO1, retOs, S, get_cons, Nat.reduceEqDiff, reduceIte, obj, getO_cons_zero, getO_cons_succ, List.getElem?_cons_zero, List.getElem?_cons_succ, List.drop_zero, List.drop_succ_cons, loadFrom_cell, loadFrom_agg, List.length_cons, List.length_nil, Nat.reduceAdd, Nat.reduceLeDiff, List.take_succ_cons, List.take_zero, List.take_nil])
  · have e : slotErr s slot = 2 := by grind [slotErr, stErr, wi]
    rw [e]
    (refine Rt_pure ?_ rfl; simp only [retO, retO1, retOs, S, get_cons, Nat.reduceEqDiff, reduceIte, obj, getO_cons_zero, getO_cons_succ, List.getElem?_cons_zero, List.getElem?_cons_succ, List.drop_zero, List.drop_succ_cons, loadFrom_cell, loadFrom_agg, List.length_cons, List.length_nil, Nat.reduceAdd, Nat.reduceLeDiff, List.take_succ_cons, List.take_zero, List.take_nil])
  · exact absurd (by grind [slotErr, stErr, wi]) hE
theorem c96_ok {s : Station} {slot : Int} (hB : ClBd s) (hE : slotErr s slot = 0) : ACalls prog 96 [.agg s.enc, .int .i64 slot] [] (.tup [.ptr 0 0 0 0, .int .i64 0]) [.cells 0 21 176 true [wEnc s slot (cellAt s slot)]] := by
  refine calls_of hmx func96 (by kernel_rfl) (c := f96.body.getD .skip) rfl e96 (rs := [(.t 4), (.t 5)]) (by kernel_rfl) (by simp [ntmps96]) ?_
  simp only [c96, argS]
  simp only [go_sem, seval]
  repeat' first | refine CX_pure (c22_pf s hB.st) rfl rfl rfl rfl ?_ | refine CX_pure c81_ok rfl rfl rfl rfl ?_ | refine CX_pure (c152_pf s hB) rfl rfl rfl rfl ?_ | refine CX_pure (c191_at hB.st.1) rfl rfl rfl rfl ?_ | refine GX_call (fun _ => (c22_pf s hB.st)) (by rfl) (by intro h; simp only [h]; rfl) (by rfl) (by rfl) ?_ | refine GX_call (fun _ => c81_ok) (by rfl) (by intro h; simp only [h]; rfl) (by rfl) (by rfl) ?_ | refine GX_call (fun _ => (c152_pf s hB)) (by rfl) (by intro h; simp only [h]; rfl) (by rfl) (by rfl) ?_ | refine GX_call (fun _ => (c191_at hB.st.1)) (by rfl) (by intro h; simp only [h]; rfl) (by rfl) (by rfl) ?_ | (with_reducible intro h; try simp only [h]) | (with_reducible refine And.intro ?_ ?_) | (change chk _ _ = true; rfl) | simp only [go_sem, seval, Vc_bool] | refine (GX_split rfl).2 ?_
  · exact absurd hE (by grind [slotErr, stErr])
  · exact absurd hE (by grind [slotErr, stErr, wi])
  · refine Rt_sel [1] (r0 := .tup [.ptr 1 0 0 0, .int .i64 0]) ?_ (by rfl) rfl (by rfl) rfl (by decide) ?_ (Nat.zero_le _) rfl
    · simp only [retO, retO1, retOs, S, get_cons, Nat.reduceEqDiff, reduceIte, obj, getO_cons_zero, getO_cons_succ, List.getElem?_cons_zero, List.getElem?_cons_succ, List.drop_zero, List.drop_succ_cons, loadFrom_cell, loadFrom_agg, List.length_cons, List.length_nil, Nat.reduceAdd, Nat.reduceLeDiff, List.take_succ_cons, List.take_zero, List.take_nil]
    · rfl

def c301 : SC := (.seq (.reg [(.box 2 27 (.t 0)), (.alc 4 104 [(.int .i64 0), (.int .i64 0), (.int .i64 0), (.int .i64 0), (.int .i64 0), (.str (ByteArray.mk #[]))]), (.mv 5 (.c (.bool false)))]) (.seq (.seq (.reg [(.ld 7 (.t 2) true 2), (.call (some 8) (.c (.func 188 [] [])) [(.t 7)]), (.bin 9 .neq (.t 8) (.c (.int .i64 0)))]) (.cond (.t 9) (.seq (.reg [(.bld 10 [(.int .i64 0), (.int .i64 0), (.int .i64 0), (.int .i64 0), (.int .i64 0), (.str (ByteArray.mk #[]))] []), (.st (.t 4) (.t 10) 6), (.mv 5 (.c (.bool false)))]) .ret) .skip)) (.seq (.seq (.reg [(.fa 11 (.t 2) 1), (.ld 12 (.t 11) false 1), (.mv 13 (.t 1)), (.call (some 14) (.c (.func 365 [] [])) [(.t 12), (.t 13)]), (.mv 6 (.t 14))]) (.seq (.reg [(.mv 15 (.t 6)), (.bin 16 .geq (.t 15) (.c (.int .i64 0)))]) (.cond (.t 16) (.seq (.reg [(.fa 17 (.t 2) 1), (.ld 18 (.t 17) false 1), (.mv 19 (.t 6)), (.ia 20 (.t 18) (.t 19) 6), (.ld 21 (.t 20) true 6), (.st (.t 4) (.t 21) 6), (.mv 5 (.c (.bool true)))]) .ret) .skip))) (.seq (.reg [(.bld 22 [(.int .i64 0), (.int .i64 0), (.int .i64 0), (.int .i64 0), (.int .i64 0), (.str (ByteArray.mk #[]))] []), (.st (.t 4) (.t 22) 6), (.mv 5 (.c (.bool false)))]) .ret))))
theorem e301 : compC prog f301.ntmps (f301.body.getD .skip) = c301 := by kernel_rfl
def c302 : SC := (.seq (.reg [(.box 3 104 (.t 1)), (.alc 4 43 [(.int .i64 0), (.int .i64 0), (.int .i64 0), (.int .i64 0), (.int .i64 0), (.int .i64 0), (.int .i64 0), (.int .i64 0), (.int .i64 0), (.int .i64 0), (.int .i64 0), (.int .i64 0), (.int .i64 0), (.str (ByteArray.mk #[]))])]) (.seq (.regD [(.mv 5 (.t 0)), (.nck 6 (.t 5)), (.fa 7 (.t 6) 0), (.fa 8 (.t 7) 0), (.fa 9 (.t 8) 0), (.ld 10 (.t 9) false 1), (.fa 11 (.t 3) 1), (.ld 12 (.t 11) false 1), (.mv 13 (.t 0)), (.nck 14 (.t 13)), (.fa 15 (.t 14) 0), (.fa 16 (.t 15) 7), (.ld 17 (.t 16) false 1), (.mv 18 (.t 0)), (.nck 19 (.t 18)), (.fa 20 (.t 19) 0), (.fa 21 (.t 20) 8), (.ld 22 (.t 21) false 1), (.fa 23 (.t 3) 5), (.ld 24 (.t 23) false 1), (.bld 25 [(.int .i64 0), (.int .i64 0), (.int .i64 0), (.int .i64 0), (.int .i64 0), (.int .i64 0), (.int .i64 0), (.int .i64 0), (.int .i64 0), (.int .i64 0), (.int .i64 0), (.str (ByteArray.mk #[]))] [(0, 1, (.c (.int .i64 4))), (1, 1, (.t 10)), (2, 1, (.t 12)), (3, 1, (.t 17)), (4, 1, (.t 22)), (11, 1, (.t 24))]), (.bld 26 [(.int .i64 0), (.int .i64 0), (.int .i64 0), (.int .i64 0), (.int .i64 0), (.int .i64 0), (.int .i64 0), (.int .i64 0), (.int .i64 0), (.int .i64 0), (.int .i64 0), (.int .i64 0), (.int .i64 0), (.str (ByteArray.mk #[]))] [(0, 1, (.c (.int .i64 1))), (2, 12, (.t 25))]), (.st (.t 4) (.t 26) 14)] []) .ret))
theorem e302 : compC prog f302.ntmps (f302.body.getD .skip) = c302 := by kernel_rfl
def c193 : SC := (.seq (.reg [(.alc 2 43 [(.int .i64 0), (.int .i64 0), (.int .i64 0), (.int .i64 0), (.int .i64 0), (.int .i64 0), (.int .i64 0), (.int .i64 0), (.int .i64 0), (.int .i64 0), (.int .i64 0), (.int .i64 0), (.int .i64 0), (.str (ByteArray.mk #[]))])]) (.seq (.seq (.reg [(.mv 5 (.t 0)), (.nck 6 (.t 5)), (.fa 7 (.t 6) 15), (.fa 8 (.t 7) 3), (.ld 9 (.t 8) false 1), (.not 10 (.t 9))]) (.cond (.t 10) (.seq (.reg [(.bld 11 [(.int .i64 0), (.int .i64 0), (.int .i64 0), (.int .i64 0), (.int .i64 0), (.int .i64 0), (.int .i64 0), (.int .i64 0), (.int .i64 0), (.int .i64 0), (.int .i64 0), (.int .i64 0), (.int .i64 0), (.str (ByteArray.mk #[]))] [(0, 1, (.c (.int .i64 2)))]), (.st (.t 2) (.t 11) 14)]) .ret) .skip)) (.seq (.seq (.regD [(.mv 13 (.t 0)), (.nck 14 (.t 13)), (.fa 15 (.t 14) 0), (.fa 16 (.t 15) 3), (.ld 17 (.t 16) true 2), (.mv 18 (.t 0)), (.nck 19 (.t 18)), (.fa 20 (.t 19) 15), (.fa 21 (.t 20) 4), (.ld 22 (.t 21) false 1), (.call (some 23) (.c (.func 301 [] [])) [(.t 17), (.t 22)]), (.mv 12 (.t 23)), (.ext 24 (.t 12) 0), (.ext 25 (.t 12) 1), (.alc 3 104 [(.int .i64 0), (.int .i64 0), (.int .i64 0), (.int .i64 0), (.int .i64 0), (.str (ByteArray.mk #[]))]), (.st (.t 3) (.t 24) 6), (.mv 4 (.t 25))] [(4, 14), (9, 14), (10, 14)]) (.seq (.reg [(.mv 26 (.t 4))]) (.cond (.t 26) (.seq (.reg [(.mv 27 (.t 0)), (.ld 28 (.t 3) true 6), (.call (some 29) (.c (.func 302 [] [])) [(.t 27), (.t 28)]), (.st (.t 2) (.t 29) 14)]) .ret) .skip))) (.seq (.reg [(.bld 30 [(.int .i64 0), (.int .i64 0), (.int .i64 0), (.int .i64 0), (.int .i64 0), (.int .i64 0), (.int .i64 0), (.int .i64 0), (.int .i64 0), (.int .i64 0), (.int .i64 0), (.int .i64 0), (.int .i64 0), (.str (ByteArray.mk #[]))] []), (.st (.t 2) (.t 30) 14)]) .ret))))
theorem e193 : compC prog f193.ntmps (f193.body.getD .skip) = c193 := by kernel_rfl
/-- A packet and whether there is one. -/
def oPk (o : Option Packet) : AVal := .tup [.agg (o.getD Packet.zero).enc, .bool o.isSome]
theorem oPk_some {p : Packet} : oPk (some p) = .tup [.agg p.enc, .bool true] := rfl
theorem oPk_none : oPk none = .tup [.agg Packet.zero.enc, .bool false] := rfl
attribute [go_sem] oPk_some oPk_none
theorem c301_pf (q : Queue) (to : Int) (hL : q.pk.length < 2 ^ 62) : ACalls prog 301 [.agg [.int .i64 q.limit, .sl 6 (q.pk.map Packet.enc)], .int .i64 to] [] (oPk (qFirst q to)) [] := by
  refine calls_of hmx func301 (by kernel_rfl) (c := f301.body.getD .skip) rfl e301 (rs := [(.cell 4 true 6), (.t 5)]) (by kernel_rfl) (by simp [ntmps301]) ?_
  simp only [c301, argS]
  have e0 : qErr q ≠ 0 → qFirst q to = none := fun h => by rw [qFirst, if_pos h]
  have e1 : qErr q = 0 → qFirst q to = q.pk.find? fun p => decide (p.to = to) := fun h => by rw [qFirst, if_neg (by simpa using h)]
  rcases idxFrom_find (fun p : Packet => decide (p.to = to)) q.pk with ⟨h1, h2⟩ | ⟨i, x, h1, h2, h3, h4, h5⟩
  · simp only [go_sem, seval]
    repeat' first | refine CX_pure (c188_ok hL) rfl rfl rfl rfl ?_ | refine CX_pure (c365_ok hL) rfl rfl rfl rfl ?_ | refine GX_call (fun _ => (c188_ok hL)) (by rfl) (by intro h; simp only [h]; rfl) (by rfl) (by rfl) ?_ | refine GX_call (fun _ => (c365_ok hL)) (by rfl) (by intro h; simp only [h]; rfl) (by rfl) (by rfl) ?_ | (with_reducible intro h; try simp only [h]) | (with_reducible refine And.intro ?_ ?_) | (change chk _ _ = true; rfl) | simp only [go_sem, seval, Vc_bool, h1] | refine (GX_split rfl).2 ?_
    · rw [e0 (by simpa using h)]
      (refine Rt_pure ?_ rfl; simp only [retO, retO1, retOs, S, get_cons, Nat.reduceEqDiff, reduceIte, obj, getO_cons_zero, getO_cons_succ, List.getElem?_cons_zero, List.getElem?_cons_succ, List.drop_zero, List.drop_succ_cons, loadFrom_cell, loadFrom_agg, List.length_cons, List.length_nil, Nat.reduceAdd, Nat.reduceLeDiff, List.take_succ_cons, List.take_zero, List.take_nil])
      rfl
    · rw [e1 (by simpa using h), h2]
      (refine Rt_pure ?_ rfl; simp only [retO, retO1, retOs, S, get_cons, Nat.reduceEqDiff, reduceIte, obj, getO_cons_zero, getO_cons_succ, List.getElem?_cons_zero, List.getElem?_cons_succ, List.drop_zero, List.drop_succ_cons, loadFrom_cell, loadFrom_agg, List.length_cons, List.length_nil, Nat.reduceAdd, Nat.reduceLeDiff, List.take_succ_cons, List.take_zero, List.take_nil])
      rfl
  · have e2 : (q.pk.map Packet.enc)[i]? = some x.enc := by rw [List.getElem?_map, h1]; rfl
    have e3 : decide ((0 : Int) ≤ (i : Int)) = true := by simp
    simp only [go_sem, seval]
    repeat' first | refine CX_pure (c188_ok hL) rfl rfl rfl rfl ?_ | refine CX_pure (c365_ok hL) rfl rfl rfl rfl ?_ | refine GX_call (fun _ => (c188_ok hL)) (by rfl) (by intro h; simp only [h]; rfl) (by rfl) (by rfl) ?_ | refine GX_call (fun _ => (c365_ok hL)) (by rfl) (by intro h; simp only [h]; rfl) (by rfl) (by rfl) ?_ | (with_reducible intro h; try simp only [h]) | (with_reducible refine And.intro ?_ ?_) | (change chk _ _ = true; rfl) | simp only [go_sem, seval, Vc_bool, h3, e2, e3, Int.toNat_natCast, Int.natCast_nonneg] | refine (GX_split rfl).2 ?_
    · rw [e0 (by simpa using h)]
      (refine Rt_pure ?_ rfl; simp only [retO, retO1, retOs, S, get_cons, Nat.reduceEqDiff, reduceIte, obj, getO_cons_zero, getO_cons_succ, List.getElem?_cons_zero, List.getElem?_cons_succ, List.drop_zero, List.drop_succ_cons, loadFrom_cell, loadFrom_agg, List.length_cons, List.length_nil, Nat.reduceAdd, Nat.reduceLeDiff, List.take_succ_cons, List.take_zero, List.take_nil])
      rfl
    · rw [e1 (by simpa using h), h4]
      (refine Rt_pure ?_ rfl; simp only [retO, retO1, retOs, S, get_cons, Nat.reduceEqDiff, reduceIte, obj, getO_cons_zero, getO_cons_succ, List.getElem?_cons_zero, List.getElem?_cons_succ, List.drop_zero, List.drop_succ_cons, loadFrom_cell, loadFrom_agg, List.length_cons, List.length_nil, Nat.reduceAdd, Nat.reduceLeDiff, List.take_succ_cons, List.take_zero, List.take_nil])
      rfl
theorem c302_ok {s : Station} {slot : Int} {c : TCell} {p : Packet} : ACalls prog 302 [.ptr 0 0 0 0, .agg p.enc] [.cells 0 21 176 true [wEnc s slot c]] (.agg (Action.enc ⟨1, 0, msgOf s p⟩)) [.cells 0 21 176 true [wEnc s slot c]] := by
  refine calls_of hmx func302 (by kernel_rfl) (c := f302.body.getD .skip) rfl e302 (rs := [(.cell 4 true 14)]) (by kernel_rfl) (by simp [ntmps302]) ?_
  simp only [c302, argS]
  simp only [go_sem, seval]
  exact Rt_T (H := [_]) _ (by rfl) (by rfl) (by rfl) (Nat.le_refl _)
def agSt (s : Station) (c : TCell) : Action := if c.send = false then ⟨2, 0, Frame.zero⟩ else match qFirst s.q c.peer with | some p => ⟨1, 0, msgOf s p⟩ | none => Action.zero
theorem c193_ok {s : Station} {slot : Int} {c : TCell} (hL : s.q.pk.length < 2 ^ 62) : ACalls prog 193 [.ptr 0 0 0 0] [.cells 0 21 176 true [wEnc s slot c]] (.agg (agSt s c).enc) [.cells 0 21 176 true [wEnc s slot c]] := by
  have h301 := c301_pf s.q c.peer hL
  refine calls_of hmx func193 (by kernel_rfl) (c := f193.body.getD .skip) rfl e193 (rs := [(.cell 2 true 14)]) (by kernel_rfl) (by simp [ntmps193]) ?_
  simp only [c193, argS]
  cases hq : qFirst s.q c.peer with
  | none =>
    rw [hq] at h301
    simp only [go_sem, seval]
    repeat' first | refine CX_pure (h301) rfl rfl rfl rfl ?_ | refine GX_call (fun _ => (h301)) (by rfl) (by intro h; simp only [h]; rfl) (by rfl) (by rfl) ?_ | (with_reducible intro h; try simp only [h]) | (with_reducible refine And.intro ?_ ?_) | (change chk _ _ = true; rfl) | simp only [go_sem, seval, Vc_bool, oPk_none] | refine (GX_split rfl).2 ?_
    · have e : agSt s c = ⟨2, 0, Frame.zero⟩ := by rw [agSt, if_pos (by simpa using h)]
      rw [e]
      exact Rt_T (H := [_]) _ (by rfl) (by rfl) (by rfl) (Nat.le_refl _)
    · have e : agSt s c = Action.zero := by rw [agSt, if_neg (by simpa using h), hq]
      rw [e]
      exact Rt_T (H := [_]) _ (by rfl) (by rfl) (by rfl) (Nat.le_refl _)
  | some p =>
    rw [hq] at h301
    simp only [go_sem, seval]
    repeat' first | refine CX_pure (h301) rfl rfl rfl rfl ?_ | refine CX_rd [0] (c302_ok) (by rfl) (by rfl) (by rfl) (by rfl) (by rfl) (by decide) (by rfl) (by rfl) (by rfl) ?_ | refine GX_call (fun _ => (h301)) (by rfl) (by intro h; simp only [h]; rfl) (by rfl) (by rfl) ?_ | (with_reducible intro h; try simp only [h]) | (with_reducible refine And.intro ?_ ?_) | (change chk _ _ = true; rfl) | simp only [go_sem, seval, Vc_bool, oPk_some] | refine (GX_split rfl).2 ?_
    · have e : agSt s c = ⟨2, 0, Frame.zero⟩ := by rw [agSt, if_pos (by simpa using h)]
      rw [e]
      exact Rt_T (H := [_]) _ (by rfl) (by rfl) (by rfl) (Nat.le_refl _)
    · have e : agSt s c = ⟨1, 0, msgOf s p⟩ := by rw [agSt, if_neg (by simpa using h), hq]
      rw [e]
      exact Rt_T (H := [_]) _ (by rfl) (by rfl) (by rfl) (Nat.le_refl _)

def c97 : SC := (.seq (.reg [(.alc 2 43 [(.int .i64 0), (.int .i64 0), (.int .i64 0), (.int .i64 0), (.int .i64 0), (.int .i64 0), (.int .i64 0), (.int .i64 0), (.int .i64 0), (.int .i64 0), (.int .i64 0), (.int .i64 0), (.int .i64 0), (.str (ByteArray.mk #[]))])]) (.seq (.reg [(.mkm 5), (.mv 6 (.t 0)), (.mkf 7 192 [(.t 6)] []), (.mst (.t 5) (.c (.int .i64 1)) (.t 7)), (.mv 8 (.t 0)), (.mkf 9 193 [(.t 8)] []), (.mst (.t 5) (.c (.int .i64 2)) (.t 9)), (.mv 10 (.t 0)), (.mkf 11 194 [(.t 10)] []), (.mst (.t 5) (.c (.int .i64 3)) (.t 11)), (.mv 12 (.t 5)), (.mv 13 (.t 0)), (.nck 14 (.t 13)), (.fa 15 (.t 14) 15), (.fa 16 (.t 15) 2), (.ld 17 (.t 16) false 1), (.mgt 18 (.t 12) (.t 17) .nfunc false), (.mv 3 (.t 18))]) (.seq (.seq (.reg [(.mv 19 (.t 3)), (.binN 20 2 false (.t 19))]) (.cond (.t 20) (.seq (.reg [(.bld 21 [(.int .i64 0), (.int .i64 0), (.int .i64 0), (.int .i64 0), (.int .i64 0), (.int .i64 0), (.int .i64 0), (.int .i64 0), (.int .i64 0), (.int .i64 0), (.int .i64 0), (.int .i64 0), (.int .i64 0), (.str (ByteArray.mk #[]))] []), (.st (.t 2) (.t 21) 14)]) .ret) .skip)) (.seq (.reg [(.mv 22 (.t 3)), (.call (some 23) (.t 22) []), (.alc 4 43 [(.int .i64 0), (.int .i64 0), (.int .i64 0), (.int .i64 0), (.int .i64 0), (.int .i64 0), (.int .i64 0), (.int .i64 0), (.int .i64 0), (.int .i64 0), (.int .i64 0), (.int .i64 0), (.int .i64 0), (.str (ByteArray.mk #[]))]), (.st (.t 4) (.t 23) 14)]) (.seq (.seq (.reg [(.fa 24 (.t 4) 0), (.ld 25 (.t 24) false 1), (.bin 26 .neq (.t 25) (.c (.int .i64 0)))]) (.cond (.t 26) (.reg [(.mv 27 (.t 0)), (.nck 28 (.t 27)), (.fa 29 (.t 28) 15), (.fa 30 (.t 29) 1), (.ld 31 (.t 30) false 1), (.fa 32 (.t 4) 1), (.st (.t 32) (.t 31) 1)]) .skip)) (.seq (.reg [(.ld 33 (.t 4) true 14), (.st (.t 2) (.t 33) 14)]) .ret))))))
theorem e97 : compC prog f97.ntmps (f97.body.getD .skip) = c97 := by kernel_rfl
def offd (a : Action) (c : TCell) : Action := if a.kind = 0 then a else { a with off := c.off }
theorem c97_2 {s : Station} {slot : Int} {c : TCell} {a : Action} (hk : c.kind = 2) (hg : ACalls prog 193 [.ptr 0 0 0 0] [.cells 0 21 176 true [wEnc s slot c]] (.agg a.enc) [.cells 0 21 176 true [wEnc s slot c]]) :
    ACalls prog 97 [.ptr 0 0 0 0] [.cells 0 21 176 true [wEnc s slot c]] (.agg (offd a c).enc) [.cells 0 21 176 true [wEnc s slot c]] := by
  rcases c with ⟨cs, co, ck, cd, cp, cf⟩
  obtain rfl : ck = 2 := hk
  refine calls_of hmx func97 (by kernel_rfl) (c := f97.body.getD .skip) rfl e97 (rs := [(.cell 2 true 14)]) (by kernel_rfl) (by simp [ntmps97]) ?_
  simp only [c97, argS]
  simp only [go_sem, seval]
  repeat' first | refine CX_rd [0] (hg) (by rfl) (by rfl) (by rfl) (by rfl) (by rfl) (by decide) (by rfl) (by rfl) (by rfl) ?_ | (with_reducible intro h; try simp only [h]) | (with_reducible refine And.intro ?_ ?_) | (change chk _ _ = true; rfl) | simp only [go_sem, seval, Vc_bool, mapSet_cons, mapSet_nil, mapAt_cons, mapAt_nil] | refine (GX_split rfl).2 ?_
  · have e : offd a ⟨cs, co, 2, cd, cp, cf⟩ = { a with off := co } := by rw [offd, if_neg (by simpa using h)]
    rw [e]
    exact Rt_T (H := [_]) _ (by rfl) (by rfl) (by rfl) (Nat.le_refl _)
  · have e : offd a ⟨cs, co, 2, cd, cp, cf⟩ = a := by rw [offd, if_pos (by simpa using h)]
    rw [e]
    exact Rt_T (H := [_]) _ (by rfl) (by rfl) (by rfl) (Nat.le_refl _)

def c25 : SC := (.seq (.reg [(.box 2 31 (.t 0)), (.alc 4 43 [(.int .i64 0), (.int .i64 0), (.int .i64 0), (.int .i64 0), (.int .i64 0), (.int .i64 0), (.int .i64 0), (.int .i64 0), (.int .i64 0), (.int .i64 0), (.int .i64 0), (.int .i64 0), (.int .i64 0), (.str (ByteArray.mk #[]))]), (.mv 5 (.c (.int .i64 0)))]) (.seq (.reg [(.ld 9 (.t 2) true 14), (.mv 10 (.t 1)), (.call (some 11) (.c (.func 96 [] [])) [(.t 9), (.t 10)]), (.mv 8 (.t 11)), (.ext 12 (.t 8) 0), (.ext 13 (.t 8) 1), (.mv 6 (.t 12)), (.mv 7 (.t 13))]) (.seq (.seq (.reg [(.mv 14 (.t 7)), (.bin 15 .neq (.t 14) (.c (.int .i64 0)))]) (.cond (.t 15) (.seq (.reg [(.bld 16 [(.int .i64 0), (.int .i64 0), (.int .i64 0), (.int .i64 0), (.int .i64 0), (.int .i64 0), (.int .i64 0), (.int .i64 0), (.int .i64 0), (.int .i64 0), (.int .i64 0), (.int .i64 0), (.int .i64 0), (.str (ByteArray.mk #[]))] []), (.mv 17 (.t 7)), (.st (.t 4) (.t 16) 14), (.mv 5 (.t 17))]) .ret) .skip)) (.seq (.reg [(.mv 18 (.t 6)), (.call (some 19) (.c (.func 97 [] [])) [(.t 18)]), (.st (.t 4) (.t 19) 14), (.mv 5 (.c (.int .i64 0)))]) .ret))))
theorem e25 : compC prog f25.ntmps (f25.body.getD .skip) = c25 := by kernel_rfl
def c367 : SC := (.seq (.reg [(.mv 6 (.c .nil))]) (.seq (.reg [(.mv 8 (.t 0)), (.mv 9 (.t 1)), (.mv 10 (.t 2)), (.mv 11 (.t 0)), (.len 12 false (.t 11)), (.slc 13 6 (.t 8) (some (.t 9)) (some (.t 10)) (some (.t 12)))]) (.seq (.seq (.reg [(.mv 14 (.t 1)), (.mv 15 (.t 2)), (.bin 16 .eql (.t 14) (.t 15))]) (.cond (.t 16) (.seq (.reg [(.mv 17 (.t 0)), (.mv 6 (.t 17))]) .ret) .skip)) (.seq (.reg [(.mv 18 (.t 0)), (.len 19 false (.t 18)), (.mv 7 (.t 19))]) (.seq (.regD [(.mv 20 (.t 0)), (.mv 21 (.t 1)), (.slc 22 6 (.t 20) none (some (.t 21)) none), (.mv 23 (.t 0)), (.mv 24 (.t 2)), (.slc 25 6 (.t 23) (some (.t 24)) none none), (.app 26 104 6 56 (.t 22) (.t 25)), (.mv 0 (.t 26))] []) (.seq (.reg [(.mv 27 (.t 0)), (.mv 28 (.t 0)), (.len 29 false (.t 28)), (.mv 30 (.t 7)), (.slc 31 6 (.t 27) (some (.t 29)) (some (.t 30)) none), (.clr none [(.int .i64 0), (.int .i64 0), (.int .i64 0), (.int .i64 0), (.int .i64 0), (.str (ByteArray.mk #[]))] (.t 31))]) (.seq (.reg [(.mv 32 (.t 0)), (.mv 6 (.t 32))]) .ret)))))))
theorem e367 : compC prog f367.ntmps (f367.body.getD .skip) = c367 := by kernel_rfl
def c308 : SC := (.seq (.reg [(.box 2 27 (.t 0)), (.alc 4 27 [(.int .i64 0), .nil]), (.alc 5 104 [(.int .i64 0), (.int .i64 0), (.int .i64 0), (.int .i64 0), (.int .i64 0), (.str (ByteArray.mk #[]))]), (.mv 6 (.c (.int .i64 0)))]) (.seq (.seq (.reg [(.ld 8 (.t 2) true 2), (.call (some 9) (.c (.func 188 [] [])) [(.t 8)]), (.bin 10 .neq (.t 9) (.c (.int .i64 0)))]) (.cond (.t 10) (.seq (.reg [(.bld 11 [(.int .i64 0), .nil] []), (.bld 12 [(.int .i64 0), (.int .i64 0), (.int .i64 0), (.int .i64 0), (.int .i64 0), (.str (ByteArray.mk #[]))] []), (.st (.t 4) (.t 11) 2), (.st (.t 5) (.t 12) 6), (.mv 6 (.c (.int .i64 1)))]) .ret) .skip)) (.seq (.reg [(.ld 13 (.t 2) true 2), (.mv 14 (.t 1)), (.call (some 15) (.c (.func 266 [] [])) [(.t 13), (.t 14)]), (.mv 7 (.t 15))]) (.seq (.seq (.reg [(.mv 16 (.t 7)), (.bin 17 .lss (.t 16) (.c (.int .i64 0)))]) (.cond (.t 17) (.seq (.reg [(.bld 18 [(.int .i64 0), .nil] []), (.bld 19 [(.int .i64 0), (.int .i64 0), (.int .i64 0), (.int .i64 0), (.int .i64 0), (.str (ByteArray.mk #[]))] []), (.st (.t 4) (.t 18) 2), (.st (.t 5) (.t 19) 6), (.mv 6 (.c (.int .i64 7)))]) .ret) .skip)) (.seq (.regD [(.fa 20 (.t 2) 0), (.ld 21 (.t 20) false 1), (.fa 22 (.t 2) 1), (.ld 23 (.t 22) false 1), (.call (some 24) (.c (.func 260 [] [])) [(.t 23)]), (.mv 25 (.t 7)), (.mv 26 (.t 7)), (.bin 27 .add (.t 26) (.c (.int .i64 1))), (.call (some 28) (.c (.func 367 [] [])) [(.t 24), (.t 25), (.t 27)]), (.bld 29 [(.int .i64 0), .nil] [(0, 1, (.t 21)), (1, 1, (.t 28))]), (.fa 30 (.t 2) 1), (.ld 31 (.t 30) false 1), (.mv 32 (.t 7)), (.ia 33 (.t 31) (.t 32) 6), (.ld 34 (.t 33) true 6), (.st (.t 4) (.t 29) 2), (.st (.t 5) (.t 34) 6), (.mv 6 (.c (.int .i64 0)))] [(1, 4), (1, 8), (4, 11), (8, 11), (4, 13), (8, 13), (4, 14), (8, 14), (11, 15), (13, 15), (14, 15)]) .ret)))))
theorem e308 : compC prog f308.ntmps (f308.body.getD .skip) = c308 := by kernel_rfl
def c205 : SC := (.seq (.reg [(.mv 5 (.t 0)), (.mv 6 (.t 0)), (.nck 7 (.t 6)), (.fa 8 (.t 7) 0), (.fa 9 (.t 8) 3), (.ld 10 (.t 9) true 2), (.mv 11 (.t 1)), (.call (some 12) (.c (.func 308 [] [])) [(.t 10), (.t 11)]), (.mv 4 (.t 12)), (.ext 13 (.t 4) 0), (.ext 14 (.t 4) 1), (.ext 15 (.t 4) 2), (.nck 16 (.t 5)), (.fa 17 (.t 16) 0), (.fa 18 (.t 17) 3), (.st (.t 18) (.t 13) 2)]) (.seq (.reg [(.mv 19 (.t 0)), (.mv 20 (.t 0)), (.nck 21 (.t 20)), (.fa 22 (.t 21) 0), (.fa 23 (.t 22) 8), (.ld 24 (.t 23) false 1), (.bin 25 .add (.t 24) (.c (.int .i64 1))), (.bin 26 .rem (.t 25) (.c (.int .i64 256))), (.nck 27 (.t 19)), (.fa 28 (.t 27) 0), (.fa 29 (.t 28) 8), (.st (.t 29) (.t 26) 1)]) (.reg [(.mv 30 (.t 0)), (.mv 31 (.t 0)), (.nck 32 (.t 30)), (.fa 33 (.t 32) 0), (.fa 34 (.t 33) 9), (.st (.t 34) (.c (.int .i64 (-1))) 1), (.nck 35 (.t 31)), (.fa 36 (.t 35) 0), (.fa 37 (.t 36) 10), (.st (.t 37) (.c (.int .i64 0)) 1)])))
theorem e205 : compC prog f205.ntmps (f205.body.getD .skip) = c205 := by kernel_rfl
theorem c25_of {s : Station} {slot : Int} {a : Action} (hB : ClBd s) (hA : slotErr s slot = 0 → ACalls prog 97 [.ptr 0 0 0 0] [.cells 0 21 176 true [wEnc s slot (cellAt s slot)]] (.agg a.enc) [.cells 0 21 176 true [wEnc s slot (cellAt s slot)]]) :
    ACalls prog 25 [.agg s.enc, .int .i64 slot] [] (.tup [.agg (if slotErr s slot = 0 then a else Action.zero).enc, .int .i64 (slotErr s slot)]) [] := by
  refine calls_of hmx func25 (by kernel_rfl) (c := f25.body.getD .skip) rfl e25 (rs := [(.cell 4 true 14), (.t 5)]) (by kernel_rfl) (by simp [ntmps25]) ?_
  simp only [c25, argS]
  by_cases h0 : slotErr s slot = 0
  · rw [if_pos h0, h0]
    simp only [go_sem, seval]
    refine CX_new (r1 := .tup [.ptr 2 0 0 0, .int .i64 0]) (c96_ok hB h0) rfl rfl rfl (by rfl) (by rfl) ?_
    repeat' first | (refine Rt_pure ?_ rfl; simp only [retO, retO1, retOs, S, get_cons, Nat.reduceEqDiff, reduceIte, obj, getO_cons_zero, getO_cons_succ, List.getElem?_cons_zero, List.getElem?_cons_succ, List.drop_zero, List.drop_succ_cons, loadFrom_cell, loadFrom_agg, List.length_cons, List.length_nil, Nat.reduceAdd, Nat.reduceLeDiff, List.take_succ_cons, List.take_zero, List.take_nil]) | refine CX_rd [2] (hA h0) (by rfl) (by rfl) (by rfl) (by rfl) (by rfl) (by decide) (by rfl) (by rfl) (by rfl) ?_ | (with_reducible intro h; try simp only [h]) | (with_reducible refine And.intro ?_ ?_) | (change chk _ _ = true; rfl) | simp only [go_sem, seval, Vc_bool] | refine (GX_split rfl).2 ?_
  · rw [if_neg h0]
    simp only [go_sem, seval]
    refine CX_pure (c96_err hB h0) rfl rfl rfl rfl ?_
    have e : decide (slotErr s slot = 0) = false := by simpa using h0
    repeat' first | (refine Rt_pure ?_ rfl; simp only [retO, retO1, retOs, S, get_cons, Nat.reduceEqDiff, reduceIte, obj, getO_cons_zero, getO_cons_succ, List.getElem?_cons_zero, List.getElem?_cons_succ, List.drop_zero, List.drop_succ_cons, loadFrom_cell, loadFrom_agg, List.length_cons, List.length_nil, Nat.reduceAdd, Nat.reduceLeDiff, List.take_succ_cons, List.take_zero, List.take_nil]) | (with_reducible intro h; try simp only [h]) | (with_reducible refine And.intro ?_ ?_) | (change chk _ _ = true; rfl) | simp only [go_sem, seval, Vc_bool, e] | refine (GX_split rfl).2 ?_
    rfl
theorem c367_ok {xs : List Packet} {i q : Nat} (hi : i < xs.length) (hL : xs.length * 56 ≤ 140737488355328) : ACalls prog 367 [.row 0 q 0 xs.length, .int .i64 i, .int .i64 (i + 1)] [.cells q 6 104 false (xs.map Packet.enc)] (.sl 6 ((xs.eraseIdx i).map Packet.enc)) [.dead] := by
  refine calls_of hmx func367 (by kernel_rfl) (c := f367.body.getD .skip) rfl e367 (rs := [(.t 6)]) (by kernel_rfl) (by simp [ntmps367]) ?_
  simp only [c367, argS]
  simp only [go_sem, seval]
  refine ⟨⟨by omega, by omega, by omega, by simp⟩, ?_⟩
  have e : decide ((i : Int) = (i : Int) + 1) = false := by simp; omega
  have e1 : ((i : Int) + 1).toNat = i + 1 := by omega
  have e2 : (i : Int).toNat = i := by omega
  have e3 : ((xs.length : Int)).toNat = xs.length := by omega
  have t1 : i ≤ xs.length := by omega
  have t2 : i + 1 ≤ xs.length := by omega
  have e4 : List.take (xs.length - (i + 1)) (List.drop (i + 1) (xs.map Packet.enc)) = List.drop (i + 1) (xs.map Packet.enc) := List.take_of_length_le (by simp)
  have e5 : (List.drop (i + 1) (xs.map Packet.enc)).length = xs.length - (i + 1) := by simp
  have e6 : ¬ i = xs.length := by omega
  have e7 : i + (xs.length - (i + 1)) = xs.length - 1 := by omega
  have e8 : xs.length - 1 ≤ xs.length := by omega
  simp only [go_sem, seval, e, e1, e2, e3, e4, e5, e6, e7, e8, Nat.sub_zero, List.length_map]
  refine ⟨⟨by omega, by omega⟩, ⟨by omega, by omega, by omega⟩, ⟨t1, by omega⟩, ?_⟩
  generalize hes : List.take i (xs.map Packet.enc) ++ List.drop (i + 1) (xs.map Packet.enc) ++ List.drop (xs.length - 1) (xs.map Packet.enc) = es
  have f1 : es.length = xs.length := by rw [← hes]; simp; omega
  have f2 : ((xs.length - 1 : Nat) : Int).toNat = xs.length - 1 := by omega
  simp only [go_sem, seval, f1, f2, e3]
  refine ⟨⟨by omega, by omega, by omega⟩, ?_⟩
  have hx : (xs.eraseIdx i).map Packet.enc = List.take i (xs.map Packet.enc) ++ List.drop (i + 1) (xs.map Packet.enc) := by rw [List.eraseIdx_eq_take_drop_succ, List.map_append, List.map_take, List.map_drop]
  have hl : (List.take i (xs.map Packet.enc) ++ List.drop (i + 1) (xs.map Packet.enc)).length = xs.length - 1 := by simp; omega
  have hes' : List.take (xs.length - 1) es = List.take i (xs.map Packet.enc) ++ List.drop (i + 1) (xs.map Packet.enc) := by rw [← hes, List.take_append_of_le_length (by omega)]; exact List.take_of_length_le (by omega)
  refine Rt.gs (Gs_freeze 0 (s' := [(6, .sl 6 ((xs.eraseIdx i).map Packet.enc))]) (H' := [.dead]) rfl ?_ ?_) (Rt_all (by rfl) (by rfl) (by rfl) (Nat.le_refl _))
  · refine List.forall_mem_cons.2 ⟨?_, by simp⟩
    refine Fz.row 0 (xs.length - 1) ?_ (cloE_map fun _ => by rfl)
    rw [List.drop_zero, List.append_assoc, List.take_append_of_le_length (by simp; omega), hes', List.take_of_length_le (by omega), hx]
  · repeat' (first | exact FzL.nil | refine FzL.cons ?_ ?_ | exact Fz.wk (Wk.refl _) | exact Fz.wk (Wk.nil _) | exact Fz.wk (Wk.emp _) | exact Fz.row0 _ _ _ _ | exact FzH.nil _ | exact FzO.refl _ | refine FzO.one ?_ | refine FzH.cons (by decide) ?_ ?_ | refine FzH.this rfl ?_ | exact FzO.dead (by simp) | (simp only [List.forall_mem_cons, List.not_mem_nil, false_implies, implies_true, and_true, go_sem, seval]) | refine And.intro ?_ ?_)

theorem c260o {xs : List Packet} (h0 : xs ≠ []) (hb : xs.length * 56 ≤ 140737488355328) : ACalls prog 260 [.sl 6 (xs.map Packet.enc)] [] (.row 0 1 0 xs.length) [.cells 1 6 104 false (xs.map Packet.enc)] := by
  cases xs with
  | nil => exact absurd rfl h0
  | cons x xs => exact c260r_ok hb
theorem c308_ok {q : Queue} {id : Int} {i : Nat} {p : Packet} (hb : q.pk.length * 56 ≤ 140737488355328) (h0 : qErr q = 0) (hi : q.pk[i]? = some p) (hx : pkIdx q.pk id = i) :
    ACalls prog 308 [.agg q.enc, .int .i64 id] [] (.tup [.agg (Queue.enc ⟨q.limit, q.pk.eraseIdx i⟩), .agg p.enc, .int .i64 0]) [] := by
  obtain ⟨hil, hip⟩ := List.getElem?_eq_some_iff.1 hi
  have hne : q.pk ≠ [] := by intro h; rw [h] at hil; simp at hil
  have e2 : (q.pk.map Packet.enc)[i]? = some p.enc := by rw [List.getElem?_map, hi]; rfl
  have e3 : decide ((i : Int) < 0) = false := by simp
  have e4 : IntKind.i64.wrap ((i : Int) + 1) = (i : Int) + 1 := wrap_ok (by omega) (by omega)
  refine calls_of hmx func308 (by kernel_rfl) (c := f308.body.getD .skip) rfl e308 (rs := [(.cell 4 true 2), (.cell 5 true 6), (.t 6)]) (by kernel_rfl) (by simp [ntmps308]) ?_
  simp only [c308, argS]
  simp only [go_sem, seval]
  repeat' first | refine CX_pure (c188_ok (by omega)) rfl rfl rfl rfl ?_ | refine CX_pure (c266_ok (by omega)) rfl rfl rfl rfl ?_ | refine GX_call (fun _ => (c188_ok (by omega))) (by rfl) (by intro h; simp only [h]; rfl) (by rfl) (by rfl) ?_ | refine GX_call (fun _ => (c266_ok (by omega))) (by rfl) (by intro h; simp only [h]; rfl) (by rfl) (by rfl) ?_ | (with_reducible intro h; try simp only [h]) | (with_reducible refine And.intro ?_ ?_) | (change chk _ _ = true; rfl) | simp only [go_sem, seval, Vc_bool, h0, hx, e3, e4] | refine (GX_split rfl).2 ?_
  refine CX_new (r1 := .row 3 1 0 q.pk.length) (c260o hne hb) rfl rfl rfl (by rw [List.all_cons, List.all_nil, Bool.and_true]; exact lt_map fun _ => by rfl) (by rfl) ?_
  repeat' first | (with_reducible intro h; try simp only [h]) | (with_reducible refine And.intro ?_ ?_) | (change chk _ _ = true; rfl) | simp only [go_sem, seval, Vc_bool, e4] | refine (GX_split rfl).2 ?_
  refine CX_eat 3 (c367_ok hil hb) (by rfl) (by rfl) (by rfl) (lt_map fun _ => by rfl) (by rfl) (by rfl) (by rfl) ?_
  repeat' first | (refine Rt_pure ?_ rfl; simp only [retO, retO1, retOs, S, get_cons, Nat.reduceEqDiff, reduceIte, obj, getO_cons_zero, getO_cons_succ, List.getElem?_cons_zero, List.getElem?_cons_succ, List.drop_zero, List.drop_succ_cons, loadFrom_cell, loadFrom_agg, List.length_cons, List.length_nil, Nat.reduceAdd, Nat.reduceLeDiff, List.take_succ_cons, List.take_zero, List.take_nil]) | (with_reducible intro h; try simp only [h]) | (with_reducible refine And.intro ?_ ?_) | (change chk _ _ = true; rfl) | simp only [go_sem, seval, Vc_bool, e2, Int.toNat_natCast, Int.natCast_nonneg] | refine (GX_split rfl).2 ?_
/-- The station behind a packet's leaving: at place i. -/
def leaveAt (s : Station) (i : Nat) : Station := { s with q := ⟨s.q.limit, s.q.pk.eraseIdx i⟩, seq := (s.seq + 1).tmod 256, trying := -1, tries := 0 }
theorem c205_ok {s : Station} {slot : Int} {c : TCell} {id : Int} {i : Nat} {p : Packet} (hb : s.q.pk.length * 56 ≤ 140737488355328) (h0 : qErr s.q = 0) (hi : s.q.pk[i]? = some p) (hx : pkIdx s.q.pk id = i) (hs : 0 ≤ s.seq ∧ s.seq ≤ 255) :
    ACalls prog 205 [.ptr 0 0 0 0, .int .i64 id] [.cells 0 21 176 true [wEnc s slot c]] (.tup []) [.cells 0 21 176 true [wEnc (leaveAt s i) slot c]] := by
  have e4 : IntKind.i64.wrap (s.seq + 1) = s.seq + 1 := wrap_ok (by omega) (by omega)
  refine calls_of hmx func205 (by kernel_rfl) (c := f205.body.getD .skip) rfl e205 (rs := []) (by kernel_rfl) (by simp [ntmps205]) ?_
  simp only [c205, argS]
  simp only [go_sem, seval]
  repeat' first | refine CX_pure (c308_ok hb h0 hi hx) rfl rfl rfl rfl ?_ | refine GX_call (fun _ => (c308_ok hb h0 hi hx)) (by rfl) (by intro h; simp only [h]; rfl) (by rfl) (by rfl) ?_ | (with_reducible intro h; try simp only [h]) | (with_reducible refine And.intro ?_ ?_) | (change chk _ _ = true; rfl) | simp only [go_sem, seval, Vc_bool, e4] | refine (GX_split rfl).2 ?_
  exact Rt_all (by rfl) (by rfl) (by rfl) (Nat.le_refl _)

def c204 : SC := (.seq (.reg [(.alc 2 104 [(.int .i64 0), (.int .i64 0), (.int .i64 0), (.int .i64 0), (.int .i64 0), (.str (ByteArray.mk #[]))])]) (.seq (.seq (.reg [(.mv 7 (.t 0)), (.nck 8 (.t 7)), (.fa 9 (.t 8) 15), (.fa 10 (.t 9) 2), (.ld 11 (.t 10) false 1), (.bin 12 .eql (.t 11) (.c (.int .i64 3)))]) (.cond (.t 12) (.seq (.reg [(.mv 14 (.t 0)), (.call (some 15) (.c (.func 104 [] [])) [(.t 14)]), (.mv 13 (.t 15)), (.ext 16 (.t 13) 0), (.ext 17 (.t 13) 1), (.alc 3 104 [(.int .i64 0), (.int .i64 0), (.int .i64 0), (.int .i64 0), (.int .i64 0), (.str (ByteArray.mk #[]))]), (.st (.t 3) (.t 16) 6), (.mv 4 (.t 17))]) (.seq (.reg [(.ld 18 (.t 3) true 6), (.st (.t 2) (.t 18) 6)]) .ret)) .skip)) (.seq (.regD [(.mv 20 (.t 0)), (.nck 21 (.t 20)), (.fa 22 (.t 21) 0), (.fa 23 (.t 22) 3), (.ld 24 (.t 23) true 2), (.mv 25 (.t 0)), (.nck 26 (.t 25)), (.fa 27 (.t 26) 15), (.fa 28 (.t 27) 4), (.ld 29 (.t 28) false 1), (.call (some 30) (.c (.func 301 [] [])) [(.t 24), (.t 29)]), (.mv 19 (.t 30)), (.ext 31 (.t 19) 0), (.ext 32 (.t 19) 1), (.alc 5 104 [(.int .i64 0), (.int .i64 0), (.int .i64 0), (.int .i64 0), (.int .i64 0), (.str (ByteArray.mk #[]))]), (.st (.t 5) (.t 31) 6), (.mv 6 (.t 32))] [(4, 14), (9, 14), (10, 14)]) (.seq (.reg [(.ld 33 (.t 5) true 6), (.st (.t 2) (.t 33) 6)]) .ret))))
theorem e204 : compC prog f204.ntmps (f204.body.getD .skip) = c204 := by kernel_rfl
def c103 : SC := (.seq (.reg [(.mv 7 (.t 0)), (.call (some 8) (.c (.func 204 [] [])) [(.t 7)]), (.alc 4 104 [(.int .i64 0), (.int .i64 0), (.int .i64 0), (.int .i64 0), (.int .i64 0), (.str (ByteArray.mk #[]))]), (.st (.t 4) (.t 8) 6)]) (.seq (.seq (.reg [(.fa 9 (.t 4) 1), (.ld 10 (.t 9) false 1), (.bin 11 .eql (.t 10) (.c (.int .i64 (-1))))]) (.cond (.t 11) (.seq (.reg [(.mv 12 (.t 0)), (.fa 13 (.t 4) 0), (.ld 14 (.t 13) false 1), (.call (some 15) (.c (.func 205 [] [])) [(.t 12), (.t 14)])]) .ret) .skip)) (.seq (.reg [(.mv 5 (.c (.int .i64 1)))]) (.seq (.seq (.regD [(.mv 16 (.t 0)), (.nck 17 (.t 16)), (.fa 18 (.t 17) 0), (.fa 19 (.t 18) 9), (.ld 20 (.t 19) false 1), (.fa 21 (.t 4) 0), (.ld 22 (.t 21) false 1), (.bin 23 .eql (.t 20) (.t 22))] []) (.cond (.t 23) (.reg [(.mv 24 (.t 0)), (.nck 25 (.t 24)), (.fa 26 (.t 25) 0), (.fa 27 (.t 26) 10), (.ld 28 (.t 27) false 1), (.bin 29 .add (.t 28) (.c (.int .i64 1))), (.mv 5 (.t 29))]) .skip)) (.seq (.reg [(.mv 30 (.t 1)), (.mv 31 (.t 30)), (.g 31 false (some 32) (.mv 32 (.t 5))), (.g 31 false (some 33) (.bin 33 .geq (.t 32) (.c (.int .i64 4)))), (.pick 34 (.t 31) (.c (.bool true)) (.t 33)), (.mv 6 (.t 34))]) (.seq (.seq (.reg [(.mv 35 (.t 6))]) (.cond (.t 35) (.reg [(.mv 36 (.t 0)), (.fa 37 (.t 4) 0), (.ld 38 (.t 37) false 1), (.call (some 39) (.c (.func 205 [] [])) [(.t 36), (.t 38)])]) (.reg [(.mv 40 (.t 0)), (.mv 41 (.t 0)), (.fa 42 (.t 4) 0), (.ld 43 (.t 42) false 1), (.mv 44 (.t 5)), (.nck 45 (.t 40)), (.fa 46 (.t 45) 0), (.fa 47 (.t 46) 9), (.st (.t 47) (.t 43) 1), (.nck 48 (.t 41)), (.fa 49 (.t 48) 0), (.fa 50 (.t 49) 10), (.st (.t 50) (.t 44) 1)]))) (.seq (.seq (.reg [(.mv 51 (.t 0)), (.nck 52 (.t 51)), (.fa 53 (.t 52) 15), (.fa 54 (.t 53) 2), (.ld 55 (.t 54) false 1), (.bin 56 .neq (.t 55) (.c (.int .i64 3)))]) (.cond (.t 56) .ret .skip)) (.seq (.seq (.reg [(.mv 57 (.t 6))]) (.cond (.t 57) (.seq (.reg [(.mv 58 (.t 0)), (.mv 59 (.t 0)), (.nck 60 (.t 58)), (.fa 61 (.t 60) 0), (.fa 62 (.t 61) 11), (.st (.t 62) (.c (.int .i64 0)) 1), (.nck 63 (.t 59)), (.fa 64 (.t 63) 0), (.fa 65 (.t 64) 12), (.st (.t 65) (.c (.int .i64 0)) 1)]) .ret) .skip)) (.seq (.reg [(.mv 66 (.t 0)), (.mv 67 (.t 0)), (.nck 68 (.t 67)), (.fa 69 (.t 68) 0), (.fa 70 (.t 69) 11), (.ld 71 (.t 70) false 1), (.bin 72 .add (.t 71) (.c (.int .i64 1))), (.mn 73 (.t 72) (.c (.int .i64 5))), (.nck 74 (.t 66)), (.fa 75 (.t 74) 0), (.fa 76 (.t 75) 11), (.st (.t 76) (.t 73) 1)]) (.seq (.reg [(.mv 77 (.t 0)), (.mv 78 (.t 0)), (.nck 79 (.t 78)), (.fa 80 (.t 79) 0), (.fa 81 (.t 80) 13), (.ld 82 (.t 81) false 1), (.bin 83 .mul (.c (.int .i64 1103515245)) (.t 82)), (.bin 84 .add (.t 83) (.c (.int .i64 12345))), (.bin 85 .rem (.t 84) (.c (.int .i64 2147483648))), (.nck 86 (.t 77)), (.fa 87 (.t 86) 0), (.fa 88 (.t 87) 13), (.st (.t 88) (.t 85) 1)]) (.regD [(.mv 89 (.t 0)), (.mv 90 (.t 0)), (.nck 91 (.t 90)), (.fa 92 (.t 91) 0), (.fa 93 (.t 92) 13), (.ld 94 (.t 93) false 1), (.bin 95 .quo (.t 94) (.c (.int .i64 65536))), (.mv 96 (.t 0)), (.nck 97 (.t 96)), (.fa 98 (.t 97) 0), (.fa 99 (.t 98) 11), (.ld 100 (.t 99) false 1), (.bin 101 .shl (.c (.int .i64 1)) (.t 100)), (.bin 102 .rem (.t 95) (.t 101)), (.nck 103 (.t 89)), (.fa 104 (.t 103) 0), (.fa 105 (.t 104) 12), (.st (.t 105) (.t 102) 1)] [])))))))))))
theorem e103 : compC prog f103.ntmps (f103.body.getD .skip) = c103 := by kernel_rfl
theorem minOf_int {k : IntKind} {a b : Int} : minOf (.int k a) (.int k b) = some (.int k (min a b)) := by simp [minOf]
attribute [go_sem] minOf_int
theorem c204_2 {s : Station} {slot : Int} {c : TCell} {p : Packet} (hL : s.q.pk.length < 2 ^ 62) (hk : c.kind = 2) (hq : qFirst s.q c.peer = some p) : ACalls prog 204 [.ptr 0 0 0 0] [.cells 0 21 176 true [wEnc s slot c]] (.agg p.enc) [.cells 0 21 176 true [wEnc s slot c]] := by
  have h301 := c301_pf s.q c.peer hL
  rw [hq, oPk_some] at h301
  rcases c with ⟨cs, co, ck, cd, cp, cf⟩
  obtain rfl : ck = 2 := hk
  refine calls_of hmx func204 (by kernel_rfl) (c := f204.body.getD .skip) rfl e204 (rs := [(.cell 2 true 6)]) (by kernel_rfl) (by simp [ntmps204]) ?_
  simp only [c204, argS]
  simp only [go_sem, seval]
  repeat' first | refine CX_pure (h301) rfl rfl rfl rfl ?_ | refine GX_call (fun _ => (h301)) (by rfl) (by intro h; simp only [h]; rfl) (by rfl) (by rfl) ?_ | (with_reducible intro h; try simp only [h]) | (with_reducible refine And.intro ?_ ?_) | (change chk _ _ = true; rfl) | simp only [go_sem, seval, Vc_bool] | refine (GX_split rfl).2 ?_
  exact Rt_T (H := [_]) _ (by rfl) (by rfl) (by rfl) (Nat.le_refl _)
/-- What becomes of a station whose packet was sent. -/
def sentAt (s : Station) (shared : Bool) (p : Packet) (i : Nat) (acked : Bool) : Station :=
  if p.to = -1 then leaveAt s i
  else
    let n := if s.trying = p.id then s.tries + 1 else 1
    if acked = true ∨ 4 ≤ n then
      let s' := leaveAt s i
      if shared then { s' with back := 0, wait := 0 } else s'
    else
      let s' := { s with trying := p.id, tries := n }
      if shared then
        let b := min (s.back + 1) 5
        { s' with back := b, seed := nextSeed s.seed, wait := ((nextSeed s.seed).tdiv 65536).tmod (2 ^ b.toNat) }
      else s'
theorem c103_ok {s : Station} {slot : Int} {c : TCell} {i : Nat} {p : Packet} {acked : Bool} (hb : s.q.pk.length * 56 ≤ 140737488355328) (h0 : qErr s.q = 0) (hi : s.q.pk[i]? = some p) (hx : pkIdx s.q.pk p.id = i) (hs : 0 ≤ s.seq ∧ s.seq ≤ 255)
    (ht : 0 ≤ s.tries ∧ s.tries ≤ 3) (hk : 0 ≤ s.back ∧ s.back ≤ 5) (hd : 0 ≤ s.seed ∧ s.seed ≤ 2147483647) (h204 : ACalls prog 204 [.ptr 0 0 0 0] [.cells 0 21 176 true [wEnc s slot c]] (.agg p.enc) [.cells 0 21 176 true [wEnc s slot c]]) :
    ACalls prog 103 [.ptr 0 0 0 0, .bool acked] [.cells 0 21 176 true [wEnc s slot c]] (.tup []) [.cells 0 21 176 true [wEnc (sentAt s (decide (c.kind = 3)) p i acked) slot c]] := by
  have w1 : IntKind.i64.wrap (s.tries + 1) = s.tries + 1 := wrap_ok (by omega) (by omega)
  have w2 : IntKind.i64.wrap (s.back + 1) = s.back + 1 := wrap_ok (by omega) (by omega)
  have w3 : IntKind.i64.wrap (1103515245 * s.seed) = 1103515245 * s.seed := wrap_ok (by omega) (by omega)
  have w4 : IntKind.i64.wrap (1103515245 * s.seed + 12345) = 1103515245 * s.seed + 12345 := wrap_ok (by omega) (by omega)
  have w5 : IntKind.i64.wrap (1 * 2 ^ min (min (s.back + 1) 5).toNat 64) = 2 ^ (min (s.back + 1) 5).toNat := by
    have hk' : s.back = 0 ∨ s.back = 1 ∨ s.back = 2 ∨ s.back = 3 ∨ s.back = 4 ∨ s.back = 5 := by omega
    rcases hk' with h | h | h | h | h | h <;> rw [h] <;> decide
  have w6 : IntKind.i64.wrap (((1103515245 * s.seed + 12345).tmod 2147483648).tdiv 65536) = ((1103515245 * s.seed + 12345).tmod 2147483648).tdiv 65536 := by
    rw [Int.tmod_eq_emod_of_nonneg (by omega), Int.tdiv_eq_ediv_of_nonneg (by omega)]
    exact wrap_ok (by omega) (by omega)
  refine calls_of hmx func103 (by kernel_rfl) (c := f103.body.getD .skip) rfl e103 (rs := []) (by kernel_rfl) (by simp [ntmps103]) ?_
  simp only [c103, argS]
  simp only [go_sem, seval]
  repeat' first | refine CX_rd [0] (h204) (by rfl) (by rfl) (by rfl) (by rfl) (by rfl) (by decide) (by rfl) (by rfl) (by rfl) ?_ | refine CX_put 0 (c205_ok hb h0 hi hx hs) (by rfl) (by rfl) (by rfl) (by rfl) (by rfl) (by rfl) (by rfl) (by rfl) ?_ | (with_reducible intro h; try simp only [h]) | (with_reducible refine And.intro ?_ ?_) | (change chk _ _ = true; rfl) | simp only [go_sem, seval, Vc_bool, w1, w2, w3, w4, w5, w6] | refine (GX_split rfl).2 ?_
  all_goals first
    | (cases h; done)
    | decide
    | omega
    | exact Int.ne_of_gt (Int.pow_pos (by decide))
    | skip
  all_goals clear h204 w1 w2 w3 w4 w5 w6 hi hx h0 hb hs ht hk hd
  all_goals simp only [decide_eq_true_eq, decide_eq_false_iff_not, Bool.or_eq_true, Bool.or_eq_false_iff, Bool.not_eq_true', Bool.not_eq_false'] at *
  all_goals first
    | (generalize hz : sentAt s (decide (c.kind = 3)) p i acked = z; simp [sentAt, *] at hz; subst hz; exact Rt_T (H := [_]) _ (by rfl) (by rfl) (by rfl) (Nat.le_refl _))
    | (generalize hz : sentAt s (decide (c.kind = 3)) p i true = z; simp [sentAt, *] at hz; subst hz; exact Rt_T (H := [_]) _ (by rfl) (by rfl) (by rfl) (Nat.le_refl _))
    | (generalize hz : sentAt s (decide (c.kind = 3)) p i false = z; simp [sentAt, *] at hz; subst hz; exact Rt_T (H := [_]) _ (by rfl) (by rfl) (by rfl) (Nat.le_refl _))

end Go.Av.T
