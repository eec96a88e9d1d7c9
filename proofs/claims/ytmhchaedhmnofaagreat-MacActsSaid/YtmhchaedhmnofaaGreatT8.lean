/- The seat: part T8. -/
import Derived.Test.YtmhchaedhmnofaaGreatT7
import Derived.Test.YtmhchaedhmnofaaGreatA7
import Derived.KernelRfl
set_option maxRecDepth 100000
set_option maxHeartbeats 1000000
set_option linter.unusedSimpArgs false
set_option linter.unusedVariables false
namespace Go.Av.T
open Go Go.Av Go.Av.Sp Go.Proofs.Tryz
/-- The code of slices.Insert. -/
def cIns (t k bytes : Nat) (zs : List AVal) (fo fr : Nat) : SC := (.seq (.reg [(.mv 6 (.c .nil))]) (.seq (.reg [(.mv 10 (.t 0)), (.mv 11 (.t 1)), (.slc 12 k (.t 10) (some (.t 11)) none none)]) (.seq (.reg [(.mv 13 (.t 2)), (.len 14 false (.t 13)), (.mv 7 (.t 14))]) (.seq (.seq (.reg [(.mv 15 (.t 7)), (.bin 16 .eql (.t 15) (.c (.int .i64 0)))]) (.cond (.t 16) (.seq (.reg [(.mv 17 (.t 0)), (.mv 6 (.t 17))]) .ret) .skip)) (.seq (.reg [(.mv 18 (.t 0)), (.len 19 false (.t 18)), (.mv 8 (.t 19))]) (.seq (.seq (.reg [(.mv 20 (.t 1)), (.mv 21 (.t 8)), (.bin 22 .eql (.t 20) (.t 21))]) (.cond (.t 22) (.seq (.reg [(.mv 23 (.t 0)), (.mv 24 (.t 2)), (.app 25 t k bytes (.t 23) (.t 24)), (.mv 6 (.t 25))]) .ret) .skip)) (.seq (.seq (.reg [(.mv 26 (.t 8)), (.mv 27 (.t 7)), (.bin 28 .add (.t 26) (.t 27)), (.mv 29 (.t 0)), (.cap 30 (.t 29)), (.bin 31 .gtr (.t 28) (.t 30))]) (.cond (.t 31) (.seq (.reg [(.mv 32 (.t 0)), (.mv 33 (.t 1)), (.slc 34 k (.t 32) none (some (.t 33)) none), (.mv 35 (.t 8)), (.mv 36 (.t 7)), (.bin 37 .add (.t 35) (.t 36)), (.mv 38 (.t 1)), (.bin 39 .sub (.t 37) (.t 38)), (.apz 40 t k bytes zs (.t 34) (.t 39)), (.mv 9 (.t 40))]) (.seq (.reg [(.mv 41 (.t 9)), (.mv 42 (.t 1)), (.slc 43 k (.t 41) (some (.t 42)) none none), (.mv 44 (.t 2)), (.cpy (some 45) k (.t 43) (.t 44))]) (.seq (.regD [(.mv 46 (.t 9)), (.mv 47 (.t 1)), (.mv 48 (.t 7)), (.bin 49 .add (.t 47) (.t 48)), (.slc 50 k (.t 46) (some (.t 49)) none none), (.mv 51 (.t 0)), (.mv 52 (.t 1)), (.slc 53 k (.t 51) (some (.t 52)) none none), (.cpy (some 54) k (.t 50) (.t 53))] []) (.seq (.reg [(.mv 55 (.t 9)), (.mv 6 (.t 55))]) .ret)))) .skip)) (.seq (.reg [(.mv 56 (.t 0)), (.mv 57 (.t 8)), (.mv 58 (.t 7)), (.bin 59 .add (.t 57) (.t 58)), (.slc 60 k (.t 56) none (some (.t 59)) none), (.mv 0 (.t 60))]) (.seq (.seq (.reg [(.mv 61 (.t 2)), (.mv 62 (.t 0)), (.mv 63 (.t 1)), (.mv 64 (.t 7)), (.bin 65 .add (.t 63) (.t 64)), (.slc 66 k (.t 62) (some (.t 65)) none none), (.call (some 67) (.c (.func fo [] [])) [(.t 61), (.t 66)]), (.not 68 (.t 67))]) (.cond (.t 68) (.seq (.regD [(.mv 69 (.t 0)), (.mv 70 (.t 1)), (.mv 71 (.t 7)), (.bin 72 .add (.t 70) (.t 71)), (.slc 73 k (.t 69) (some (.t 72)) none none), (.mv 74 (.t 0)), (.mv 75 (.t 1)), (.slc 76 k (.t 74) (some (.t 75)) none none), (.cpy (some 77) k (.t 73) (.t 76))] []) (.seq (.reg [(.mv 78 (.t 0)), (.mv 79 (.t 1)), (.slc 80 k (.t 78) (some (.t 79)) none none), (.mv 81 (.t 2)), (.cpy (some 82) k (.t 80) (.t 81))]) (.seq (.reg [(.mv 83 (.t 0)), (.mv 6 (.t 83))]) .ret))) .skip)) (.seq (.reg [(.mv 84 (.t 0)), (.mv 85 (.t 8)), (.slc 86 k (.t 84) (some (.t 85)) none none), (.mv 87 (.t 2)), (.cpy (some 88) k (.t 86) (.t 87))]) (.seq (.reg [(.mv 89 (.t 0)), (.mv 90 (.t 1)), (.slc 91 k (.t 89) (some (.t 90)) none none), (.mv 92 (.t 7)), (.call (some 93) (.c (.func fr [] [])) [(.t 91), (.t 92)])]) (.seq (.reg [(.mv 94 (.t 0)), (.mv 6 (.t 94))]) .ret))))))))))))
theorem e268 : compC prog f268.ntmps (f268.body.getD .skip) = cIns 104 6 56 [(.int .i64 0), (.int .i64 0), (.int .i64 0), (.int .i64 0), (.int .i64 0), (.str (ByteArray.mk #[]))] 350 351 := by kernel_rfl
theorem e214 : compC prog f214.ntmps (f214.body.getD .skip) = cIns 160 2 16 [(.int .i64 0), (.int .i64 0)] 312 313 := by kernel_rfl
theorem e203 : compC prog f203.ntmps (f203.body.getD .skip) = cIns 3 1 8 [(.int .i64 0)] 306 307 := by kernel_rfl
theorem clo_ltv {c : AVal} (h : clo c = true) : ltv 0 c = true := by cases c <;> first | rfl | cases h
theorem clo_ltL : ∀ {cs : List AVal}, (∀ c ∈ cs, clo c = true) → ltL 0 cs = true
  | [], _ => rfl
  | c :: cs, h => by
    simp only [ltL, Bool.and_eq_true]
    exact ⟨clo_ltv (h c (by simp)), clo_ltL fun c hc => h c (by simp [hc])⟩
theorem clo_lt {es : List (List AVal)} (h : cloE es) : es.all (ltL 0) = true := List.all_eq_true.2 fun e he => clo_ltL (h e he)
theorem cloE_ins {xs : List (List AVal)} {v : List AVal} {i : Nat} (hc : cloE xs) (hcv : cloE [v]) : cloE (xs.take i ++ v :: xs.drop i) := by
  intro e he
  rcases List.mem_append.1 he with h | h
  · exact hc e (List.mem_of_mem_take h)
  · rcases List.mem_cons.1 h with h | h
    · exact hcv e (by simp [h])
    · exact hc e (List.mem_of_mem_drop h)
theorem lt_ins {v : List AVal} {k : Nat} {t : TypeId} {fv : Bool} (hcv : cloE [v]) : ([AObj.dead, AObj.cells 0 k t fv [v]] : Heap).all (ltO 2) = true := by
  have := clo_lt hcv
  simp only [List.all_cons, List.all_nil, ltO, Bool.and_true, Bool.true_and] at this ⊢
  exact ltL_mono (Nat.zero_le _) v this
theorem ins_V {t k bytes fo fr q i : Nat} {zs v : List AVal} {fv : Bool} {xs : List (List AVal)} (hk : 0 < k) (hzs : zs.length = k) (hv : v.length = k) (hc : cloE xs) (hcv : cloE [v]) (hb : (xs.length + 1) * bytes ≤ 140737488355328) (hn : xs.length + 1 ≤ 140737488355328) (hi : i ≤ xs.length)
    (hov : ∀ {qA qB oB lB : Nat} {fa fb : Bool} {v : List AVal} {es : List (List AVal)}, 1 ≤ lB → ACalls prog fo [.row 0 qA 0 1, .row 1 qB oB lB] [.cells qA k t fa [v], .cells qB k t fb es] (.bool false) [.cells qA k t fa [v], .cells qB k t fb es]) :
    V prog 95 2 (Ret [.t 6] 2 (.sl k (xs.take i ++ v :: xs.drop i)) [.dead, .cells 0 k t fv [v]]) [.code (cIns t k bytes zs fo fr)] (argS [.row 0 q 0 xs.length, .int .i64 i, .row 1 0 0 1] 0) [.cells q k t false xs, .cells 0 k t fv [v]] := by
  simp only [cIns, argS]
  have n1 : (xs.length : Int).toNat = xs.length := by omega
  have i1 : (i : Int).toNat = i := by omega
  simp only [go_sem, Nat.reduceEqDiff, Nat.reduceAdd, Nat.reduceLeDiff, Nat.reduceLT, reduceIte, Int.reduceEq, Int.reduceLE, Int.reduceLT, Int.reduceNeg, Int.reduceToNat, Int.reduceAdd, Int.reduceSub, Int.reduceMul, Int.reduceNegSucc, List.reduceReplicate, reduceCtorEq, n1, i1, Nat.zero_add]
  refine ⟨⟨by omega, by omega, by omega⟩, ?_⟩
  rcases Nat.lt_or_ge i xs.length with hlt | hge
  · have d1 : decide ((i : Int) = (xs.length : Int)) = false := by simp; omega
    have w1 : IntKind.i64.wrap ((xs.length : Int) + 1) = ((xs.length + 1 : Nat) : Int) := by rw [wrap_ok (by omega) (by omega)]; omega
    simp only [go_sem, Nat.reduceEqDiff, Nat.reduceAdd, Nat.reduceLeDiff, Nat.reduceLT, reduceIte, Int.reduceEq, Int.reduceLE, Int.reduceLT, Int.reduceNeg, Int.reduceToNat, Int.reduceAdd, Int.reduceSub, Int.reduceMul, Int.reduceNegSucc, List.reduceReplicate, reduceCtorEq, d1]
    rw [CPX_row rfl]
    intro m _
    have hl : (xs ++ List.replicate m (List.replicate k AVal.undef)).length = xs.length + m := by simp
    have w2 : IntKind.i64.wrap (((xs.length + 1 : Nat) : Int) - (i : Int)) = ((xs.length + 1 - i : Nat) : Int) := by rw [wrap_ok (by omega) (by omega)]; omega
    have w3 : IntKind.i64.wrap ((i : Int) + 1) = ((i + 1 : Nat) : Int) := by rw [wrap_ok (by omega) (by omega)]; omega
    have c1 : ((xs.length + 1 - i : Nat) : Int).toNat = xs.length + 1 - i := by omega
    have c2 : ((xs.length + 1 : Nat) : Int).toNat = xs.length + 1 := by omega
    have c3 : ((i + 1 : Nat) : Int).toNat = i + 1 := by omega
    have r1 : i + (xs.length + 1 - i) = xs.length + 1 := by omega
    rcases Nat.eq_zero_or_pos m with hm | hm
    · subst hm
      have d2 : decide ((xs.length : Int) + 0 - 0 < ((xs.length + 1 : Nat) : Int)) = true := by simp; omega
      have r2 : ¬ i = xs.length := by omega
      have r3 : ¬ xs.length + 1 ≤ xs.length := by omega
      have m1 : min 1 (xs.length + 1 - i) = 1 := by omega
      have t1 : List.take 1 [v] = [v] := rfl
      have t2 : List.take (xs.length - i) (List.drop i xs) = List.drop i xs := List.take_of_length_le (by simp)
      have t3 : (List.drop i xs).length = xs.length - i := by simp
      have m2 : min (xs.length - i) (xs.length + 1 - (i + 1)) = xs.length - i := by omega
      have t4 : List.take (xs.length - i) (List.drop i xs) = List.drop i xs := List.take_of_length_le (by simp)
      have r4 : i + 1 + (xs.length - i) = xs.length + 1 := by omega
      have hlA : (List.take i xs).length = i := by simp; omega
      have hA1 : (List.take i xs ++ List.replicate (xs.length + 1 - i) zs).length = xs.length + 1 := by rw [List.length_append, hlA, List.length_replicate]; omega
      have hA2 : List.take i (List.take i xs ++ List.replicate (xs.length + 1 - i) zs) = List.take i xs := by
        have h := List.take_left (l₁ := List.take i xs) (l₂ := List.replicate (xs.length + 1 - i) zs)
        rwa [hlA] at h
      have hA3 : List.drop (i + 1) (List.take i xs ++ List.replicate (xs.length + 1 - i) zs) = List.replicate (xs.length - i) zs := by
        have h1 : List.drop (i + 1) (List.take i xs) = [] := List.drop_eq_nil_of_le (by omega)
        rw [List.drop_append, h1, hlA, List.drop_replicate, show xs.length + 1 - i - (i + 1 - i) = xs.length - i by omega]; rfl
      have hB : List.take i (List.take i xs ++ List.replicate (xs.length + 1 - i) zs) ++ [v] ++ List.drop (i + 1) (List.take i xs ++ List.replicate (xs.length + 1 - i) zs) = List.take i xs ++ v :: List.replicate (xs.length - i) zs := by
        rw [hA2, hA3, List.append_assoc]; rfl
      have hl2 : (List.take i xs ++ v :: List.replicate (xs.length - i) zs).length = xs.length + 1 := by
        rw [List.length_append, hlA, List.length_cons, List.length_replicate]; omega
      have hC : List.take (i + 1) (List.take i xs ++ v :: List.replicate (xs.length - i) zs) ++ List.drop i xs ++ List.drop (xs.length + 1) (List.take i xs ++ v :: List.replicate (xs.length - i) zs) = List.take i xs ++ v :: List.drop i xs := by
        have h1 : List.drop (xs.length + 1) (List.take i xs ++ v :: List.replicate (xs.length - i) zs) = [] := List.drop_eq_nil_of_le (by omega)
        have h2 : List.take (i + 1) (List.take i xs) = List.take i xs := List.take_of_length_le (by omega)
        rw [h1, List.append_nil, List.take_append, h2, hlA, show i + 1 - i = 1 by omega]
        simp
      have hl3 : (List.take i xs ++ v :: List.drop i xs).length = xs.length + 1 := by rw [List.length_append, hlA, List.length_cons, List.length_drop]; omega
      simp only [go_sem, Nat.reduceEqDiff, Nat.reduceAdd, Nat.reduceLeDiff, Nat.reduceLT, reduceIte, Int.reduceEq, Int.reduceLE, Int.reduceLT, Int.reduceNeg, Int.reduceToNat, Int.reduceAdd, Int.reduceSub, Int.reduceMul, Int.reduceNegSucc, List.reduceReplicate, reduceCtorEq, hl, w1, w2, w3, n1, i1, c1, c2, c3, d2, r1, r2, r3, List.replicate_zero, List.append_nil, Nat.sub_zero, List.length_replicate, m1, t1, t2, t3, m2, r4, hB, hC]
      refine ⟨⟨by omega, by omega⟩, ⟨by omega, by omega, hzs⟩, ⟨by omega, hb⟩, ⟨by omega, by omega, by omega⟩, ⟨by omega, by omega, by omega⟩, ⟨by omega, by omega, by omega⟩, ?_⟩
      refine Rt.gs (Gs_freeze 2 (s' := [(6, .sl k (xs.take i ++ v :: xs.drop i))]) (H' := [.dead, .cells 0 k t fv [v], .dead]) rfl ?_ ?_) (Rt_T (H := [_, _]) _ (by rfl) (by rfl) ?_ (Nat.le_refl _))
      · refine List.forall_mem_cons.2 ⟨?_, by simp⟩
        refine Fz.row 0 (xs.length + 1) ?_ ?_
        · rw [List.drop_zero]; exact List.take_of_length_le (by omega)
        · exact cloE_ins hc hcv
      · repeat' (first | exact FzL.nil | refine FzL.cons ?_ ?_ | exact Fz.wk (Wk.refl _) | exact Fz.wk (Wk.nil _) | exact Fz.wk (Wk.emp _) | exact Fz.row0 _ _ _ _ | exact FzH.nil _ | exact FzO.refl _ | refine FzO.one ?_ | refine FzH.cons (by decide) ?_ ?_ | refine FzH.this rfl ?_ | exact FzO.dead (by simp) | (simp only [List.forall_mem_cons, List.not_mem_nil, false_implies, implies_true, and_true, go_sem, Nat.reduceEqDiff, Nat.reduceAdd, Nat.reduceLeDiff, Nat.reduceLT, reduceIte, Int.reduceEq, Int.reduceLE, Int.reduceLT, Int.reduceNeg, Int.reduceToNat, Int.reduceAdd, Int.reduceSub, Int.reduceMul, Int.reduceNegSucc, List.reduceReplicate, reduceCtorEq]) | refine And.intro ?_ ?_)
      · exact lt_ins hcv
    · have d2 : decide ((xs.length : Int) + (m : Int) - 0 < ((xs.length + 1 : Nat) : Int)) = false := by simp; omega
      have r5 : ((xs.length + 1 : Nat) : Int) ≤ ((xs.length + m : Nat) : Int) := by omega
      simp only [go_sem, Nat.reduceEqDiff, Nat.reduceAdd, Nat.reduceLeDiff, Nat.reduceLT, reduceIte, Int.reduceEq, Int.reduceLE, Int.reduceLT, Int.reduceNeg, Int.reduceToNat, Int.reduceAdd, Int.reduceSub, Int.reduceMul, Int.reduceNegSucc, List.reduceReplicate, reduceCtorEq, hl, w1, w2, w3, n1, i1, c1, c2, c3, d2, r1, Nat.sub_zero]
      refine ⟨⟨by omega, by omega⟩, ⟨by omega, by omega, by omega⟩, ?_⟩
      have lt0 : (xs ++ List.replicate m (List.replicate k AVal.undef)).all (ltL 0) = true := by
        rw [List.all_append, clo_lt hc, Bool.true_and]
        refine List.all_eq_true.2 fun e he => ?_
        rw [List.eq_of_mem_replicate he]
        have : ∀ k, ltL 0 (List.replicate k AVal.undef) = true := by intro k; induction k <;> simp_all [ltL, ltv, List.replicate_succ]
        exact this k
      have lv0 : ([v] : List (List AVal)).all (ltL 0) = true := clo_lt hcv
      have lo0 : ∀ {q : Nat} {f : Bool}, ltO 0 (.cells q k t f (xs ++ List.replicate m (List.replicate k AVal.undef))) = true := lt0
      have lo1 : ∀ {q : Nat} {f : Bool}, ltO 0 (.cells q k t f [v]) = true := lv0
      refine CX_rd [1, 0] (hov (qA := 0) (qB := q) (oB := i + 1) (lB := xs.length + 1 - (i + 1)) (fa := fv) (fb := true) (v := v) (es := xs ++ List.replicate m (List.replicate k AVal.undef)) (by omega)) (by rfl) (by rfl) (by rfl) ?_ (by rfl) (by decide) (by rfl) ?_ (by rfl) ?_
      · rw [List.all_cons, List.all_cons, List.all_nil, ltO_mono (Nat.zero_le _) lo0, ltO_mono (Nat.zero_le _) lo1]; rfl
      · rw [List.map_cons, List.map_cons, List.map_nil, List.map_cons, List.map_cons, List.map_nil, renO_lt (m := 0) (fun id h => by omega) lo0, renO_lt (m := 0) (fun id h => by omega) lo1]; rfl
      have m1 : min 1 (xs.length + 1 - i) = 1 := by omega
      have t1 : List.take 1 [v] = [v] := rfl
      have hlA : (List.take i xs).length = i := by simp; omega
      have hU : (List.replicate m (List.replicate k AVal.undef)).length = m := List.length_replicate
      generalize List.replicate m (List.replicate k AVal.undef) = U at *
      have s2 : (List.take (xs.length + 1 - i) (List.drop i (xs ++ U))).length = xs.length + 1 - i := by rw [List.length_take, List.length_drop, hl]; omega
      have s3 : List.take (xs.length - i) (List.take (xs.length + 1 - i) (List.drop i (xs ++ U))) = List.drop i xs := by
        have h1 : (List.drop i xs).length = xs.length - i := List.length_drop
        have h2 := List.take_left (l₁ := List.drop i xs) (l₂ := U)
        rw [List.take_take, show min (xs.length - i) (xs.length + 1 - i) = xs.length - i by omega, List.drop_append, show i - xs.length = 0 by omega, List.drop_zero]
        rwa [h1] at h2
      have m3 : min (xs.length + 1 - i) (xs.length + 1 - (i + 1)) = xs.length - i := by omega
      have r4 : i + 1 + (xs.length - i) = xs.length + 1 := by omega
      have l1 : (List.take (i + 1) (xs ++ U)).length = i + 1 := by rw [List.length_take, hl]; omega
      have l2 : (List.take (i + 1) (xs ++ U) ++ List.drop i xs ++ List.drop (xs.length + 1) (xs ++ U)).length = xs.length + m := by
        rw [List.length_append, List.length_append, l1, List.length_drop, List.length_drop, hl]; omega
      simp only [go_sem, Nat.reduceEqDiff, Nat.reduceAdd, Nat.reduceLeDiff, Nat.reduceLT, reduceIte, Int.reduceEq, Int.reduceLE, Int.reduceLT, Int.reduceNeg, Int.reduceToNat, Int.reduceAdd, Int.reduceSub, Int.reduceMul, Int.reduceNegSucc, List.reduceReplicate, reduceCtorEq, hl, w1, w2, w3, n1, i1, c1, c2, c3, d2, r1, Nat.sub_zero, m1, t1, s2, m3, s3, r4, l2]
      refine ⟨⟨by omega, by omega, by omega⟩, ⟨by omega, by omega, by omega⟩, ⟨by omega, by omega, by omega⟩, ?_⟩
      refine Rt.gs (Gs_freeze 0 (s' := [(6, .sl k (xs.take i ++ v :: xs.drop i))]) (H' := [.dead, .cells 0 k t fv [v]]) rfl ?_ ?_) (Rt_all (by rfl) (by rfl) ?_ (Nat.le_refl _))
      · refine List.forall_mem_cons.2 ⟨?_, by simp⟩
        refine Fz.row 0 (xs.length + 1) ?_ (cloE_ins hc hcv)
        have e1 : List.take i (List.take (i + 1) (xs ++ U) ++ List.drop i xs ++ List.drop (xs.length + 1) (xs ++ U)) = List.take i xs := by
          rw [List.append_assoc, List.take_append_of_le_length (by omega), List.take_take, show min i (i + 1) = i by omega, List.take_append_of_le_length (by omega)]
        have e2 : List.drop (i + 1) (List.take (i + 1) (xs ++ U) ++ List.drop i xs ++ List.drop (xs.length + 1) (xs ++ U)) = List.drop i xs ++ List.drop (xs.length + 1) (xs ++ U) := by
          have h := List.drop_left (l₁ := List.take (i + 1) (xs ++ U)) (l₂ := List.drop i xs ++ List.drop (xs.length + 1) (xs ++ U))
          rw [l1] at h
          rw [List.append_assoc, h]
        rw [List.drop_zero, e1, e2]
        have h4 : (List.take i xs ++ [v] ++ List.drop i xs).length = xs.length + 1 := by rw [List.length_append, List.length_append, hlA, List.length_drop, List.length_singleton]; omega
        have h5 := List.take_left (l₁ := List.take i xs ++ [v] ++ List.drop i xs) (l₂ := List.drop (xs.length + 1) (xs ++ U))
        rw [h4] at h5
        rw [← List.append_assoc, h5, List.append_assoc]
        rfl
      · repeat' (first | exact FzL.nil | refine FzL.cons ?_ ?_ | exact Fz.wk (Wk.refl _) | exact Fz.wk (Wk.nil _) | exact Fz.wk (Wk.emp _) | exact Fz.row0 _ _ _ _ | exact FzH.nil _ | exact FzO.refl _ | refine FzO.one ?_ | refine FzH.cons (by decide) ?_ ?_ | refine FzH.this rfl ?_ | exact FzO.dead (by simp) | (simp only [List.forall_mem_cons, List.not_mem_nil, false_implies, implies_true, and_true, go_sem, Nat.reduceEqDiff, Nat.reduceAdd, Nat.reduceLeDiff, Nat.reduceLT, reduceIte, Int.reduceEq, Int.reduceLE, Int.reduceLT, Int.reduceNeg, Int.reduceToNat, Int.reduceAdd, Int.reduceSub, Int.reduceMul, Int.reduceNegSucc, List.reduceReplicate, reduceCtorEq]) | refine And.intro ?_ ?_)
      · exact lt_ins hcv
  · have d1 : decide ((i : Int) = (xs.length : Int)) = true := by simp; omega
    have hi2 : i = xs.length := by omega
    simp only [go_sem, Nat.reduceEqDiff, Nat.reduceAdd, Nat.reduceLeDiff, Nat.reduceLT, reduceIte, Int.reduceEq, Int.reduceLE, Int.reduceLT, Int.reduceNeg, Int.reduceToNat, Int.reduceAdd, Int.reduceSub, Int.reduceMul, Int.reduceNegSucc, List.reduceReplicate, reduceCtorEq, d1]
    refine ⟨hb, ?_⟩
    refine Rt.gs (Gs_freeze 0 (s' := [(6, .sl k (xs.take i ++ v :: xs.drop i))]) (H' := [.dead, .cells 0 k t fv [v]]) rfl ?_ ?_) (Rt_all (by rfl) (by rfl) ?_ (Nat.le_refl _))
    · refine List.forall_mem_cons.2 ⟨?_, by simp⟩
      refine Fz.row 0 (xs.length + 1) ?_ ?_
      · rw [List.drop_zero, hi2, List.take_length, List.drop_length, List.take_of_length_le (by simp)]
      · rw [hi2, List.take_length, List.drop_length]
        intro e he
        rcases List.mem_append.1 he with h | h
        · exact hc e h
        · exact hcv e h
    · repeat' (first | exact FzL.nil | refine FzL.cons ?_ ?_ | exact Fz.wk (Wk.refl _) | exact Fz.wk (Wk.nil _) | exact Fz.wk (Wk.emp _) | exact Fz.row0 _ _ _ _ | exact FzH.nil _ | exact FzO.refl _ | refine FzO.one ?_ | refine FzH.cons (by decide) ?_ ?_ | refine FzH.this rfl ?_ | exact FzO.dead (by simp) | (simp only [List.forall_mem_cons, List.not_mem_nil, false_implies, implies_true, and_true, go_sem, Nat.reduceEqDiff, Nat.reduceAdd, Nat.reduceLeDiff, Nat.reduceLT, reduceIte, Int.reduceEq, Int.reduceLE, Int.reduceLT, Int.reduceNeg, Int.reduceToNat, Int.reduceAdd, Int.reduceSub, Int.reduceMul, Int.reduceNegSucc, List.reduceReplicate, reduceCtorEq]) | refine And.intro ?_ ?_)
    · have := clo_lt hcv
      simp only [List.all_cons, List.all_nil, ltO, Bool.and_true, Bool.true_and] at this ⊢
      exact ltL_mono (Nat.zero_le _) v this

end Go.Av.T
set_option maxRecDepth 100000
set_option maxHeartbeats 1000000
set_option linter.unusedSimpArgs false
set_option linter.unusedVariables false
namespace Go.Av.T
open Go Go.Av Go.Av.Sp Go.Proofs.Tryz
theorem clone_O {t k bytes : Nat} {zs : List AVal} {xs : List (List AVal)} (hk : 0 < k) (hzs : zs.length = k) (hc : xs.all (ltL 1) = true) (hb : xs.length * bytes ≤ 140737488355328) :
    V prog 8 0 (Ret [.t 2] 0 (.row 0 1 0 xs.length) [.cells 1 k t false xs]) [.code (cClone t k bytes zs)] (argS [.sl k xs] 0) [] := by
  cases xs with
  | nil =>
    simp only [cClone, argS]
    simp only [go_sem, seval, hk]
    intro b
    cases b
    · simp only [go_sem, seval, hk, Nat.zero_mul]
      exact Rt_all (by rfl) (by rfl) (by rfl) (Nat.zero_le _)
    · simp only [go_sem, seval]
      exact Rt.gs (Gs_virt 2 t false hk (by rfl)) (Rt_all (by rfl) (by rfl) (by rfl) (Nat.zero_le _))
  | cons x xs => exact clone_R hk hzs hc hb
theorem c214_szf : ∀ w, (Go.sizeOf 160).run prog w = .ok 2 w := fun w => by rfl
theorem c153w_ok {xs : List Int} (hb : xs.length * 8 ≤ 140737488355328) : ACalls prog 153 [.sl 1 (xs.map eI)] [] (.row 0 1 0 xs.length) [.cells 1 1 3 false (xs.map eI)] := by
  refine calls_of hmx func153 (by kernel_rfl) (c := f153.body.getD .skip) rfl e153 (rs := [.t 2]) (by kernel_rfl) (show (1:Nat) ≤ 8 by decide) ?_
  have h := clone_O (t := 3) (k := 1) (bytes := 8) (zs := [.int .i64 0]) (xs := xs.map eI) (by decide) rfl (lt_map fun _ => by rfl) (by simpa using hb)
  rw [List.length_map] at h
  exact h
theorem c260w_ok {xs : List Packet} (hb : xs.length * 56 ≤ 140737488355328) : ACalls prog 260 [.sl 6 (xs.map Packet.enc)] [] (.row 0 1 0 xs.length) [.cells 1 6 104 false (xs.map Packet.enc)] := by
  refine calls_of hmx func260 (by kernel_rfl) (c := f260.body.getD .skip) rfl e260 (rs := [.t 2]) (by kernel_rfl) (show (1:Nat) ≤ 8 by decide) ?_
  have h := clone_O (t := 104) (k := 6) (bytes := 56) (zs := [(.int .i64 0), (.int .i64 0), (.int .i64 0), (.int .i64 0), (.int .i64 0), (.str (ByteArray.mk #[]))]) (xs := xs.map Packet.enc) (by decide) rfl (lt_map fun _ => by rfl) (by simpa using hb)
  rw [List.length_map] at h
  exact h
theorem c261w_ok {xs : List Held} (hb : xs.length * 64 ≤ 140737488355328) : ACalls prog 261 [.sl 5 (xs.map Held.enc)] [] (.row 0 1 0 xs.length) [.cells 1 5 100 false (xs.map Held.enc)] := by
  refine calls_of hmx func261 (by kernel_rfl) (c := f261.body.getD .skip) rfl e261 (rs := [.t 2]) (by kernel_rfl) (show (1:Nat) ≤ 8 by decide) ?_
  have h := clone_O (t := 100) (k := 5) (bytes := 64) (zs := [(.int .i64 0), (.int .i64 0), (.int .i64 0), (.str (ByteArray.mk #[])), .nil]) (xs := xs.map Held.enc) (by decide) rfl (lt_map fun _ => by rfl) (by simpa using hb)
  rw [List.length_map] at h
  exact h
theorem c262w_ok {xs : List Seen} (hb : xs.length * 16 ≤ 140737488355328) : ACalls prog 262 [.sl 2 (xs.map Seen.enc)] [] (.row 0 1 0 xs.length) [.cells 1 2 160 false (xs.map Seen.enc)] := by
  refine calls_of hmx func262 (by kernel_rfl) (c := f262.body.getD .skip) rfl e262 (rs := [.t 2]) (by kernel_rfl) (show (1:Nat) ≤ 8 by decide) ?_
  have h := clone_O (t := 160) (k := 2) (bytes := 16) (zs := [(.int .i64 0), (.int .i64 0)]) (xs := xs.map Seen.enc) (by decide) rfl (lt_map fun _ => by rfl) (by simpa using hb)
  rw [List.length_map] at h
  exact h
theorem ov350 {qA qB oB lB : Nat} {fa fb : Bool} {v : List AVal} {es : List (List AVal)} (h : 1 ≤ lB) : ACalls prog 350 [.row 0 qA 0 1, .row 1 qB oB lB] [.cells qA 6 104 fa [v], .cells qB 6 104 fb es] (.bool false) [.cells qA 6 104 fa [v], .cells qB 6 104 fb es] :=
  overlaps_ok (tS := 25) (tR := 4) (e := 104) func350 (by kernel_rfl) (by kernel_rfl) (by kernel_rfl) (by kernel_rfl) (by kernel_rfl) (fun w => by rfl) h
theorem c268_ok {xs : List Packet} {v : Packet} {i q : Nat} {fv : Bool} (hi : i ≤ xs.length) (hb : (xs.length + 1) * 56 ≤ 140737488355328) : ACalls prog 268 [.row 0 q 0 xs.length, .int .i64 i, .row 1 0 0 1] [.cells q 6 104 false (xs.map Packet.enc), .cells 0 6 104 fv [Packet.enc v]] (.sl 6 ((xs.take i ++ v :: xs.drop i).map Packet.enc)) [.dead, .cells 0 6 104 fv [Packet.enc v]] := by
  refine calls_of hmx func268 (by kernel_rfl) (c := f268.body.getD .skip) rfl e268 (rs := [.t 6]) (by kernel_rfl) (show (3:Nat) ≤ 95 by decide) ?_
  have h := ins_V (t := 104) (k := 6) (bytes := 56) (zs := [(.int .i64 0), (.int .i64 0), (.int .i64 0), (.int .i64 0), (.int .i64 0), (.str (ByteArray.mk #[]))]) (fo := 350) (fr := 351) (q := q) (i := i) (v := Packet.enc v) (fv := fv) (xs := xs.map Packet.enc) (by decide) rfl rfl (cloE_map fun _ => by rfl) (cloE_map (f := Packet.enc) (xs := [v]) fun _ => by rfl) (by simpa using hb) (by rw [List.length_map]; omega) (by simpa using hi) ov350
  rw [List.length_map] at h
  rw [List.map_append, List.map_take, List.map_cons, List.map_drop]
  exact h
theorem ov312 {qA qB oB lB : Nat} {fa fb : Bool} {v : List AVal} {es : List (List AVal)} (h : 1 ≤ lB) : ACalls prog 312 [.row 0 qA 0 1, .row 1 qB oB lB] [.cells qA 2 160 fa [v], .cells qB 2 160 fb es] (.bool false) [.cells qA 2 160 fa [v], .cells qB 2 160 fb es] :=
  overlaps_ok (tS := 29) (tR := 4) (e := 160) func312 (by kernel_rfl) (by kernel_rfl) (by kernel_rfl) (by kernel_rfl) (by kernel_rfl) (fun w => by rfl) h
theorem c214_ok {xs : List Seen} {v : Seen} {i q : Nat} {fv : Bool} (hi : i ≤ xs.length) (hb : (xs.length + 1) * 16 ≤ 140737488355328) : ACalls prog 214 [.row 0 q 0 xs.length, .int .i64 i, .row 1 0 0 1] [.cells q 2 160 false (xs.map Seen.enc), .cells 0 2 160 fv [Seen.enc v]] (.sl 2 ((xs.take i ++ v :: xs.drop i).map Seen.enc)) [.dead, .cells 0 2 160 fv [Seen.enc v]] := by
  refine calls_of hmx func214 (by kernel_rfl) (c := f214.body.getD .skip) rfl e214 (rs := [.t 6]) (by kernel_rfl) (show (3:Nat) ≤ 95 by decide) ?_
  have h := ins_V (t := 160) (k := 2) (bytes := 16) (zs := [(.int .i64 0), (.int .i64 0)]) (fo := 312) (fr := 313) (q := q) (i := i) (v := Seen.enc v) (fv := fv) (xs := xs.map Seen.enc) (by decide) rfl rfl (cloE_map fun _ => by rfl) (cloE_map (f := Seen.enc) (xs := [v]) fun _ => by rfl) (by simpa using hb) (by rw [List.length_map]; omega) (by simpa using hi) ov312
  rw [List.length_map] at h
  rw [List.map_append, List.map_take, List.map_cons, List.map_drop]
  exact h
theorem ov306 {qA qB oB lB : Nat} {fa fb : Bool} {v : List AVal} {es : List (List AVal)} (h : 1 ≤ lB) : ACalls prog 306 [.row 0 qA 0 1, .row 1 qB oB lB] [.cells qA 1 3 fa [v], .cells qB 1 3 fb es] (.bool false) [.cells qA 1 3 fa [v], .cells qB 1 3 fb es] :=
  overlaps_ok (tS := 76) (tR := 4) (e := 3) func306 (by kernel_rfl) (by kernel_rfl) (by kernel_rfl) (by kernel_rfl) (by kernel_rfl) (fun w => by rfl) h
theorem c203_ok {xs : List Int} {v : Int} {i q : Nat} {fv : Bool} (hi : i ≤ xs.length) (hb : (xs.length + 1) * 8 ≤ 140737488355328) : ACalls prog 203 [.row 0 q 0 xs.length, .int .i64 i, .row 1 0 0 1] [.cells q 1 3 false (xs.map eI), .cells 0 1 3 fv [eI v]] (.sl 1 ((xs.take i ++ v :: xs.drop i).map eI)) [.dead, .cells 0 1 3 fv [eI v]] := by
  refine calls_of hmx func203 (by kernel_rfl) (c := f203.body.getD .skip) rfl e203 (rs := [.t 6]) (by kernel_rfl) (show (3:Nat) ≤ 95 by decide) ?_
  have h := ins_V (t := 3) (k := 1) (bytes := 8) (zs := [.int .i64 0]) (fo := 306) (fr := 307) (q := q) (i := i) (v := eI v) (fv := fv) (xs := xs.map eI) (by decide) rfl rfl (cloE_map fun _ => by rfl) (cloE_map (f := eI) (xs := [v]) fun _ => by rfl) (by simpa using hb) (by rw [List.length_map]; omega) (by simpa using hi) ov306
  rw [List.length_map] at h
  rw [List.map_append, List.map_take, List.map_cons, List.map_drop]
  exact h

end Go.Av.T
