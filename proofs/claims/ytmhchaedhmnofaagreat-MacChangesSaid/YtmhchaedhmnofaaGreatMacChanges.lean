/- The seat: part MacChanges. -/
import Derived.Test.YtmhchaedhmnofaaGreatCh13
import Derived.Test.YtmhchaedhmnofaaGreatCh6
import Derived.Test.YtmhchaedhmnofaaGreatFcMacChanges
/- The row of MacChanges. -/
set_option linter.unusedVariables false
set_option linter.unusedSimpArgs false
set_option maxRecDepth 100000
namespace Go.Proofs.YtmhchaedhmnofaaGreat
open Go Go.Av Go.Av.T Go.Av.Sp Go.Proofs.Tryz Go.ChangeShapes Go.WideShapes Go.ChangeAt Go.RowKit

theorem macChanges_lifted (os : Os) (started : os.Started) (H : Type) (enc : TypeId × Value → H) :
    ReturnsInHanded {} Proofs.Tryz.checked os 10 .any (Rows.macChangesSpec.pre6 enc prog f10 Rows.macChangesRow.domain false) (Rows.macChangesSpec.post enc prog f10 false true false false) := by
  refine returnsInHanded_of_change (C := Proofs.Tryz.checked) ownK started (by kernel_rfl) func10
    (ChangeSpec.witness6 (enc := enc) (C := Proofs.Tryz.checked) false ⟨#[], #[.agg #[.int .i64 0, .int .i64 0, .slice none 0 0, .int .i64 0, .slice none 0 0, .slice none 0 0, .slice none 0 0, .int .i64 0, .int .i64 0, .int .i64 0, .int .i64 0, .int .i64 0, .int .i64 0, .int .i64 0], .agg #[.int .i64 0, .int .i64 0, .int .i64 0, .string ByteArray.empty, .slice none 0 0], .agg #[.int .i64 0, .int .i64 0, .int .i64 0, .int .i64 0, .int .i64 0, .string ByteArray.empty], .int .i64 0], []⟩ 8 (by kernel_rfl) (by kernel_rfl) (by kernel_rfl) (by kernel_rfl)) ?_
  intro W base args ds gs before hval0 hW hcnd _
  have hval : ∀ (j : Nat) t v, f10.params[j]? = some t → args[j]? = some v → Value.okWide prog W .any base t v := hval0
  have hW' := hW
  obtain ⟨p, q, hA0, hV, rfl, hfz, hnd⟩ := hW
  have hA : DataW.TrodAll enc prog W 0 (fun _ => true) true f10.params.toList args.toList ds p := hA0
  rw [params10] at hA hval
  obtain ⟨v0, v1, v2, v3, d0, d1, d2, d3, p0, p1, p2, p3, rfl, rfl, rfl, h0, h1, h2, h3⟩ := trodAll_four hA
  obtain ⟨rfl, rfl⟩ := trodVars_none hV
  obtain ⟨a3, rfl, rfl, rfl, wa3⟩ := open_int underlying3 (hval 3 3 v3 rfl rfl) h3
  have hv0 := hval 0 31 v0 rfl rfl
  obtain ⟨cs0, rfl, hcs0⟩ : ∃ cs, v0 = .agg cs ∧ cs.size = prog.cellsOf 31 := by
    simp only [Value.okWide, underlying31] at hv0
    obtain ⟨cs, e1, e2, _⟩ := hv0
    exact ⟨cs, e1, e2⟩
  obtain ⟨fuel0, h0⟩ := h0
  obtain ⟨s0, sd0, sl0, sr0⟩ := rd31 enc W 0 (fun _ => true) true fuel0 _ _ h0
  have hv1 := hval 1 100 v1 rfl rfl
  obtain ⟨cs1, rfl, hcs1⟩ : ∃ cs, v1 = .agg cs ∧ cs.size = prog.cellsOf 100 := by
    simp only [Value.okWide, underlying100] at hv1
    obtain ⟨cs, e1, e2, _⟩ := hv1
    exact ⟨cs, e1, e2⟩
  obtain ⟨fuel1, h1⟩ := h1
  obtain ⟨s1, sd1, sl1, sr1⟩ := rd100 enc W 0 (fun _ => true) true fuel1 _ _ h1
  have hv2 := hval 2 104 v2 rfl rfl
  obtain ⟨cs2, rfl, hcs2⟩ : ∃ cs, v2 = .agg cs ∧ cs.size = prog.cellsOf 104 := by
    simp only [Value.okWide, underlying104] at hv2
    obtain ⟨cs, e1, e2, _⟩ := hv2
    exact ⟨cs, e1, e2⟩
  obtain ⟨fuel2, h2⟩ := h2
  obtain ⟨s2, sd2, sl2, sr2⟩ := rd104 enc W 0 (fun _ => true) true fuel2 _ _ h2
  have hc := c10_ok (s := s0) (h := s1) (p := s2) (slot := a3) (by have := sd0.1; have : maxLen = 2 ^ 63 - 1 := rfl; omega) (by have := sd0.2; have : maxLen = 2 ^ 63 - 1 := rfl; omega)
  refine (calls_law (vs := #[.agg cs0, .agg cs1, .agg cs2, .int .i64 a3]) (W := W) func10 (by kernel_rfl) (by kernel_rfl) hc rfl ?_).mono fun e W' ⟨he, ho⟩ => ?_
  · intro j c v hj hv
    match j with
    | 0 =>
      simp only [List.getElem?_cons_zero, Option.some.injEq] at hj
      simp only [List.getElem?_toArray, List.getElem?_cons_zero, Option.some.injEq] at hv
      subst hj hv
      refine .inr (VR.agg _ _ ?_ (fun j v hv => ?_) (fun j c v h1 h2 => .cl _ _ ?_))
      · exact sl0.trans hcs0.symm
      · have hj : j < s0.enc.length := by
          have := (Array.getElem?_eq_some_iff.1 hv).1
          rw [sl0, ← hcs0]
          exact this
        exact (sr0.2 j _ v (List.getElem?_eq_getElem hj) (by simpa [Value.cells] using hv)).one
      · exact sr0.2 j c v h1 (by simpa [Value.cells] using h2)
    | 1 =>
      simp only [List.getElem?_cons_succ, List.getElem?_cons_zero, Option.some.injEq] at hj
      simp only [List.getElem?_toArray, List.getElem?_cons_succ, List.getElem?_cons_zero, Option.some.injEq] at hv
      subst hj hv
      refine .inr (VR.agg _ _ ?_ (fun j v hv => ?_) (fun j c v h1 h2 => .cl _ _ ?_))
      · exact sl1.trans hcs1.symm
      · have hj : j < s1.enc.length := by
          have := (Array.getElem?_eq_some_iff.1 hv).1
          rw [sl1, ← hcs1]
          exact this
        exact (sr1.2 j _ v (List.getElem?_eq_getElem hj) (by simpa [Value.cells] using hv)).one
      · exact sr1.2 j c v h1 (by simpa [Value.cells] using h2)
    | 2 =>
      simp only [List.getElem?_cons_succ, List.getElem?_cons_zero, Option.some.injEq] at hj
      simp only [List.getElem?_toArray, List.getElem?_cons_succ, List.getElem?_cons_zero, Option.some.injEq] at hv
      subst hj hv
      refine .inr (VR.agg _ _ ?_ (fun j v hv => ?_) (fun j c v h1 h2 => .cl _ _ ?_))
      · exact sl2.trans hcs2.symm
      · have hj : j < s2.enc.length := by
          have := (Array.getElem?_eq_some_iff.1 hv).1
          rw [sl2, ← hcs2]
          exact this
        exact (sr2.2 j _ v (List.getElem?_eq_getElem hj) (by simpa [Value.cells] using hv)).one
      · exact sr2.2 j c v h1 (by simpa [Value.cells] using h2)
    | 3 =>
      simp only [List.getElem?_cons_succ, List.getElem?_cons_zero, Option.some.injEq] at hj
      simp only [List.getElem?_toArray, List.getElem?_cons_succ, List.getElem?_cons_zero, Option.some.injEq] at hv
      subst hj hv
      exact .inl (.int _ _)
    | j + 4 => simp at hj
  · subst he
    exact ⟨_, rfl, post_old kids full (fun t ht => of_decide_eq_true (List.all_eq_true.1 (show (f10.params.toList.all fun t => decide (t < prog.types.size)) = true by kernel_rfl) t ht)) rfl hW' ho (fun _ _ _ => trodAll_mk1 (shut_bool underlying4 _)) rfl rfl (ok_one (by kernel_rfl) rfl (okWide_bool_mk underlying4 _))⟩
theorem macChanges_over : Rows.macChangesRow.holds Tryz.pinned (OpenSpec.ofChange Rows.macChangesSpec) :=
  OpenClaim.holds_of_wide 10 f10 rfl rfl rfl rfl rfl rfl rfl ⟨rfl, rfl, rfl, rfl, rfl⟩ rfl rfl rfl rfl rfl macChangesNamed func10
    macChangesFacts macChangesInst macChangesWrap (fun os started H enc _ => macChanges_lifted os started H enc)
theorem macChanges : Rows.MacChangesSaid := macChanges_over
#print axioms macChanges
end Go.Proofs.YtmhchaedhmnofaaGreat
