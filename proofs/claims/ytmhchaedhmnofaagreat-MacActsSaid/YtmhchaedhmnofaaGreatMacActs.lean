/- The seat: part MacActs. -/
import Derived.Test.YtmhchaedhmnofaaGreatT17
import Derived.Test.YtmhchaedhmnofaaGreatT13
import Derived.Test.YtmhchaedhmnofaaGreatT14
import Derived.Test.YtmhchaedhmnofaaGreatFcMacActs
/- The row of MacActs. -/
set_option linter.unusedVariables false
set_option linter.unusedSimpArgs false
set_option maxRecDepth 100000
namespace Go.Proofs.YtmhchaedhmnofaaGreat
open Go Go.Av Go.Av.T Go.Av.Sp Go.Proofs.Tryz Go.ChangeShapes Go.WideShapes Go.ChangeAt Go.RowKit

theorem macActs_lifted (os : Os) (started : os.Started) (H : Type) (enc : TypeId × Value → H) :
    ReturnsInHanded {} Proofs.Tryz.checked os 4 .any (Rows.macActsSpec.pre6 enc prog f4 Rows.macActsRow.domain false) (Rows.macActsSpec.post enc prog f4 false true false false) := by
  refine returnsInHanded_of_change (C := Proofs.Tryz.checked) ownK started (by kernel_rfl) func4
    (ChangeSpec.witness6 (enc := enc) (C := Proofs.Tryz.checked) false ⟨#[], #[.agg #[.int .i64 0, .int .i64 0, .slice none 0 0, .int .i64 0, .slice none 0 0, .slice none 0 0, .slice none 0 0, .int .i64 0, .int .i64 0, .int .i64 0, .int .i64 0, .int .i64 0, .int .i64 0, .int .i64 0], .int .i64 0], []⟩ 8 (by kernel_rfl) (by kernel_rfl) (by kernel_rfl) (by kernel_rfl)) ?_
  intro W base args ds gs before hval0 hW hcnd _
  have hval : ∀ (j : Nat) t v, f4.params[j]? = some t → args[j]? = some v → Value.okWide prog W .any base t v := hval0
  have hW' := hW
  obtain ⟨p, q, hA0, hV, rfl, hfz, hnd⟩ := hW
  have hA : DataW.TrodAll enc prog W 0 (fun _ => true) true f4.params.toList args.toList ds p := hA0
  rw [params4] at hA hval
  obtain ⟨v0, v1, d0, d1, p0, p1, rfl, rfl, rfl, h0, h1⟩ := trodAll_two hA
  obtain ⟨rfl, rfl⟩ := trodVars_none hV
  obtain ⟨a, rfl, rfl, rfl, wa⟩ := open_int underlying3 (hval 1 3 v1 rfl rfl) h1
  have hv0 := hval 0 31 v0 rfl rfl
  obtain ⟨cs, rfl, hcs⟩ : ∃ cs, v0 = .agg cs ∧ cs.size = prog.cellsOf 31 := by
    simp only [Value.okWide, underlying31] at hv0
    obtain ⟨cs, e1, e2, _⟩ := hv0
    exact ⟨cs, e1, e2⟩
  obtain ⟨fuel, h0⟩ := h0
  obtain ⟨s, ⟨hs1, hs2⟩, hs3, hs4⟩ := rd31 enc W 0 (fun _ => true) true fuel _ _ h0
  have hc := c4_ok (s := s) (slot := a) (by have : maxLen = 2 ^ 63 - 1 := rfl; omega) (by have : maxLen = 2 ^ 63 - 1 := rfl; omega)
  refine (calls_law (vs := #[.agg cs, .int .i64 a]) (W := W) func4 (by kernel_rfl) (by kernel_rfl) hc rfl ?_).mono fun e W' ⟨he, ho⟩ => ?_
  · intro j c v hj hv
    match j with
    | 0 =>
      simp only [List.getElem?_cons_zero, Option.some.injEq] at hj
      simp only [List.getElem?_toArray, List.getElem?_cons_zero, Option.some.injEq] at hv
      subst hj hv
      refine .inr (VR.agg _ _ ?_ (fun j v hv => ?_) (fun j c v h1 h2 => .cl _ _ ?_))
      · exact hs3.trans hcs.symm
      · have hj : j < s.enc.length := by
          have := (Array.getElem?_eq_some_iff.1 hv).1
          rw [hs3, ← hcs]
          exact this
        exact (hs4.2 j _ v (List.getElem?_eq_getElem hj) (by simpa [Value.cells] using hv)).one
      · exact hs4.2 j c v h1 (by simpa [Value.cells] using h2)
    | 1 =>
      simp only [List.getElem?_cons_succ, List.getElem?_cons_zero, Option.some.injEq] at hj
      simp only [List.getElem?_toArray, List.getElem?_cons_succ, List.getElem?_cons_zero, Option.some.injEq] at hv
      subst hj hv
      exact .inl (.int _ _)
    | j + 2 => simp at hj
  · subst he
    exact ⟨_, rfl, post_old kids full (fun t ht => of_decide_eq_true (List.all_eq_true.1 (show (f4.params.toList.all fun t => decide (t < prog.types.size)) = true by kernel_rfl) t ht)) rfl hW' ho (fun _ _ _ => trodAll_mk1 (shut_bool underlying4 _)) rfl rfl (ok_one (by kernel_rfl) rfl (okWide_bool_mk underlying4 _))⟩
theorem macActs_over : Rows.macActsRow.holds Tryz.pinned (OpenSpec.ofChange Rows.macActsSpec) :=
  OpenClaim.holds_of_wide 4 f4 rfl rfl rfl rfl rfl rfl rfl ⟨rfl, rfl, rfl, rfl, rfl⟩ rfl rfl rfl rfl rfl macActsNamed func4
    macActsFacts macActsInst macActsWrap (fun os started H enc _ => macActs_lifted os started H enc)
theorem macActs : Rows.MacActsSaid := macActs_over
#print axioms macActs
end Go.Proofs.YtmhchaedhmnofaaGreat
