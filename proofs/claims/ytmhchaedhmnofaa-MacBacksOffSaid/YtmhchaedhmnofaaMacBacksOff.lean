/- The seat: part MacBacksOff. -/
import Derived.Test.YtmhchaedhmnofaaBo10
import Derived.Test.YtmhchaedhmnofaaBo6
import Derived.Test.YtmhchaedhmnofaaFcMacBacksOff
/- The row of MacBacksOff. -/
set_option linter.unusedVariables false
set_option linter.unusedSimpArgs false
set_option maxRecDepth 100000
namespace Go.Proofs.Ytmhchaedhmnofaa
open Go Go.Av Go.Av.T Go.Av.Sp Go.Proofs.Try Go.ChangeShapes Go.WideShapes Go.ChangeAt Go.RowKit

theorem macBacksOff_lifted (os : Os) (started : os.Started) (H : Type) (enc : TypeId × Value → H) :
    ReturnsInHanded {} Proofs.Try.checked os 4 .any (Rows.macBacksOffSpec.pre6 enc prog f4 Rows.macBacksOffRow.domain false) (Rows.macBacksOffSpec.post enc prog f4 false true false false) := by
  refine returnsInHanded_of_change (C := Proofs.Try.checked) ownK started (by kernel_rfl) func4
    (ChangeSpec.witness6 (enc := enc) (C := Proofs.Try.checked) false ⟨#[], #[.int .u16 0, .int .u8 0, .int .u8 0], []⟩ 8 (by kernel_rfl) (by kernel_rfl) (by kernel_rfl) (by kernel_rfl)) ?_
  intro W base args ds gs before hval0 hW hcnd _
  have hval : ∀ (j : Nat) t v, f4.params[j]? = some t → args[j]? = some v → Value.okWide prog W .any base t v := hval0
  have hW' := hW
  obtain ⟨p, q, hA0, hV, rfl, hfz, hnd⟩ := hW
  have hA : DataW.TrodAll enc prog W 0 (fun _ => true) true f4.params.toList args.toList ds p := hA0
  rw [params4] at hA hval
  obtain ⟨v0, v1, v2, d0, d1, d2, p0, p1, p2, rfl, rfl, rfl, h0, h1, h2⟩ := trodAll_three hA
  obtain ⟨rfl, rfl⟩ := trodVars_none hV
  obtain ⟨a0, rfl, rfl, rfl, wa0⟩ := open_int underlying56 (hval 0 56 v0 rfl rfl) h0
  obtain ⟨a1, rfl, rfl, rfl, wa1⟩ := open_int underlying5 (hval 1 5 v1 rfl rfl) h1
  obtain ⟨a2, rfl, rfl, rfl, wa2⟩ := open_int underlying5 (hval 2 5 v2 rfl rfl) h2
  have hc := c4_ok (sd := a0) (u := a1) (v := a2) (by simp only [Lit.wf, Bool.and_eq_true, decide_eq_true_eq] at wa0; exact wa0) (by simp only [Lit.wf, Bool.and_eq_true, decide_eq_true_eq] at wa1; exact wa1) (by simp only [Lit.wf, Bool.and_eq_true, decide_eq_true_eq] at wa2; exact wa2)
  refine (calls_law (vs := #[.int .u16 a0, .int .u8 a1, .int .u8 a2]) (W := W) func4 (by kernel_rfl) (by kernel_rfl) hc rfl ?_).mono fun e W' ⟨he, ho⟩ => ?_
  · intro j c v hj hv
    match j with
    | 0 =>
      simp only [List.getElem?_cons_zero, Option.some.injEq] at hj
      simp only [List.getElem?_toArray, List.getElem?_cons_zero, Option.some.injEq] at hv
      subst hj hv
      exact .inl (.int _ _)
    | 1 =>
      simp only [List.getElem?_cons_succ, List.getElem?_cons_zero, Option.some.injEq] at hj
      simp only [List.getElem?_toArray, List.getElem?_cons_succ, List.getElem?_cons_zero, Option.some.injEq] at hv
      subst hj hv
      exact .inl (.int _ _)
    | 2 =>
      simp only [List.getElem?_cons_succ, List.getElem?_cons_zero, Option.some.injEq] at hj
      simp only [List.getElem?_toArray, List.getElem?_cons_succ, List.getElem?_cons_zero, Option.some.injEq] at hv
      subst hj hv
      exact .inl (.int _ _)
    | j + 3 => simp at hj
  · subst he
    exact ⟨_, rfl, post_old kids full (fun t ht => of_decide_eq_true (List.all_eq_true.1 (show (f4.params.toList.all fun t => decide (t < prog.types.size)) = true by kernel_rfl) t ht)) rfl hW' ho (fun _ _ _ => trodAll_mk1 (shut_bool underlying4 _)) rfl rfl (ok_one (by kernel_rfl) rfl (okWide_bool_mk underlying4 _))⟩
theorem macBacksOff_over : Rows.macBacksOffRow.holds Try.pinned (OpenSpec.ofChange Rows.macBacksOffSpec) :=
  OpenClaim.holds_of_wide 4 f4 rfl rfl rfl rfl rfl rfl rfl ⟨rfl, rfl, rfl, rfl, rfl⟩ rfl rfl rfl rfl rfl macBacksOffNamed func4
    macBacksOffFacts macBacksOffInst macBacksOffWrap (fun os started H enc _ => macBacksOff_lifted os started H enc)
theorem macBacksOff : Rows.MacBacksOffSaid := macBacksOff_over
#print axioms macBacksOff
end Go.Proofs.Ytmhchaedhmnofaa
