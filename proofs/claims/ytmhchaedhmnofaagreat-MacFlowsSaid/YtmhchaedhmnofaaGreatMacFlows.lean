/- The seat: part MacFlows. -/
import Derived.Test.YtmhchaedhmnofaaGreatFw11
import Derived.Test.YtmhchaedhmnofaaGreatFw6
import Derived.Test.YtmhchaedhmnofaaGreatFcMacFlows
/- The row of MacFlows. -/
set_option linter.unusedVariables false
set_option linter.unusedSimpArgs false
set_option maxRecDepth 100000
namespace Go.Av.T
open Go Go.Av Go.Av.Sp Go.Proofs.Tryz Go.ChangeShapes Go.WideShapes Go.ChangeAt Go.RowKit
theorem rd5 : Rd prog 5 eU (fun n => (Lit.int .u8 n).wf = true) := Rd.int underlying5 (by kernel_rfl)
theorem rd98 : Rd prog 98 (fun l : List Int => [.sl 1 (l.map eU)]) (fun l => (∀ v ∈ l, (Lit.int .u8 v).wf = true) ∧ l.length ≤ maxLen) := Rd.slice underlying98 (by kernel_rfl) (by kernel_rfl) (by decide) rd5
end Go.Av.T
namespace Go.Proofs.YtmhchaedhmnofaaGreat
open Go Go.Av Go.Av.T Go.Av.Sp Go.Proofs.Tryz Go.ChangeShapes Go.WideShapes Go.ChangeAt Go.RowKit

theorem macFlows_lifted (os : Os) (started : os.Started) (H : Type) (enc : TypeId × Value → H) :
    ReturnsInHanded {} Proofs.Tryz.checked os 9 .any (Rows.macFlowsSpec.pre6 enc prog f9 Rows.macFlowsRow.domain false) (Rows.macFlowsSpec.post enc prog f9 false true false false) := by
  refine returnsInHanded_of_change (C := Proofs.Tryz.checked) ownK started (by kernel_rfl) func9
    (ChangeSpec.witness6 (enc := enc) (C := Proofs.Tryz.checked) false ⟨#[], #[.int .u16 0, .int .u8 0, .string ByteArray.empty, .slice none 0 0], []⟩ 8 (by kernel_rfl) (by kernel_rfl) (by kernel_rfl) (by kernel_rfl)) ?_
  intro W base args ds gs before hval0 hW hcnd _
  have hval : ∀ (j : Nat) t v, f9.params[j]? = some t → args[j]? = some v → Value.okWide prog W .any base t v := hval0
  have hW' := hW
  obtain ⟨p, q, hA0, hV, rfl, hfz, hnd⟩ := hW
  have hA : DataW.TrodAll enc prog W 0 (fun _ => true) true f9.params.toList args.toList ds p := hA0
  rw [params9] at hA hval
  obtain ⟨v0, v1, v2, v3, d0, d1, d2, d3, p0, p1, p2, p3, rfl, rfl, rfl, h0, h1, h2, h3⟩ := trodAll_four hA
  obtain ⟨rfl, rfl⟩ := trodVars_none hV
  obtain ⟨a0, rfl, rfl, rfl, wa0⟩ := open_int underlying97 (hval 0 97 v0 rfl rfl) h0
  obtain ⟨a1, rfl, rfl, rfl, wa1⟩ := open_int underlying5 (hval 1 5 v1 rfl rfl) h1
  obtain ⟨a2, rfl⟩ := okWide_string underlying9 (hval 2 9 v2 rfl rfl)
  obtain ⟨p3, n3, c3, rfl⟩ := okWide_slice underlying98 (hval 3 98 v3 rfl rfl)
  obtain ⟨fuel3, h3⟩ := h3
  obtain ⟨s3, sd3, sl3, sr3⟩ := rd98 enc W 0 (fun _ => true) true fuel3 _ _ h3
  have hc := c9_ok (fr := a0) (un := a1) (d := a2) (l := s3) (by simp only [Lit.wf, Bool.and_eq_true, decide_eq_true_eq] at wa0; exact wa0) (by simp only [Lit.wf, Bool.and_eq_true, decide_eq_true_eq] at wa1; exact wa1)
  refine (calls_law (vs := #[.int .u16 a0, .int .u8 a1, .string a2, .slice p3 n3 c3]) (W := W) func9 (by kernel_rfl) (by kernel_rfl) hc rfl ?_).mono fun e W' ⟨he, ho⟩ => ?_
  · intro j c v hj hv
    match j with
    | 0 =>
      simp only [List.getElem?_cons_zero, Option.some.injEq] at hj
      simp only [List.getElem?_toArray, List.getElem?_cons_zero, Option.some.injEq] at hv
      subst hj hv
      exact .inl (.int _ _)
    | 1 =>
      simp only [List.getElem?_cons_succ, List.getElem?_cons_zero, Option.some.injEq] at hj
      simp only [List.getElem?_toArray, List.getElem?_cons_succ, List.getElem?_cons_zero, Option.some.injEq] at hv
      subst hj hv
      exact .inl (.int _ _)
    | 2 =>
      simp only [List.getElem?_cons_succ, List.getElem?_cons_zero, Option.some.injEq] at hj
      simp only [List.getElem?_toArray, List.getElem?_cons_succ, List.getElem?_cons_zero, Option.some.injEq] at hv
      subst hj hv
      exact .inl (.str _)
    | 3 =>
      simp only [List.getElem?_cons_succ, List.getElem?_cons_zero, Option.some.injEq] at hj
      simp only [List.getElem?_toArray, List.getElem?_cons_succ, List.getElem?_cons_zero, Option.some.injEq] at hv
      subst hj hv
      exact .inl (sr3.2 0 _ _ rfl rfl)
    | j + 4 => simp at hj
  · subst he
    exact ⟨_, rfl, post_old kids full (fun t ht => of_decide_eq_true (List.all_eq_true.1 (show (f9.params.toList.all fun t => decide (t < prog.types.size)) = true by kernel_rfl) t ht)) rfl hW' ho (fun _ _ _ => trodAll_mk1 (shut_bool underlying4 _)) rfl rfl (ok_one (by kernel_rfl) rfl (okWide_bool_mk underlying4 _))⟩
theorem macFlows_over : Rows.macFlowsRow.holds Tryz.pinned (OpenSpec.ofChange Rows.macFlowsSpec) :=
  OpenClaim.holds_of_wide 9 f9 rfl rfl rfl rfl rfl rfl rfl ⟨rfl, rfl, rfl, rfl, rfl⟩ rfl rfl rfl rfl rfl macFlowsNamed func9
    macFlowsFacts macFlowsInst macFlowsWrap (fun os started H enc _ => macFlows_lifted os started H enc)
theorem macFlows : Rows.MacFlowsSaid := macFlows_over
#print axioms macFlows
end Go.Proofs.YtmhchaedhmnofaaGreat
