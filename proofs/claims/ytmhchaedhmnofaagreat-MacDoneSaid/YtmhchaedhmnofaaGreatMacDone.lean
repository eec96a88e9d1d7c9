/- The seat: part MacDone. -/
import Derived.Test.YtmhchaedhmnofaaGreatDn12
import Derived.Test.YtmhchaedhmnofaaGreatFcMacDone
/- The row of MacDone. -/
set_option linter.unusedVariables false
set_option linter.unusedSimpArgs false
set_option maxRecDepth 100000
namespace Go.Av.T
open Go Go.Av Go.Av.Sp Go.Proofs.Tryz Go.ChangeShapes Go.WideShapes Go.ChangeAt Go.RowKit
theorem rd41 : Rd prog 41 Sp.Frame.enc (fun _ => True) :=
  Rd.map (Rd.struct underlying41 (by kernel_rfl) (@RdF.cons prog _ _ 0 1 _ _ _ _ _ _ rfl (by kernel_rfl) @rd3 (@RdF.cons prog _ _ 1 2 _ _ _ _ _ _ rfl (by kernel_rfl) @rd3 (@RdF.cons prog _ _ 2 3 _ _ _ _ _ _ rfl (by kernel_rfl) @rd3 (@RdF.cons prog _ _ 3 4 _ _ _ _ _ _ rfl (by kernel_rfl) @rd3 (@RdF.cons prog _ _ 4 5 _ _ _ _ _ _ rfl (by kernel_rfl) @rd3 (@RdF.cons prog _ _ 5 6 _ _ _ _ _ _ rfl (by kernel_rfl) @rd3 (@RdF.cons prog _ _ 6 7 _ _ _ _ _ _ rfl (by kernel_rfl) @rd3 (@RdF.cons prog _ _ 7 8 _ _ _ _ _ _ rfl (by kernel_rfl) @rd3 (@RdF.cons prog _ _ 8 9 _ _ _ _ _ _ rfl (by kernel_rfl) @rd3 (@RdF.cons prog _ _ 9 10 _ _ _ _ _ _ rfl (by kernel_rfl) @rd3 (@RdF.cons prog _ _ 10 11 _ _ _ _ _ _ rfl (by kernel_rfl) @rd3 (@RdF.cons prog _ _ 11 12 _ _ _ _ _ _ rfl (by kernel_rfl) @rd9 (@RdF.nil prog 12)))))))))))))) (fun p : Int × Int × Int × Int × Int × Int × Int × Int × Int × Int × Int × ByteArray × Unit => (⟨p.1, p.2.1, p.2.2.1, p.2.2.2.1, p.2.2.2.2.1, p.2.2.2.2.2.1, p.2.2.2.2.2.2.1, p.2.2.2.2.2.2.2.1, p.2.2.2.2.2.2.2.2.1, p.2.2.2.2.2.2.2.2.2.1, p.2.2.2.2.2.2.2.2.2.2.1, p.2.2.2.2.2.2.2.2.2.2.2.1⟩ : Sp.Frame)) (fun _ => by rfl) (fun _ _ => trivial)
theorem rd48 : Rd prog 48 Sp.Result.enc (fun _ => True) :=
  Rd.map (Rd.struct underlying48 (by kernel_rfl) (@RdF.cons prog _ _ 0 1 _ _ _ _ _ _ rfl (by kernel_rfl) @rd4 (@RdF.cons prog _ _ 1 2 _ _ _ _ _ _ rfl (by kernel_rfl) @rd4 (@RdF.cons prog _ _ 2 14 _ _ _ _ _ _ rfl (by kernel_rfl) @rd41 (@RdF.cons prog _ _ 14 15 _ _ _ _ _ _ rfl (by kernel_rfl) @rd3 (@RdF.nil prog 15)))))) (fun p : Bool × Bool × Sp.Frame × Int × Unit => (⟨p.1, p.2.1, p.2.2.1, p.2.2.2.1⟩ : Sp.Result)) (fun _ => by rfl) (fun _ _ => trivial)
end Go.Av.T
namespace Go.Proofs.YtmhchaedhmnofaaGreat
open Go Go.Av Go.Av.T Go.Av.Sp Go.Proofs.Tryz Go.ChangeShapes Go.WideShapes Go.ChangeAt Go.RowKit

theorem macDone_lifted (os : Os) (started : os.Started) (H : Type) (enc : TypeId × Value → H) :
    ReturnsInHanded {} Proofs.Tryz.checked os 5 .any (Rows.macDoneSpec.pre6 enc prog f5 Rows.macDoneRow.domain false) (Rows.macDoneSpec.post enc prog f5 false true false false) := by
  refine returnsInHanded_of_change (C := Proofs.Tryz.checked) ownK started (by kernel_rfl) func5
    (ChangeSpec.witness6 (enc := enc) (C := Proofs.Tryz.checked) false ⟨#[], #[.agg #[.int .i64 0, .int .i64 0, .slice none 0 0, .int .i64 0, .slice none 0 0, .slice none 0 0, .slice none 0 0, .int .i64 0, .int .i64 0, .int .i64 0, .int .i64 0, .int .i64 0, .int .i64 0, .int .i64 0], .int .i64 0, .agg #[.bool false, .bool false, .int .i64 0, .int .i64 0, .int .i64 0, .int .i64 0, .int .i64 0, .int .i64 0, .int .i64 0, .int .i64 0, .int .i64 0, .int .i64 0, .int .i64 0, .string ByteArray.empty, .int .i64 0]], []⟩ 8 (by kernel_rfl) (by kernel_rfl) (by kernel_rfl) (by kernel_rfl)) ?_
  intro W base args ds gs before hval0 hW hcnd _
  have hval : ∀ (j : Nat) t v, f5.params[j]? = some t → args[j]? = some v → Value.okWide prog W .any base t v := hval0
  have hW' := hW
  obtain ⟨p, q, hA0, hV, rfl, hfz, hnd⟩ := hW
  have hA : DataW.TrodAll enc prog W 0 (fun _ => true) true f5.params.toList args.toList ds p := hA0
  rw [params5] at hA hval
  obtain ⟨v0, v1, v2, d0, d1, d2, p0, p1, p2, rfl, rfl, rfl, h0, h1, h2⟩ := trodAll_three hA
  obtain ⟨rfl, rfl⟩ := trodVars_none hV
  obtain ⟨a1, rfl, rfl, rfl, wa1⟩ := open_int underlying3 (hval 1 3 v1 rfl rfl) h1
  have hv0 := hval 0 31 v0 rfl rfl
  obtain ⟨cs0, rfl, hcs0⟩ : ∃ cs, v0 = .agg cs ∧ cs.size = prog.cellsOf 31 := by
    simp only [Value.okWide, underlying31] at hv0
    obtain ⟨cs, e1, e2, _⟩ := hv0
    exact ⟨cs, e1, e2⟩
  obtain ⟨fuel0, h0⟩ := h0
  obtain ⟨s0, sd0, sl0, sr0⟩ := rd31 enc W 0 (fun _ => true) true fuel0 _ _ h0
  have hv2 := hval 2 48 v2 rfl rfl
  obtain ⟨cs2, rfl, hcs2⟩ : ∃ cs, v2 = .agg cs ∧ cs.size = prog.cellsOf 48 := by
    simp only [Value.okWide, underlying48] at hv2
    obtain ⟨cs, e1, e2, _⟩ := hv2
    exact ⟨cs, e1, e2⟩
  obtain ⟨fuel2, h2⟩ := h2
  obtain ⟨s2, sd2, sl2, sr2⟩ := rd48 enc W 0 (fun _ => true) true fuel2 _ _ h2
  have hc := c5_ok (s := s0) (slot := a1) (r := s2) (by have := sd0.1; have : maxLen = 2 ^ 63 - 1 := rfl; omega) (by have := sd0.2; have : maxLen = 2 ^ 63 - 1 := rfl; omega)
  refine (calls_law (vs := #[.agg cs0, .int .i64 a1, .agg cs2]) (W := W) func5 (by kernel_rfl) (by kernel_rfl) hc rfl ?_).mono fun e W' ⟨he, ho⟩ => ?_
  · intro j c v hj hv
    match j with
    | 0 =>
      simp only [List.getElem?_cons_zero, Option.some.injEq] at hj
      simp only [List.getElem?_toArray, List.getElem?_cons_zero, Option.some.injEq] at hv
      subst hj hv
      refine .inr (VR.agg _ _ ?_ (fun j v hv => ?_) (fun j c v h1 h2 => .cl _ _ ?_))
      · exact sl0.trans hcs0.symm
      · have hj : j < s0.enc.length := by
          have := (Array.getElem?_eq_some_iff.1 hv).1
          rw [sl0, ← hcs0]
          exact this
        exact (sr0.2 j _ v (List.getElem?_eq_getElem hj) (by simpa [Value.cells] using hv)).one
      · exact sr0.2 j c v h1 (by simpa [Value.cells] using h2)
    | 1 =>
      simp only [List.getElem?_cons_succ, List.getElem?_cons_zero, Option.some.injEq] at hj
      simp only [List.getElem?_toArray, List.getElem?_cons_succ, List.getElem?_cons_zero, Option.some.injEq] at hv
      subst hj hv
      exact .inl (.int _ _)
    | 2 =>
      simp only [List.getElem?_cons_succ, List.getElem?_cons_zero, Option.some.injEq] at hj
      simp only [List.getElem?_toArray, List.getElem?_cons_succ, List.getElem?_cons_zero, Option.some.injEq] at hv
      subst hj hv
      refine .inr (VR.agg _ _ ?_ (fun j v hv => ?_) (fun j c v h1 h2 => .cl _ _ ?_))
      · exact sl2.trans hcs2.symm
      · have hj : j < s2.enc.length := by
          have := (Array.getElem?_eq_some_iff.1 hv).1
          rw [sl2, ← hcs2]
          exact this
        exact (sr2.2 j _ v (List.getElem?_eq_getElem hj) (by simpa [Value.cells] using hv)).one
      · exact sr2.2 j c v h1 (by simpa [Value.cells] using h2)
    | j + 3 => simp at hj
  · subst he
    exact ⟨_, rfl, post_old kids full (fun t ht => of_decide_eq_true (List.all_eq_true.1 (show (f5.params.toList.all fun t => decide (t < prog.types.size)) = true by kernel_rfl) t ht)) rfl hW' ho (fun _ _ _ => trodAll_mk1 (shut_bool underlying4 _)) rfl rfl (ok_one (by kernel_rfl) rfl (okWide_bool_mk underlying4 _))⟩
theorem macDone_over : Rows.macDoneRow.holds Tryz.pinned (OpenSpec.ofChange Rows.macDoneSpec) :=
  OpenClaim.holds_of_wide 5 f5 rfl rfl rfl rfl rfl rfl rfl ⟨rfl, rfl, rfl, rfl, rfl⟩ rfl rfl rfl rfl rfl macDoneNamed func5
    macDoneFacts macDoneInst macDoneWrap (fun os started H enc _ => macDone_lifted os started H enc)
theorem macDone : Rows.MacDoneSaid := macDone_over
#print axioms macDone
end Go.Proofs.YtmhchaedhmnofaaGreat
