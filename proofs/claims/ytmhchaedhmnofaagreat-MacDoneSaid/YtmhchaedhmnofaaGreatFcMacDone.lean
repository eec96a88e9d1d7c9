/- The seat: part FcMacDone. -/
import Derived.Test.YtmhchaedhmnofaaGreatDn12
/- The closed facts of the row of MacDone, one by one. -/
set_option maxRecDepth 100000
set_option linter.unusedVariables false
namespace Go.Proofs.YtmhchaedhmnofaaGreat
open Go Go.Proofs.Tryz
theorem macDoneF0 : (let P := prog; let f : FuncId := 5; let fn := f5; let s := Rows.macDoneSpec; let c := Rows.macDoneRow; c.wf (OpenSpec.ofChange s)) = true := by kernel_rfl
theorem macDoneF1 : (let P := prog; let f : FuncId := 5; let fn := f5; let s := Rows.macDoneSpec; let c := Rows.macDoneRow; laidOutB P) = true := by kernel_rfl
theorem macDoneF2 : (let P := prog; let f : FuncId := 5; let fn := f5; let s := Rows.macDoneSpec; let c := Rows.macDoneRow; mapsRowed P) = true := by kernel_rfl
theorem macDoneF3 : (let P := prog; let f : FuncId := 5; let fn := f5; let s := Rows.macDoneSpec; let c := Rows.macDoneRow; fn.params.all (P.readableRec ·)) = true := by kernel_rfl
theorem macDoneF4 : (let P := prog; let f : FuncId := 5; let fn := f5; let s := Rows.macDoneSpec; let c := Rows.macDoneRow; namedTie P c.named s.vars) = true := by kernel_rfl
theorem macDoneF5 : (let P := prog; let f : FuncId := 5; let fn := f5; let s := Rows.macDoneSpec; let c := Rows.macDoneRow; (c.stops == [])) = true := by kernel_rfl
theorem macDoneF6 : (let P := prog; let f : FuncId := 5; let fn := f5; let s := Rows.macDoneSpec; let c := Rows.macDoneRow; (P.stops == [])) = true := by kernel_rfl
theorem macDoneF7 : (let P := prog; let f : FuncId := 5; let fn := f5; let s := Rows.macDoneSpec; let c := Rows.macDoneRow; (c.knobs == [])) = true := by kernel_rfl
theorem macDoneF8 : (let P := prog; let f : FuncId := 5; let fn := f5; let s := Rows.macDoneSpec; let c := Rows.macDoneRow; (P.stopKnobs == [])) = true := by kernel_rfl
theorem macDoneF9 : (let P := prog; let f : FuncId := 5; let fn := f5; let s := Rows.macDoneSpec; let c := Rows.macDoneRow; (c.inPlace == P.inPlace f)) = true := by kernel_rfl
theorem macDoneF10 : (let P := prog; let f : FuncId := 5; let fn := f5; let s := Rows.macDoneSpec; let c := Rows.macDoneRow; (c.unfollowed == P.unfollowed f)) = true := by kernel_rfl
theorem macDoneF11 : (let P := prog; let f : FuncId := 5; let fn := f5; let s := Rows.macDoneSpec; let c := Rows.macDoneRow; (c.recurses == P.recurses f)) = true := by kernel_rfl
theorem macDoneF12 : (let P := prog; let f : FuncId := 5; let fn := f5; let s := Rows.macDoneSpec; let c := Rows.macDoneRow; (c.named == P.varsNamed f)) = true := by kernel_rfl
theorem macDoneF13 : (let P := prog; let f : FuncId := 5; let fn := f5; let s := Rows.macDoneSpec; let c := Rows.macDoneRow; (c.maps == (fn.params.toList ++ s.plain.varTypes P).any (P.mapsRec ·))) = true := by kernel_rfl
theorem macDoneF14 : (let P := prog; let f : FuncId := 5; let fn := f5; let s := Rows.macDoneSpec; let c := Rows.macDoneRow; (c.ifaces == (fn.params.toList ++ s.plain.varTypes P).any (P.ifacesRec ·))) = true := by kernel_rfl
theorem macDoneF15 : (let P := prog; let f : FuncId := 5; let fn := f5; let s := Rows.macDoneSpec; let c := Rows.macDoneRow; (c.mapsOut == P.mapsAmong fn.resultTypes.toList)) = true := by kernel_rfl
theorem macDoneF16 : (let P := prog; let f : FuncId := 5; let fn := f5; let s := Rows.macDoneSpec; let c := Rows.macDoneRow; (c.loops == (fn.params.toList ++ s.plain.varTypes P).any (P.loopsFrom ·))) = true := by kernel_rfl
theorem macDoneF17 : (let P := prog; let f : FuncId := 5; let fn := f5; let s := Rows.macDoneSpec; let c := Rows.macDoneRow; (c.wideKeys == (fn.params.toList ++ s.plain.varTypes P ++ fn.resultTypes.toList).any (P.wideKeysFrom ·))) = true := by kernel_rfl
theorem macDoneF18 : (let P := prog; let f : FuncId := 5; let fn := f5; let s := Rows.macDoneSpec; let c := Rows.macDoneRow; s.vars.all (P.varReadable ·)) = true := by kernel_rfl
theorem macDoneF19 : (let P := prog; let f : FuncId := 5; let fn := f5; let s := Rows.macDoneSpec; let c := Rows.macDoneRow; fn.resultTypes.all (fun t => P.readableRec t && decide (t < P.types.size))) = true := by kernel_rfl
theorem macDoneF20 : (let P := prog; let f : FuncId := 5; let fn := f5; let s := Rows.macDoneSpec; let c := Rows.macDoneRow; (c.ifacesOut == fn.resultTypes.toList.any (P.ifacesRec ·))) = true := by kernel_rfl
theorem macDoneF21 : (let P := prog; let f : FuncId := 5; let fn := f5; let s := Rows.macDoneSpec; let c := Rows.macDoneRow; (c.loopsOut == fn.resultTypes.toList.any (P.loopsFrom ·))) = true := by kernel_rfl
theorem macDoneF22 : (let P := prog; let f : FuncId := 5; let fn := f5; let s := Rows.macDoneSpec; let c := Rows.macDoneRow; (c.plainKeys == P.plainKeys)) = true := by kernel_rfl
theorem macDoneF23 : (let P := prog; let f : FuncId := 5; let fn := f5; let s := Rows.macDoneSpec; let c := Rows.macDoneRow; c.shortTexts.isNone) = true := by kernel_rfl
theorem macDoneF24 : (let P := prog; let f : FuncId := 5; let fn := f5; let s := Rows.macDoneSpec; let c := Rows.macDoneRow; P.stopsHeard) = true := by kernel_rfl
theorem macDoneF25 : (let P := prog; let f : FuncId := 5; let fn := f5; let s := Rows.macDoneSpec; let c := Rows.macDoneRow; P.mayEnter) = true := by kernel_rfl
theorem macDoneF26 : (let P := prog; let f : FuncId := 5; let fn := f5; let s := Rows.macDoneSpec; let c := Rows.macDoneRow; (c.lifted == P.liftsFinal)) = true := by kernel_rfl
theorem macDoneF27 : (let P := prog; let f : FuncId := 5; let fn := f5; let s := Rows.macDoneSpec; let c := Rows.macDoneRow; (P.make == some c.make)) = true := by kernel_rfl
theorem macDoneF28 : (let P := prog; let f : FuncId := 5; let fn := f5; let s := Rows.macDoneSpec; let c := Rows.macDoneRow; (c.kinds == (if c.domain.isEmpty then [] else fn.params.toList.map fun t => match P.underlying t with | some (.int k) => some k | _ => none))) = true := by kernel_rfl
theorem macDoneF29 : (let P := prog; let f : FuncId := 5; let fn := f5; let s := Rows.macDoneSpec; let c := Rows.macDoneRow; (c.pinned == c.pinnedBy)) = true := by kernel_rfl
theorem macDoneF30 : (let P := prog; let f : FuncId := 5; let fn := f5; let s := Rows.macDoneSpec; let c := Rows.macDoneRow; (c.veiled == (fn.params.toList ++ s.plain.varTypes P ++ fn.resultTypes.toList).any (P.veiledRec ·))) = true := by kernel_rfl
theorem macDoneF31 : (let P := prog; let f : FuncId := 5; let fn := f5; let s := Rows.macDoneSpec; let c := Rows.macDoneRow; c.veiledFits P fn.params.toList (fn.params.toList ++ s.plain.varTypes P ++ fn.resultTypes.toList)) = true := by kernel_rfl
theorem macDoneFacts : joinedFacts Proofs.Tryz.checked.prog 5 f5 Rows.macDoneSpec Rows.macDoneRow = true := (Bool.and_eq_true_iff.2 ⟨(Bool.and_eq_true_iff.2 ⟨(Bool.and_eq_true_iff.2 ⟨(Bool.and_eq_true_iff.2 ⟨(Bool.and_eq_true_iff.2 ⟨(Bool.and_eq_true_iff.2 ⟨(Bool.and_eq_true_iff.2 ⟨(Bool.and_eq_true_iff.2 ⟨(Bool.and_eq_true_iff.2 ⟨(Bool.and_eq_true_iff.2 ⟨(Bool.and_eq_true_iff.2 ⟨(Bool.and_eq_true_iff.2 ⟨(Bool.and_eq_true_iff.2 ⟨(Bool.and_eq_true_iff.2 ⟨(Bool.and_eq_true_iff.2 ⟨(Bool.and_eq_true_iff.2 ⟨(Bool.and_eq_true_iff.2 ⟨(Bool.and_eq_true_iff.2 ⟨(Bool.and_eq_true_iff.2 ⟨(Bool.and_eq_true_iff.2 ⟨(Bool.and_eq_true_iff.2 ⟨(Bool.and_eq_true_iff.2 ⟨(Bool.and_eq_true_iff.2 ⟨(Bool.and_eq_true_iff.2 ⟨(Bool.and_eq_true_iff.2 ⟨(Bool.and_eq_true_iff.2 ⟨(Bool.and_eq_true_iff.2 ⟨(Bool.and_eq_true_iff.2 ⟨(Bool.and_eq_true_iff.2 ⟨(Bool.and_eq_true_iff.2 ⟨(Bool.and_eq_true_iff.2 ⟨macDoneF0, macDoneF1⟩), macDoneF2⟩), macDoneF3⟩), macDoneF4⟩), macDoneF5⟩), macDoneF6⟩), macDoneF7⟩), macDoneF8⟩), macDoneF9⟩), macDoneF10⟩), macDoneF11⟩), macDoneF12⟩), macDoneF13⟩), macDoneF14⟩), macDoneF15⟩), macDoneF16⟩), macDoneF17⟩), macDoneF18⟩), macDoneF19⟩), macDoneF20⟩), macDoneF21⟩), macDoneF22⟩), macDoneF23⟩), macDoneF24⟩), macDoneF25⟩), macDoneF26⟩), macDoneF27⟩), macDoneF28⟩), macDoneF29⟩), macDoneF30⟩), macDoneF31⟩)
theorem macDoneNamed : Proofs.Tryz.checked.prog.funcNamed Rows.macDoneRow.func = some 5 := by kernel_rfl
theorem macDoneInst : f5.isInstance Proofs.Tryz.checked.prog Rows.macDoneRow.origin Rows.macDoneRow.targs := of_decide_eq_true (by kernel_rfl)
theorem macDoneWrap : f5.isWrapper Proofs.Tryz.checked.prog Rows.macDoneRow.wrapper Rows.macDoneRow.mainSum := by unfold Func.isWrapper; first | (rw [if_pos (by decide +kernel)]; kernel_rfl) | (rw [if_neg (by decide +kernel)]; exact ⟨rfl, rfl⟩)
end Go.Proofs.YtmhchaedhmnofaaGreat
