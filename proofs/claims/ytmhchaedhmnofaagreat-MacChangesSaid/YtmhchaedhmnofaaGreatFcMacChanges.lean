/- The seat: part FcMacChanges. -/
import Derived.Test.YtmhchaedhmnofaaGreatCh6
/- The closed facts of the row of MacChanges, one by one. -/
set_option maxRecDepth 100000
set_option linter.unusedVariables false
namespace Go.Proofs.YtmhchaedhmnofaaGreat
open Go Go.Proofs.Tryz
theorem macChangesF0 : (let P := prog; let f : FuncId := 10; let fn := f10; let s := Rows.macChangesSpec; let c := Rows.macChangesRow; c.wf (OpenSpec.ofChange s)) = true := by kernel_rfl
theorem macChangesF1 : (let P := prog; let f : FuncId := 10; let fn := f10; let s := Rows.macChangesSpec; let c := Rows.macChangesRow; laidOutB P) = true := by kernel_rfl
theorem macChangesF2 : (let P := prog; let f : FuncId := 10; let fn := f10; let s := Rows.macChangesSpec; let c := Rows.macChangesRow; mapsRowed P) = true := by kernel_rfl
theorem macChangesF3 : (let P := prog; let f : FuncId := 10; let fn := f10; let s := Rows.macChangesSpec; let c := Rows.macChangesRow; fn.params.all (P.readableRec ·)) = true := by kernel_rfl
theorem macChangesF4 : (let P := prog; let f : FuncId := 10; let fn := f10; let s := Rows.macChangesSpec; let c := Rows.macChangesRow; namedTie P c.named s.vars) = true := by kernel_rfl
theorem macChangesF5 : (let P := prog; let f : FuncId := 10; let fn := f10; let s := Rows.macChangesSpec; let c := Rows.macChangesRow; (c.stops == [])) = true := by kernel_rfl
theorem macChangesF6 : (let P := prog; let f : FuncId := 10; let fn := f10; let s := Rows.macChangesSpec; let c := Rows.macChangesRow; (P.stops == [])) = true := by kernel_rfl
theorem macChangesF7 : (let P := prog; let f : FuncId := 10; let fn := f10; let s := Rows.macChangesSpec; let c := Rows.macChangesRow; (c.knobs == [])) = true := by kernel_rfl
theorem macChangesF8 : (let P := prog; let f : FuncId := 10; let fn := f10; let s := Rows.macChangesSpec; let c := Rows.macChangesRow; (P.stopKnobs == [])) = true := by kernel_rfl
theorem macChangesF9 : (let P := prog; let f : FuncId := 10; let fn := f10; let s := Rows.macChangesSpec; let c := Rows.macChangesRow; (c.inPlace == P.inPlace f)) = true := by kernel_rfl
theorem macChangesF10 : (let P := prog; let f : FuncId := 10; let fn := f10; let s := Rows.macChangesSpec; let c := Rows.macChangesRow; (c.unfollowed == P.unfollowed f)) = true := by kernel_rfl
theorem macChangesF11 : (let P := prog; let f : FuncId := 10; let fn := f10; let s := Rows.macChangesSpec; let c := Rows.macChangesRow; (c.recurses == P.recurses f)) = true := by kernel_rfl
theorem macChangesF12 : (let P := prog; let f : FuncId := 10; let fn := f10; let s := Rows.macChangesSpec; let c := Rows.macChangesRow; (c.named == P.varsNamed f)) = true := by kernel_rfl
theorem macChangesF13 : (let P := prog; let f : FuncId := 10; let fn := f10; let s := Rows.macChangesSpec; let c := Rows.macChangesRow; (c.maps == (fn.params.toList ++ s.plain.varTypes P).any (P.mapsRec ·))) = true := by kernel_rfl
theorem macChangesF14 : (let P := prog; let f : FuncId := 10; let fn := f10; let s := Rows.macChangesSpec; let c := Rows.macChangesRow; (c.ifaces == (fn.params.toList ++ s.plain.varTypes P).any (P.ifacesRec ·))) = true := by kernel_rfl
theorem macChangesF15 : (let P := prog; let f : FuncId := 10; let fn := f10; let s := Rows.macChangesSpec; let c := Rows.macChangesRow; (c.mapsOut == P.mapsAmong fn.resultTypes.toList)) = true := by kernel_rfl
theorem macChangesF16 : (let P := prog; let f : FuncId := 10; let fn := f10; let s := Rows.macChangesSpec; let c := Rows.macChangesRow; (c.loops == (fn.params.toList ++ s.plain.varTypes P).any (P.loopsFrom ·))) = true := by kernel_rfl
theorem macChangesF17 : (let P := prog; let f : FuncId := 10; let fn := f10; let s := Rows.macChangesSpec; let c := Rows.macChangesRow; (c.wideKeys == (fn.params.toList ++ s.plain.varTypes P ++ fn.resultTypes.toList).any (P.wideKeysFrom ·))) = true := by kernel_rfl
theorem macChangesF18 : (let P := prog; let f : FuncId := 10; let fn := f10; let s := Rows.macChangesSpec; let c := Rows.macChangesRow; s.vars.all (P.varReadable ·)) = true := by kernel_rfl
theorem macChangesF19 : (let P := prog; let f : FuncId := 10; let fn := f10; let s := Rows.macChangesSpec; let c := Rows.macChangesRow; fn.resultTypes.all (fun t => P.readableRec t && decide (t < P.types.size))) = true := by kernel_rfl
theorem macChangesF20 : (let P := prog; let f : FuncId := 10; let fn := f10; let s := Rows.macChangesSpec; let c := Rows.macChangesRow; (c.ifacesOut == fn.resultTypes.toList.any (P.ifacesRec ·))) = true := by kernel_rfl
theorem macChangesF21 : (let P := prog; let f : FuncId := 10; let fn := f10; let s := Rows.macChangesSpec; let c := Rows.macChangesRow; (c.loopsOut == fn.resultTypes.toList.any (P.loopsFrom ·))) = true := by kernel_rfl
theorem macChangesF22 : (let P := prog; let f : FuncId := 10; let fn := f10; let s := Rows.macChangesSpec; let c := Rows.macChangesRow; (c.plainKeys == P.plainKeys)) = true := by kernel_rfl
theorem macChangesF23 : (let P := prog; let f : FuncId := 10; let fn := f10; let s := Rows.macChangesSpec; let c := Rows.macChangesRow; c.shortTexts.isNone) = true := by kernel_rfl
theorem macChangesF24 : (let P := prog; let f : FuncId := 10; let fn := f10; let s := Rows.macChangesSpec; let c := Rows.macChangesRow; P.stopsHeard) = true := by kernel_rfl
theorem macChangesF25 : (let P := prog; let f : FuncId := 10; let fn := f10; let s := Rows.macChangesSpec; let c := Rows.macChangesRow; P.mayEnter) = true := by kernel_rfl
theorem macChangesF26 : (let P := prog; let f : FuncId := 10; let fn := f10; let s := Rows.macChangesSpec; let c := Rows.macChangesRow; (c.lifted == P.liftsFinal)) = true := by kernel_rfl
theorem macChangesF27 : (let P := prog; let f : FuncId := 10; let fn := f10; let s := Rows.macChangesSpec; let c := Rows.macChangesRow; (P.make == some c.make)) = true := by kernel_rfl
theorem macChangesF28 : (let P := prog; let f : FuncId := 10; let fn := f10; let s := Rows.macChangesSpec; let c := Rows.macChangesRow; (c.kinds == (if c.domain.isEmpty then [] else fn.params.toList.map fun t => match P.underlying t with | some (.int k) => some k | _ => none))) = true := by kernel_rfl
theorem macChangesF29 : (let P := prog; let f : FuncId := 10; let fn := f10; let s := Rows.macChangesSpec; let c := Rows.macChangesRow; (c.pinned == c.pinnedBy)) = true := by kernel_rfl
theorem macChangesF30 : (let P := prog; let f : FuncId := 10; let fn := f10; let s := Rows.macChangesSpec; let c := Rows.macChangesRow; (c.veiled == (fn.params.toList ++ s.plain.varTypes P ++ fn.resultTypes.toList).any (P.veiledRec ·))) = true := by kernel_rfl
theorem macChangesF31 : (let P := prog; let f : FuncId := 10; let fn := f10; let s := Rows.macChangesSpec; let c := Rows.macChangesRow; c.veiledFits P fn.params.toList (fn.params.toList ++ s.plain.varTypes P ++ fn.resultTypes.toList)) = true := by kernel_rfl
theorem macChangesFacts : joinedFacts Proofs.Tryz.checked.prog 10 f10 Rows.macChangesSpec Rows.macChangesRow = true := (Bool.and_eq_true_iff.2 ⟨(Bool.and_eq_true_iff.2 ⟨(Bool.and_eq_true_iff.2 ⟨(Bool.and_eq_true_iff.2 ⟨(Bool.and_eq_true_iff.2 ⟨(Bool.and_eq_true_iff.2 ⟨(Bool.and_eq_true_iff.2 ⟨(Bool.and_eq_true_iff.2 ⟨(Bool.and_eq_true_iff.2 ⟨(Bool.and_eq_true_iff.2 ⟨(Bool.and_eq_true_iff.2 ⟨(Bool.and_eq_true_iff.2 ⟨(Bool.and_eq_true_iff.2 ⟨(Bool.and_eq_true_iff.2 ⟨(Bool.and_eq_true_iff.2 ⟨(Bool.and_eq_true_iff.2 ⟨(Bool.and_eq_true_iff.2 ⟨(Bool.and_eq_true_iff.2 ⟨(Bool.and_eq_true_iff.2 ⟨(Bool.and_eq_true_iff.2 ⟨(Bool.and_eq_true_iff.2 ⟨(Bool.and_eq_true_iff.2 ⟨(Bool.and_eq_true_iff.2 ⟨(Bool.and_eq_true_iff.2 ⟨(Bool.and_eq_true_iff.2 ⟨(Bool.and_eq_true_iff.2 ⟨(Bool.and_eq_true_iff.2 ⟨(Bool.and_eq_true_iff.2 ⟨(Bool.and_eq_true_iff.2 ⟨(Bool.and_eq_true_iff.2 ⟨(Bool.and_eq_true_iff.2 ⟨macChangesF0, macChangesF1⟩), macChangesF2⟩), macChangesF3⟩), macChangesF4⟩), macChangesF5⟩), macChangesF6⟩), macChangesF7⟩), macChangesF8⟩), macChangesF9⟩), macChangesF10⟩), macChangesF11⟩), macChangesF12⟩), macChangesF13⟩), macChangesF14⟩), macChangesF15⟩), macChangesF16⟩), macChangesF17⟩), macChangesF18⟩), macChangesF19⟩), macChangesF20⟩), macChangesF21⟩), macChangesF22⟩), macChangesF23⟩), macChangesF24⟩), macChangesF25⟩), macChangesF26⟩), macChangesF27⟩), macChangesF28⟩), macChangesF29⟩), macChangesF30⟩), macChangesF31⟩)
theorem macChangesNamed : Proofs.Tryz.checked.prog.funcNamed Rows.macChangesRow.func = some 10 := by kernel_rfl
theorem macChangesInst : f10.isInstance Proofs.Tryz.checked.prog Rows.macChangesRow.origin Rows.macChangesRow.targs := of_decide_eq_true (by kernel_rfl)
theorem macChangesWrap : f10.isWrapper Proofs.Tryz.checked.prog Rows.macChangesRow.wrapper Rows.macChangesRow.mainSum := by unfold Func.isWrapper; first | (rw [if_pos (by decide +kernel)]; kernel_rfl) | (rw [if_neg (by decide +kernel)]; exact ⟨rfl, rfl⟩)
end Go.Proofs.YtmhchaedhmnofaaGreat
