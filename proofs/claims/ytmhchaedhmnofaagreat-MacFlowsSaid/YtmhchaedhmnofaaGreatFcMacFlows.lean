/- The seat: part FcMacFlows. -/
import Derived.Test.YtmhchaedhmnofaaGreatFw6
/- The closed facts of the row of MacFlows, one by one. -/
set_option maxRecDepth 100000
set_option linter.unusedVariables false
namespace Go.Proofs.YtmhchaedhmnofaaGreat
open Go Go.Proofs.Tryz
theorem macFlowsF0 : (let P := prog; let f : FuncId := 9; let fn := f9; let s := Rows.macFlowsSpec; let c := Rows.macFlowsRow; c.wf (OpenSpec.ofChange s)) = true := by kernel_rfl
theorem macFlowsF1 : (let P := prog; let f : FuncId := 9; let fn := f9; let s := Rows.macFlowsSpec; let c := Rows.macFlowsRow; laidOutB P) = true := by kernel_rfl
theorem macFlowsF2 : (let P := prog; let f : FuncId := 9; let fn := f9; let s := Rows.macFlowsSpec; let c := Rows.macFlowsRow; mapsRowed P) = true := by kernel_rfl
theorem macFlowsF3 : (let P := prog; let f : FuncId := 9; let fn := f9; let s := Rows.macFlowsSpec; let c := Rows.macFlowsRow; fn.params.all (P.readableRec ·)) = true := by kernel_rfl
theorem macFlowsF4 : (let P := prog; let f : FuncId := 9; let fn := f9; let s := Rows.macFlowsSpec; let c := Rows.macFlowsRow; namedTie P c.named s.vars) = true := by kernel_rfl
theorem macFlowsF5 : (let P := prog; let f : FuncId := 9; let fn := f9; let s := Rows.macFlowsSpec; let c := Rows.macFlowsRow; (c.stops == [])) = true := by kernel_rfl
theorem macFlowsF6 : (let P := prog; let f : FuncId := 9; let fn := f9; let s := Rows.macFlowsSpec; let c := Rows.macFlowsRow; (P.stops == [])) = true := by kernel_rfl
theorem macFlowsF7 : (let P := prog; let f : FuncId := 9; let fn := f9; let s := Rows.macFlowsSpec; let c := Rows.macFlowsRow; (c.knobs == [])) = true := by kernel_rfl
theorem macFlowsF8 : (let P := prog; let f : FuncId := 9; let fn := f9; let s := Rows.macFlowsSpec; let c := Rows.macFlowsRow; (P.stopKnobs == [])) = true := by kernel_rfl
theorem macFlowsF9 : (let P := prog; let f : FuncId := 9; let fn := f9; let s := Rows.macFlowsSpec; let c := Rows.macFlowsRow; (c.inPlace == P.inPlace f)) = true := by kernel_rfl
theorem macFlowsF10 : (let P := prog; let f : FuncId := 9; let fn := f9; let s := Rows.macFlowsSpec; let c := Rows.macFlowsRow; (c.unfollowed == P.unfollowed f)) = true := by kernel_rfl
theorem macFlowsF11 : (let P := prog; let f : FuncId := 9; let fn := f9; let s := Rows.macFlowsSpec; let c := Rows.macFlowsRow; (c.recurses == P.recurses f)) = true := by kernel_rfl
theorem macFlowsF12 : (let P := prog; let f : FuncId := 9; let fn := f9; let s := Rows.macFlowsSpec; let c := Rows.macFlowsRow; (c.named == P.varsNamed f)) = true := by kernel_rfl
theorem macFlowsF13 : (let P := prog; let f : FuncId := 9; let fn := f9; let s := Rows.macFlowsSpec; let c := Rows.macFlowsRow; (c.maps == (fn.params.toList ++ s.plain.varTypes P).any (P.mapsRec ·))) = true := by kernel_rfl
theorem macFlowsF14 : (let P := prog; let f : FuncId := 9; let fn := f9; let s := Rows.macFlowsSpec; let c := Rows.macFlowsRow; (c.ifaces == (fn.params.toList ++ s.plain.varTypes P).any (P.ifacesRec ·))) = true := by kernel_rfl
theorem macFlowsF15 : (let P := prog; let f : FuncId := 9; let fn := f9; let s := Rows.macFlowsSpec; let c := Rows.macFlowsRow; (c.mapsOut == P.mapsAmong fn.resultTypes.toList)) = true := by kernel_rfl
theorem macFlowsF16 : (let P := prog; let f : FuncId := 9; let fn := f9; let s := Rows.macFlowsSpec; let c := Rows.macFlowsRow; (c.loops == (fn.params.toList ++ s.plain.varTypes P).any (P.loopsFrom ·))) = true := by kernel_rfl
theorem macFlowsF17 : (let P := prog; let f : FuncId := 9; let fn := f9; let s := Rows.macFlowsSpec; let c := Rows.macFlowsRow; (c.wideKeys == (fn.params.toList ++ s.plain.varTypes P ++ fn.resultTypes.toList).any (P.wideKeysFrom ·))) = true := by kernel_rfl
theorem macFlowsF18 : (let P := prog; let f : FuncId := 9; let fn := f9; let s := Rows.macFlowsSpec; let c := Rows.macFlowsRow; s.vars.all (P.varReadable ·)) = true := by kernel_rfl
theorem macFlowsF19 : (let P := prog; let f : FuncId := 9; let fn := f9; let s := Rows.macFlowsSpec; let c := Rows.macFlowsRow; fn.resultTypes.all (fun t => P.readableRec t && decide (t < P.types.size))) = true := by kernel_rfl
theorem macFlowsF20 : (let P := prog; let f : FuncId := 9; let fn := f9; let s := Rows.macFlowsSpec; let c := Rows.macFlowsRow; (c.ifacesOut == fn.resultTypes.toList.any (P.ifacesRec ·))) = true := by kernel_rfl
theorem macFlowsF21 : (let P := prog; let f : FuncId := 9; let fn := f9; let s := Rows.macFlowsSpec; let c := Rows.macFlowsRow; (c.loopsOut == fn.resultTypes.toList.any (P.loopsFrom ·))) = true := by kernel_rfl
theorem macFlowsF22 : (let P := prog; let f : FuncId := 9; let fn := f9; let s := Rows.macFlowsSpec; let c := Rows.macFlowsRow; (c.plainKeys == P.plainKeys)) = true := by kernel_rfl
theorem macFlowsF23 : (let P := prog; let f : FuncId := 9; let fn := f9; let s := Rows.macFlowsSpec; let c := Rows.macFlowsRow; c.shortTexts.isNone) = true := by kernel_rfl
theorem macFlowsF24 : (let P := prog; let f : FuncId := 9; let fn := f9; let s := Rows.macFlowsSpec; let c := Rows.macFlowsRow; P.stopsHeard) = true := by kernel_rfl
theorem macFlowsF25 : (let P := prog; let f : FuncId := 9; let fn := f9; let s := Rows.macFlowsSpec; let c := Rows.macFlowsRow; P.mayEnter) = true := by kernel_rfl
theorem macFlowsF26 : (let P := prog; let f : FuncId := 9; let fn := f9; let s := Rows.macFlowsSpec; let c := Rows.macFlowsRow; (c.lifted == P.liftsFinal)) = true := by kernel_rfl
theorem macFlowsF27 : (let P := prog; let f : FuncId := 9; let fn := f9; let s := Rows.macFlowsSpec; let c := Rows.macFlowsRow; (P.make == some c.make)) = true := by kernel_rfl
theorem macFlowsF28 : (let P := prog; let f : FuncId := 9; let fn := f9; let s := Rows.macFlowsSpec; let c := Rows.macFlowsRow; (c.kinds == (if c.domain.isEmpty then [] else fn.params.toList.map fun t => match P.underlying t with | some (.int k) => some k | _ => none))) = true := by kernel_rfl
theorem macFlowsF29 : (let P := prog; let f : FuncId := 9; let fn := f9; let s := Rows.macFlowsSpec; let c := Rows.macFlowsRow; (c.pinned == c.pinnedBy)) = true := by kernel_rfl
theorem macFlowsF30 : (let P := prog; let f : FuncId := 9; let fn := f9; let s := Rows.macFlowsSpec; let c := Rows.macFlowsRow; (c.veiled == (fn.params.toList ++ s.plain.varTypes P ++ fn.resultTypes.toList).any (P.veiledRec ·))) = true := by kernel_rfl
theorem macFlowsF31 : (let P := prog; let f : FuncId := 9; let fn := f9; let s := Rows.macFlowsSpec; let c := Rows.macFlowsRow; c.veiledFits P fn.params.toList (fn.params.toList ++ s.plain.varTypes P ++ fn.resultTypes.toList)) = true := by kernel_rfl
theorem macFlowsFacts : joinedFacts Proofs.Tryz.checked.prog 9 f9 Rows.macFlowsSpec Rows.macFlowsRow = true := (Bool.and_eq_true_iff.2 ⟨(Bool.and_eq_true_iff.2 ⟨(Bool.and_eq_true_iff.2 ⟨(Bool.and_eq_true_iff.2 ⟨(Bool.and_eq_true_iff.2 ⟨(Bool.and_eq_true_iff.2 ⟨(Bool.and_eq_true_iff.2 ⟨(Bool.and_eq_true_iff.2 ⟨(Bool.and_eq_true_iff.2 ⟨(Bool.and_eq_true_iff.2 ⟨(Bool.and_eq_true_iff.2 ⟨(Bool.and_eq_true_iff.2 ⟨(Bool.and_eq_true_iff.2 ⟨(Bool.and_eq_true_iff.2 ⟨(Bool.and_eq_true_iff.2 ⟨(Bool.and_eq_true_iff.2 ⟨(Bool.and_eq_true_iff.2 ⟨(Bool.and_eq_true_iff.2 ⟨(Bool.and_eq_true_iff.2 ⟨(Bool.and_eq_true_iff.2 ⟨(Bool.and_eq_true_iff.2 ⟨(Bool.and_eq_true_iff.2 ⟨(Bool.and_eq_true_iff.2 ⟨(Bool.and_eq_true_iff.2 ⟨(Bool.and_eq_true_iff.2 ⟨(Bool.and_eq_true_iff.2 ⟨(Bool.and_eq_true_iff.2 ⟨(Bool.and_eq_true_iff.2 ⟨(Bool.and_eq_true_iff.2 ⟨(Bool.and_eq_true_iff.2 ⟨(Bool.and_eq_true_iff.2 ⟨macFlowsF0, macFlowsF1⟩), macFlowsF2⟩), macFlowsF3⟩), macFlowsF4⟩), macFlowsF5⟩), macFlowsF6⟩), macFlowsF7⟩), macFlowsF8⟩), macFlowsF9⟩), macFlowsF10⟩), macFlowsF11⟩), macFlowsF12⟩), macFlowsF13⟩), macFlowsF14⟩), macFlowsF15⟩), macFlowsF16⟩), macFlowsF17⟩), macFlowsF18⟩), macFlowsF19⟩), macFlowsF20⟩), macFlowsF21⟩), macFlowsF22⟩), macFlowsF23⟩), macFlowsF24⟩), macFlowsF25⟩), macFlowsF26⟩), macFlowsF27⟩), macFlowsF28⟩), macFlowsF29⟩), macFlowsF30⟩), macFlowsF31⟩)
theorem macFlowsNamed : Proofs.Tryz.checked.prog.funcNamed Rows.macFlowsRow.func = some 9 := by kernel_rfl
theorem macFlowsInst : f9.isInstance Proofs.Tryz.checked.prog Rows.macFlowsRow.origin Rows.macFlowsRow.targs := of_decide_eq_true (by kernel_rfl)
theorem macFlowsWrap : f9.isWrapper Proofs.Tryz.checked.prog Rows.macFlowsRow.wrapper Rows.macFlowsRow.mainSum := by unfold Func.isWrapper; first | (rw [if_pos (by decide +kernel)]; kernel_rfl) | (rw [if_neg (by decide +kernel)]; exact ⟨rfl, rfl⟩)
end Go.Proofs.YtmhchaedhmnofaaGreat
