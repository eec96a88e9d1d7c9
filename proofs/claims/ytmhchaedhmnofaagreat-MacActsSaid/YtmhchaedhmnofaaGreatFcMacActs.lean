/- The seat: part FcMacActs. -/
import Derived.Test.YtmhchaedhmnofaaGreatT13
/- The closed facts of the row of MacActs, one by one. -/
set_option maxRecDepth 100000
set_option linter.unusedVariables false
namespace Go.Proofs.YtmhchaedhmnofaaGreat
open Go Go.Proofs.Tryz
theorem macActsF0 : (let P := prog; let f : FuncId := 4; let fn := f4; let s := Rows.macActsSpec; let c := Rows.macActsRow; c.wf (OpenSpec.ofChange s)) = true := by kernel_rfl
theorem macActsF1 : (let P := prog; let f : FuncId := 4; let fn := f4; let s := Rows.macActsSpec; let c := Rows.macActsRow; laidOutB P) = true := by kernel_rfl
theorem macActsF2 : (let P := prog; let f : FuncId := 4; let fn := f4; let s := Rows.macActsSpec; let c := Rows.macActsRow; mapsRowed P) = true := by kernel_rfl
theorem macActsF3 : (let P := prog; let f : FuncId := 4; let fn := f4; let s := Rows.macActsSpec; let c := Rows.macActsRow; fn.params.all (P.readableRec ·)) = true := by kernel_rfl
theorem macActsF4 : (let P := prog; let f : FuncId := 4; let fn := f4; let s := Rows.macActsSpec; let c := Rows.macActsRow; namedTie P c.named s.vars) = true := by kernel_rfl
theorem macActsF5 : (let P := prog; let f : FuncId := 4; let fn := f4; let s := Rows.macActsSpec; let c := Rows.macActsRow; (c.stops == [])) = true := by kernel_rfl
theorem macActsF6 : (let P := prog; let f : FuncId := 4; let fn := f4; let s := Rows.macActsSpec; let c := Rows.macActsRow; (P.stops == [])) = true := by kernel_rfl
theorem macActsF7 : (let P := prog; let f : FuncId := 4; let fn := f4; let s := Rows.macActsSpec; let c := Rows.macActsRow; (c.knobs == [])) = true := by kernel_rfl
theorem macActsF8 : (let P := prog; let f : FuncId := 4; let fn := f4; let s := Rows.macActsSpec; let c := Rows.macActsRow; (P.stopKnobs == [])) = true := by kernel_rfl
theorem macActsF9 : (let P := prog; let f : FuncId := 4; let fn := f4; let s := Rows.macActsSpec; let c := Rows.macActsRow; (c.inPlace == P.inPlace f)) = true := by kernel_rfl
theorem macActsF10 : (let P := prog; let f : FuncId := 4; let fn := f4; let s := Rows.macActsSpec; let c := Rows.macActsRow; (c.unfollowed == P.unfollowed f)) = true := by kernel_rfl
theorem macActsF11 : (let P := prog; let f : FuncId := 4; let fn := f4; let s := Rows.macActsSpec; let c := Rows.macActsRow; (c.recurses == P.recurses f)) = true := by kernel_rfl
theorem macActsF12 : (let P := prog; let f : FuncId := 4; let fn := f4; let s := Rows.macActsSpec; let c := Rows.macActsRow; (c.named == P.varsNamed f)) = true := by kernel_rfl
theorem macActsF13 : (let P := prog; let f : FuncId := 4; let fn := f4; let s := Rows.macActsSpec; let c := Rows.macActsRow; (c.maps == (fn.params.toList ++ s.plain.varTypes P).any (P.mapsRec ·))) = true := by kernel_rfl
theorem macActsF14 : (let P := prog; let f : FuncId := 4; let fn := f4; let s := Rows.macActsSpec; let c := Rows.macActsRow; (c.ifaces == (fn.params.toList ++ s.plain.varTypes P).any (P.ifacesRec ·))) = true := by kernel_rfl
theorem macActsF15 : (let P := prog; let f : FuncId := 4; let fn := f4; let s := Rows.macActsSpec; let c := Rows.macActsRow; (c.mapsOut == P.mapsAmong fn.resultTypes.toList)) = true := by kernel_rfl
theorem macActsF16 : (let P := prog; let f : FuncId := 4; let fn := f4; let s := Rows.macActsSpec; let c := Rows.macActsRow; (c.loops == (fn.params.toList ++ s.plain.varTypes P).any (P.loopsFrom ·))) = true := by kernel_rfl
theorem macActsF17 : (let P := prog; let f : FuncId := 4; let fn := f4; let s := Rows.macActsSpec; let c := Rows.macActsRow; (c.wideKeys == (fn.params.toList ++ s.plain.varTypes P ++ fn.resultTypes.toList).any (P.wideKeysFrom ·))) = true := by kernel_rfl
theorem macActsF18 : (let P := prog; let f : FuncId := 4; let fn := f4; let s := Rows.macActsSpec; let c := Rows.macActsRow; s.vars.all (P.varReadable ·)) = true := by kernel_rfl
theorem macActsF19 : (let P := prog; let f : FuncId := 4; let fn := f4; let s := Rows.macActsSpec; let c := Rows.macActsRow; fn.resultTypes.all (fun t => P.readableRec t && decide (t < P.types.size))) = true := by kernel_rfl
theorem macActsF20 : (let P := prog; let f : FuncId := 4; let fn := f4; let s := Rows.macActsSpec; let c := Rows.macActsRow; (c.ifacesOut == fn.resultTypes.toList.any (P.ifacesRec ·))) = true := by kernel_rfl
theorem macActsF21 : (let P := prog; let f : FuncId := 4; let fn := f4; let s := Rows.macActsSpec; let c := Rows.macActsRow; (c.loopsOut == fn.resultTypes.toList.any (P.loopsFrom ·))) = true := by kernel_rfl
theorem macActsF22 : (let P := prog; let f : FuncId := 4; let fn := f4; let s := Rows.macActsSpec; let c := Rows.macActsRow; (c.plainKeys == P.plainKeys)) = true := by kernel_rfl
theorem macActsF23 : (let P := prog; let f : FuncId := 4; let fn := f4; let s := Rows.macActsSpec; let c := Rows.macActsRow; c.shortTexts.isNone) = true := by kernel_rfl
theorem macActsF24 : (let P := prog; let f : FuncId := 4; let fn := f4; let s := Rows.macActsSpec; let c := Rows.macActsRow; P.stopsHeard) = true := by kernel_rfl
theorem macActsF25 : (let P := prog; let f : FuncId := 4; let fn := f4; let s := Rows.macActsSpec; let c := Rows.macActsRow; P.mayEnter) = true := by kernel_rfl
theorem macActsF26 : (let P := prog; let f : FuncId := 4; let fn := f4; let s := Rows.macActsSpec; let c := Rows.macActsRow; (c.lifted == P.liftsFinal)) = true := by kernel_rfl
theorem macActsF27 : (let P := prog; let f : FuncId := 4; let fn := f4; let s := Rows.macActsSpec; let c := Rows.macActsRow; (P.make == some c.make)) = true := by kernel_rfl
theorem macActsF28 : (let P := prog; let f : FuncId := 4; let fn := f4; let s := Rows.macActsSpec; let c := Rows.macActsRow; (c.kinds == (if c.domain.isEmpty then [] else fn.params.toList.map fun t => match P.underlying t with | some (.int k) => some k | _ => none))) = true := by kernel_rfl
theorem macActsF29 : (let P := prog; let f : FuncId := 4; let fn := f4; let s := Rows.macActsSpec; let c := Rows.macActsRow; (c.pinned == c.pinnedBy)) = true := by kernel_rfl
theorem macActsF30 : (let P := prog; let f : FuncId := 4; let fn := f4; let s := Rows.macActsSpec; let c := Rows.macActsRow; (c.veiled == (fn.params.toList ++ s.plain.varTypes P ++ fn.resultTypes.toList).any (P.veiledRec ·))) = true := by kernel_rfl
theorem macActsF31 : (let P := prog; let f : FuncId := 4; let fn := f4; let s := Rows.macActsSpec; let c := Rows.macActsRow; c.veiledFits P fn.params.toList (fn.params.toList ++ s.plain.varTypes P ++ fn.resultTypes.toList)) = true := by kernel_rfl
theorem macActsFacts : joinedFacts Proofs.Tryz.checked.prog 4 f4 Rows.macActsSpec Rows.macActsRow = true := (Bool.and_eq_true_iff.2 ⟨(Bool.and_eq_true_iff.2 ⟨(Bool.and_eq_true_iff.2 ⟨(Bool.and_eq_true_iff.2 ⟨(Bool.and_eq_true_iff.2 ⟨(Bool.and_eq_true_iff.2 ⟨(Bool.and_eq_true_iff.2 ⟨(Bool.and_eq_true_iff.2 ⟨(Bool.and_eq_true_iff.2 ⟨(Bool.and_eq_true_iff.2 ⟨(Bool.and_eq_true_iff.2 ⟨(Bool.and_eq_true_iff.2 ⟨(Bool.and_eq_true_iff.2 ⟨(Bool.and_eq_true_iff.2 ⟨(Bool.and_eq_true_iff.2 ⟨(Bool.and_eq_true_iff.2 ⟨(Bool.and_eq_true_iff.2 ⟨(Bool.and_eq_true_iff.2 ⟨(Bool.and_eq_true_iff.2 ⟨(Bool.and_eq_true_iff.2 ⟨(Bool.and_eq_true_iff.2 ⟨(Bool.and_eq_true_iff.2 ⟨(Bool.and_eq_true_iff.2 ⟨(Bool.and_eq_true_iff.2 ⟨(Bool.and_eq_true_iff.2 ⟨(Bool.and_eq_true_iff.2 ⟨(Bool.and_eq_true_iff.2 ⟨(Bool.and_eq_true_iff.2 ⟨(Bool.and_eq_true_iff.2 ⟨(Bool.and_eq_true_iff.2 ⟨(Bool.and_eq_true_iff.2 ⟨macActsF0, macActsF1⟩), macActsF2⟩), macActsF3⟩), macActsF4⟩), macActsF5⟩), macActsF6⟩), macActsF7⟩), macActsF8⟩), macActsF9⟩), macActsF10⟩), macActsF11⟩), macActsF12⟩), macActsF13⟩), macActsF14⟩), macActsF15⟩), macActsF16⟩), macActsF17⟩), macActsF18⟩), macActsF19⟩), macActsF20⟩), macActsF21⟩), macActsF22⟩), macActsF23⟩), macActsF24⟩), macActsF25⟩), macActsF26⟩), macActsF27⟩), macActsF28⟩), macActsF29⟩), macActsF30⟩), macActsF31⟩)
theorem macActsNamed : Proofs.Tryz.checked.prog.funcNamed Rows.macActsRow.func = some 4 := by kernel_rfl
theorem macActsInst : f4.isInstance Proofs.Tryz.checked.prog Rows.macActsRow.origin Rows.macActsRow.targs := of_decide_eq_true (by kernel_rfl)
theorem macActsWrap : f4.isWrapper Proofs.Tryz.checked.prog Rows.macActsRow.wrapper Rows.macActsRow.mainSum := by unfold Func.isWrapper; first | (rw [if_pos (by decide +kernel)]; kernel_rfl) | (rw [if_neg (by decide +kernel)]; exact ⟨rfl, rfl⟩)
end Go.Proofs.YtmhchaedhmnofaaGreat
