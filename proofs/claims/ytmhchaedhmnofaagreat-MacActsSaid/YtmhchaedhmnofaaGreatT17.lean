/- The seat: part T17. -/
import Derived.Test.YtmhchaedhmnofaaGreatT16
import Derived.KernelRfl
set_option maxRecDepth 100000
set_option maxHeartbeats 1000000
set_option linter.unusedSimpArgs false
set_option linter.unusedVariables false
namespace Go.Av.T
open Go Go.Av Go.Av.Sp Go.Proofs.Tryz
theorem few_cl {s : Station} (h : stFew s = true) : ClBd s := by
  simp only [stFew, tabFew, qFew, heldFew, fewCells, Bool.and_eq_true, Bool.or_eq_true, decide_eq_true_eq, List.all_eq_true] at h
  obtain ⟨⟨⟨h1, h2⟩, h3⟩, h4⟩ := h
  refine ⟨by omega, by omega, by omega, by omega, fun x hx => ?_⟩
  have := (h3.2 x hx).2
  omega
theorem dec_self (n : Int) : decide (n = n) = true := by simp
theorem bytes_self (n : ByteArray) : decide (n = n) = true := by simp
theorem c4_ok {s : Station} {slot : Int} (hB2 : s.q.pk.length < 2 ^ 63) (hB3 : s.held.length < 2 ^ 63) : ACalls prog 4 [.agg s.enc, .int .i64 slot] [] (.bool true) [] := by
  refine calls_of hmx func4 (by kernel_rfl) (c := f4.body.getD .skip) rfl e4 (rs := [(.t 4)]) (by kernel_rfl) (by simp [ntmps4]) ?_
  simp only [c4, argS]
  cases hf : stFew s
  · repeat' first | (refine Rt_pure ?_ rfl; simp only [retO, retO1, retOs, S, get_cons, Nat.reduceEqDiff, reduceIte, obj, getO_cons_zero, getO_cons_succ, List.getElem?_cons_zero, List.getElem?_cons_succ, List.drop_zero, List.drop_succ_cons, loadFrom_cell, loadFrom_agg, List.length_cons, List.length_nil, Nat.reduceAdd, Nat.reduceLeDiff, List.take_succ_cons, List.take_zero, List.take_nil]) | refine CX_pure (c18_ok) rfl rfl rfl rfl ?_ | refine CX_pure (c19w_pf s hB2 hB3) rfl rfl rfl rfl ?_ | refine GX_call (fun _ => (c18_ok)) (by rfl) (by intro h; simp only [h]; rfl) (by rfl) (by rfl) ?_ | refine GX_call (fun _ => (c19w_pf s hB2 hB3)) (by rfl) (by intro h; simp only [h]; rfl) (by rfl) (by rfl) ?_ | (with_reducible intro h; try simp only [h]) | (with_reducible refine And.intro ?_ ?_) | (change chk _ _ = true; rfl) | simp only [go_sem, seval, Vc_bool, hf] | refine (GX_split rfl).2 ?_
  · have hc := few_cl hf
    repeat' first | refine CX_pure (c18_ok) rfl rfl rfl rfl ?_ | refine CX_pure (c19w_pf s hB2 hB3) rfl rfl rfl rfl ?_ | refine CX_pure (c25_act (s := s) (slot := slot) hc) rfl rfl rfl rfl ?_ | refine CX_pure (c26_ok (s := s) (slot := slot) hc.st) rfl rfl rfl rfl ?_ | refine GX_call (fun _ => (c18_ok)) (by rfl) (by intro h; simp only [h]; rfl) (by rfl) (by rfl) ?_ | refine GX_call (fun _ => (c19w_pf s hB2 hB3)) (by rfl) (by intro h; simp only [h]; rfl) (by rfl) (by rfl) ?_ | refine GX_call (fun _ => (c25_act (s := s) (slot := slot) hc)) (by rfl) (by intro h; simp only [h]; rfl) (by rfl) (by rfl) ?_ | refine GX_call (fun _ => (c26_ok (s := s) (slot := slot) hc.st)) (by rfl) (by intro h; simp only [h]; rfl) (by rfl) (by rfl) ?_ | (with_reducible intro h; try simp only [h]) | (with_reducible refine And.intro ?_ ?_) | (change chk _ _ = true; rfl) | simp only [go_sem, seval, Vc_bool, hf, dec_self, bytes_self] | refine (GX_split rfl).2 ?_
    exact Rt_pure (by rfl) (by rfl)

end Go.Av.T
