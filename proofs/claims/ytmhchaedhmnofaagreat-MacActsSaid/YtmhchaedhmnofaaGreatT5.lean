/- The seat: part T5. -/
import Derived.Test.YtmhchaedhmnofaaGreatT4
import Derived.KernelRfl
import Derived.Test.YtmhchaedhmnofaaGreatA7
set_option maxRecDepth 100000
set_option maxHeartbeats 1000000
set_option linter.unusedSimpArgs false
set_option linter.unusedVariables false
namespace Go.Av.T
open Go Go.Av Go.Av.Sp Go.Proofs.Tryz
def c300 : SC := (.seq (.reg [(.box 2 57 (.t 0)), (.mv 4 (.c (.int .i64 0)))]) (.seq (.reg [(.fa 5 (.t 2) 0), (.ld 6 (.t 5) false 1), (.mv 7 (.t 1)), (.call (some 8) (.c (.func 151 [] [])) [(.t 6), (.t 7)]), (.mv 4 (.t 8))]) .ret))
theorem e300 : compC prog f300.ntmps (f300.body.getD .skip) = c300 := by kernel_rfl
def c299L1 : SC := (.seq (.seq (.reg [(.mv 15 (.t 9)), (.mv 16 (.t 10)), (.bin 17 .lss (.t 15) (.t 16))]) (.cond (.t 17) .skip (.exit 0))) (.block 1 (.seq (.reg [(.mv 18 (.t 9)), (.mv 19 (.t 10)), (.bin 20 .add (.t 18) (.t 19)), (.conv 21 .u64 (.t 20)), (.bin 22 .shr (.t 21) (.c (.int .u64 1))), (.conv 23 .i64 (.t 22)), (.mv 11 (.t 23))]) (.seq (.reg [(.mv 24 (.t 2)), (.mv 25 (.t 0)), (.mv 26 (.t 11)), (.ia 27 (.t 25) (.t 26) 6), (.ld 28 (.t 27) true 6), (.mv 29 (.t 1)), (.call (some 30) (.t 24) [(.t 28), (.t 29)]), (.bin 31 .lss (.t 30) (.c (.int .i64 0)))]) (.cond (.t 31) (.reg [(.mv 32 (.t 11)), (.bin 33 .add (.t 32) (.c (.int .i64 1))), (.mv 9 (.t 33))]) (.reg [(.mv 34 (.t 11)), (.mv 10 (.t 34))]))))))
def c299 : SC := (.seq (.reg [(.mv 6 (.c (.int .i64 0))), (.mv 7 (.c (.bool false)))]) (.seq (.reg [(.mv 12 (.t 0)), (.len 13 false (.t 12)), (.mv 8 (.t 13))]) (.seq (.reg [(.mv 14 (.t 8)), (.mv 9 (.c (.int .i64 0))), (.mv 10 (.t 14))]) (.seq (.block 0 (.loop c299L1)) (.seq (.reg [(.mv 35 (.t 9)), (.mv 36 (.t 9)), (.mv 37 (.t 8)), (.bin 38 .lss (.t 36) (.t 37)), (.mv 39 (.t 38)), (.g 39 true (some 40) (.mv 40 (.t 2))), (.g 39 true (some 41) (.mv 41 (.t 0))), (.g 39 true (some 42) (.mv 42 (.t 9))), (.g 39 true (some 43) (.ia 43 (.t 41) (.t 42) 6)), (.g 39 true (some 44) (.ld 44 (.t 43) true 6)), (.g 39 true (some 45) (.mv 45 (.t 1))), (.g 39 true (some 46) (.call (some 46) (.t 40) [(.t 44), (.t 45)])), (.g 39 true (some 47) (.bin 47 .eql (.t 46) (.c (.int .i64 0)))), (.pick 48 (.t 39) (.t 47) (.c (.bool false))), (.mv 6 (.t 35)), (.mv 7 (.t 48))]) .ret)))))
theorem e299 : compC prog f299.ntmps (f299.body.getD .skip) = c299 := by kernel_rfl
def c191 : SC := (.seq (.reg [(.box 2 24 (.t 0)), (.alc 4 57 [(.int .i64 0), (.int .i64 0), (.int .i64 0), (.bool false), (.int .i64 0), (.int .i64 0)]), (.mv 5 (.c (.bool false)))]) (.seq (.seq (.reg [(.ld 8 (.t 2) true 3), (.call (some 9) (.c (.func 80 [] [])) [(.t 8)]), (.bin 10 .neq (.t 9) (.c (.int .i64 0))), (.mv 11 (.t 10)), (.g 11 false (some 12) (.mv 12 (.t 1))), (.g 11 false (some 13) (.bin 13 .lss (.t 12) (.c (.int .i64 0)))), (.pick 14 (.t 11) (.c (.bool true)) (.t 13))]) (.cond (.t 14) (.seq (.reg [(.bld 15 [(.int .i64 0), (.int .i64 0), (.int .i64 0), (.bool false), (.int .i64 0), (.int .i64 0)] []), (.st (.t 4) (.t 15) 6), (.mv 5 (.c (.bool false)))]) .ret) .skip)) (.seq (.regD [(.fa 17 (.t 2) 2), (.ld 18 (.t 17) false 1), (.mv 19 (.t 1)), (.fa 20 (.t 2) 1), (.ld 21 (.t 20) false 1), (.bin 22 .rem (.t 19) (.t 21)), (.call (some 23) (.c (.func 299 [] [])) [(.t 18), (.t 22), (.c (.func 300 [] []))]), (.mv 16 (.t 23)), (.ext 24 (.t 16) 0), (.ext 25 (.t 16) 1), (.mv 6 (.t 24)), (.mv 7 (.t 25))] []) (.seq (.seq (.regD [(.mv 26 (.t 6)), (.fa 27 (.t 2) 2), (.ld 28 (.t 27) false 1), (.len 29 false (.t 28)), (.bin 30 .lss (.t 26) (.t 29)), (.mv 31 (.t 30)), (.g 31 true (some 32) (.fa 32 (.t 2) 2)), (.g 31 true (some 33) (.ld 33 (.t 32) false 1)), (.g 31 true (some 34) (.mv 34 (.t 6))), (.g 31 true (some 35) (.ia 35 (.t 33) (.t 34) 6)), (.g 31 true (some 36) (.fa 36 (.t 35) 0)), (.g 31 true (some 37) (.ld 37 (.t 36) false 1)), (.g 31 true (some 38) (.mv 38 (.t 1))), (.g 31 true (some 39) (.fa 39 (.t 2) 1)), (.g 31 true (some 40) (.ld 40 (.t 39) false 1)), (.g 31 true (some 41) (.bin 41 .rem (.t 38) (.t 40))), (.g 31 true (some 42) (.bin 42 .eql (.t 37) (.t 41))), (.pick 43 (.t 31) (.t 42) (.c (.bool false)))] []) (.cond (.t 43) (.seq (.reg [(.fa 44 (.t 2) 2), (.ld 45 (.t 44) false 1), (.mv 46 (.t 6)), (.ia 47 (.t 45) (.t 46) 6), (.ld 48 (.t 47) true 6), (.st (.t 4) (.t 48) 6), (.mv 5 (.c (.bool true)))]) .ret) .skip)) (.seq (.reg [(.bld 49 [(.int .i64 0), (.int .i64 0), (.int .i64 0), (.bool false), (.int .i64 0), (.int .i64 0)] []), (.st (.t 4) (.t 49) 6), (.mv 5 (.c (.bool false)))]) .ret)))))
theorem e191 : compC prog f191.ntmps (f191.body.getD .skip) = c191 := by kernel_rfl
theorem c300_pf (c : TCell) (n : Int)  : ACalls prog 300 [.agg [.int .i64 c.slot, .int .i64 c.off, .int .i64 c.kind, .bool c.send, .int .i64 c.peer, .int .i64 c.flow], .int .i64 n] [] (.int .i64 (cmp c.slot n)) [] := by
  refine calls_of hmx func300 (by kernel_rfl) (c := f300.body.getD .skip) rfl e300 (rs := [(.t 4)]) (by kernel_rfl) (by simp [ntmps300]) ?_
  simp only [c300, argS]
  simp only [go_sem, seval]
  repeat' first | (refine Rt_pure ?_ rfl; simp only [retO, retO1, retOs, S, get_cons, Nat.reduceEqDiff, reduceIte, obj, getO_cons_zero, getO_cons_succ, List.getElem?_cons_zero, List.getElem?_cons_succ, List.drop_zero, List.drop_succ_cons, loadFrom_cell, loadFrom_agg, List.length_cons, List.length_nil, Nat.reduceAdd, Nat.reduceLeDiff, List.take_succ_cons, List.take_zero, List.take_nil]) | refine CX_pure c151_ok rfl rfl rfl rfl ?_ | refine GX_call (fun _ => c151_ok) (by rfl) (by intro h; simp only [h]; rfl) (by rfl) (by rfl) ?_ | (with_reducible intro h; try simp only [h]) | (with_reducible refine And.intro ?_ ?_) | (change chk _ _ = true; rfl) | simp only [go_sem, seval, Vc_bool] | refine (GX_split rfl).2 ?_
theorem c300_ok {c_slot : Int} {c_off : Int} {c_kind : Int} {c_send : Bool} {c_peer : Int} {c_flow : Int} {n : Int}  : ACalls prog 300 [.agg [.int .i64 c_slot, .int .i64 c_off, .int .i64 c_kind, .bool c_send, .int .i64 c_peer, .int .i64 c_flow], .int .i64 n] [] (.int .i64 (cmp c_slot n)) [] := c300_pf (⟨c_slot, c_off, c_kind, c_send, c_peer, c_flow⟩ : TCell) n 

def cBsL (k : Nat) : SC := (.seq (.seq (.reg [(.mv 15 (.t 9)), (.mv 16 (.t 10)), (.bin 17 .lss (.t 15) (.t 16))]) (.cond (.t 17) .skip (.exit 0))) (.block 1 (.seq (.reg [(.mv 18 (.t 9)), (.mv 19 (.t 10)), (.bin 20 .add (.t 18) (.t 19)), (.conv 21 .u64 (.t 20)), (.bin 22 .shr (.t 21) (.c (.int .u64 1))), (.conv 23 .i64 (.t 22)), (.mv 11 (.t 23))]) (.seq (.reg [(.mv 24 (.t 2)), (.mv 25 (.t 0)), (.mv 26 (.t 11)), (.ia 27 (.t 25) (.t 26) k), (.ld 28 (.t 27) true k), (.mv 29 (.t 1)), (.call (some 30) (.t 24) [(.t 28), (.t 29)]), (.bin 31 .lss (.t 30) (.c (.int .i64 0)))]) (.cond (.t 31) (.reg [(.mv 32 (.t 11)), (.bin 33 .add (.t 32) (.c (.int .i64 1))), (.mv 9 (.t 33))]) (.reg [(.mv 34 (.t 11)), (.mv 10 (.t 34))]))))))
/-- Where a search ends. -/
def bsLo {α : Type} (c : α → Int) (xs : List α) : Nat := (xs.takeWhile fun x => decide (c x < 0)).length
def bsHit {α : Type} (c : α → Int) (xs : List α) : Bool := match xs[bsLo c xs]? with | some x => decide (c x = 0) | none => false
theorem mid_ok {i j : Nat} (h : i + j < 2 ^ 63) : IntKind.i64.wrap ((IntKind.u64.wrap (IntKind.i64.wrap ((i : Int) + (j : Int)))).fdiv (2 ^ min 1 64)) = ((i + j) / 2 : Nat) := by
  have e : (2 ^ min 1 64 : Int) = 2 := rfl
  have e1 : IntKind.i64.wrap ((i : Int) + (j : Int)) = (i : Int) + (j : Int) := wrap_ok (by omega) (by omega)
  have e2 : IntKind.u64.wrap ((i : Int) + (j : Int)) = (i : Int) + (j : Int) := by
    simp only [IntKind.wrap, IntKind.signed, IntKind.bits, Bool.false_and, Bool.false_eq_true, if_false]
    omega
  rw [e1, e2, e, Int.fdiv_eq_ediv_of_nonneg _ (by decide)]
  rw [wrap_ok (by omega) (by omega)]
  omega
section
variable {α : Type} {en : α → List AVal} {k : Nat} {xs : List α} {g : FuncId} {tv : AVal} {c : α → Int}
theorem bs_loop (hlen : xs.length < 2 ^ 62) (hen : ∀ x ∈ xs, (en x).length = k) (hea : ∀ x ∈ xs, ltL 0 (en x) = true) (htv : ltv 0 tv = true)
    (hcl : ∀ x ∈ xs, ACalls prog g [.agg (en x), tv] [] (.int .i64 (c x)) []) (hs : ∀ i x, xs[i]? = some x → (c x < 0 ↔ i < bsLo c xs)) (nt : Nat) (rs : List RS) (r : AVal) (k' : List It)
    (hk : ∀ s, get s 0 = .sl k (xs.map en) → get s 1 = tv → get s 2 = .func g [] [] → get s 8 = .int .i64 xs.length → get s 9 = .int .i64 (bsLo c xs) → V prog nt 0 (Ret rs 0 r []) k' s []) : ∀ (m i j : Nat), j - i ≤ m → i ≤ bsLo c xs → bsLo c xs ≤ j → j ≤ xs.length →
    Lp prog nt 0 (Ret rs 0 r []) (cBsL k) (.blk 0 :: k') [(0, .sl k (xs.map en)), (1, tv), (2, .func g [] []), (8, .int .i64 xs.length), (9, .int .i64 i), (10, .int .i64 j)] [] := by
  intro m
  induction m with
  | zero =>
    intro i j h1 h2 h3 h4
    refine Lp.of_eq hmx (cBsL.eq_1 k) ?_
    have e1 : decide ((i : Int) < (j : Int)) = false := by simp; omega
    simp only [go_sem, seval, e1]
    exact hk _ (by rfl) (by rfl) (by rfl) (by rfl) (by show AVal.int .i64 _ = _; congr 1; omega)
  | succ m ih =>
    intro i j h1 h2 h3 h4
    refine Lp.of_eq hmx (cBsL.eq_1 k) ?_
    rcases Nat.lt_or_ge i j with hij | hij
    · have e1 : decide ((i : Int) < (j : Int)) = true := by simp; omega
      have e2 := mid_ok (i := i) (j := j) (by omega)
      have hm : (i + j) / 2 < xs.length := by omega
      have e3 : (xs.map en)[(i + j) / 2]? = some (en xs[(i + j) / 2]) := by rw [List.getElem?_map, List.getElem?_eq_getElem hm]; rfl
      have hx : xs[(i + j) / 2] ∈ xs := List.getElem_mem hm
      have hek := hen _ hx
      have h5 : loadFrom true k (en xs[(i + j) / 2]) = some (.agg (en xs[(i + j) / 2])) := by simp [loadFrom, ← hek]
      have e4 : IntKind.i64.wrap (((i + j) / 2 : Nat) + (1 : Int)) = (((i + j) / 2 + 1 : Nat) : Int) := by rw [wrap_ok (by omega) (by omega)]; omega
      have hsx := hs ((i + j) / 2) _ (List.getElem?_eq_getElem hm)
      simp only [go_sem, seval, e1, e2, e3, e4, h5, Int.toNat_natCast, Int.natCast_nonneg, List.drop_zero]
      refine CX_pure (hcl _ hx) rfl rfl ?_ rfl ?_
      · simp only [List.nil_append, evs, ltL, ltv, hea _ hx, htv, Bool.and_self]
      · cases hc : decide (c xs[(i + j) / 2] < 0)
        · simp only [go_sem, seval, hc, e4]
          exact Lp.bk0 (ih i ((i + j) / 2) (by omega) h2 (by have : ¬ (c xs[(i + j) / 2] < 0) := of_decide_eq_false hc; rw [hsx] at this; omega) (by omega)) (by rfl)
        · simp only [go_sem, seval, hc, e4]
          exact Lp.bk0 (ih ((i + j) / 2 + 1) j (by omega) (by have : (c xs[(i + j) / 2] < 0) := of_decide_eq_true hc; rw [hsx] at this; omega) h3 h4) (by rfl)
    · have e1 : decide ((i : Int) < (j : Int)) = false := by simp; omega
      simp only [go_sem, seval, e1]
      exact hk _ (by rfl) (by rfl) (by rfl) (by rfl) (by show AVal.int .i64 _ = _; congr 1; omega)
end
theorem bsLo_le {α : Type} {c : α → Int} : ∀ (xs : List α), bsLo c xs ≤ xs.length
  | [] => Nat.le_refl _
  | x :: xs => by
    rw [bsLo, List.takeWhile_cons]
    split
    · have := bsLo_le (c := c) xs
      rw [bsLo] at this
      simp only [List.length_cons]
      omega
    · simp
theorem c299_ok {xs : List TCell} {n : Int} (hlen : xs.length < 2 ^ 62) (hs : ∀ i x, xs[i]? = some x → (cmp x.slot n < 0 ↔ i < bsLo (fun x => cmp x.slot n) xs)) :
    ACalls prog 299 [.sl 6 (xs.map TCell.enc), .int .i64 n, .func 300 [] []] [] (.tup [.int .i64 (bsLo (fun x => cmp x.slot n) xs), .bool (bsHit (fun x => cmp x.slot n) xs)]) [] := by
  refine calls_of hmx func299 (by kernel_rfl) (c := f299.body.getD .skip) rfl e299 (rs := [(.t 6), (.t 7)]) (by kernel_rfl) (by simp [ntmps299]) ?_
  simp only [c299, argS]
  simp only [go_sem, seval, List.length_map]
  refine Lp.bk0 (bs_loop (en := TCell.enc) (k := 6) hlen (fun _ _ => by rfl) (fun _ _ => by rfl) (by rfl) (fun x _ => c300_ok) hs _ _ _ _ (fun s z0 z1 z2 z8 z9 => ?_) xs.length 0 xs.length (by omega) (Nat.zero_le _) (bsLo_le _) (Nat.le_refl _)) (by rfl)
  have hle := bsLo_le (c := fun x => cmp x.slot n) xs
  rcases Nat.lt_or_ge (bsLo (fun x : TCell => cmp x.slot n) xs) xs.length with h | h
  · have e1 : decide (((bsLo (fun x => cmp x.slot n) xs : Nat) : Int) < (xs.length : Int)) = true := by simp; omega
    have e2 : (xs.map TCell.enc)[bsLo (fun x => cmp x.slot n) xs]? = some (TCell.enc xs[bsLo (fun x => cmp x.slot n) xs]) := by rw [List.getElem?_map, List.getElem?_eq_getElem h]; rfl
    have e3 : bsHit (fun x => cmp x.slot n) xs = decide (cmp xs[bsLo (fun x => cmp x.slot n) xs].slot n = 0) := by rw [bsHit, List.getElem?_eq_getElem h]
    rw [e3]
    simp only [go_sem, seval, z0, z1, z2, z8, z9, e1, e2, Int.toNat_natCast, Int.natCast_nonneg]
    refine CX_pure c300_ok rfl rfl rfl rfl ?_
    simp only [go_sem, seval]
    (refine Rt_pure ?_ rfl; simp only [retO, retO1, retOs, S, get_cons, Nat.reduceEqDiff, reduceIte, obj, getO_cons_zero, getO_cons_succ, List.getElem?_cons_zero, List.getElem?_cons_succ, List.drop_zero, List.drop_succ_cons, loadFrom_cell, loadFrom_agg, List.length_cons, List.length_nil, Nat.reduceAdd, Nat.reduceLeDiff, List.take_succ_cons, List.take_zero, List.take_nil])
  · have e1 : decide (((bsLo (fun x => cmp x.slot n) xs : Nat) : Int) < (xs.length : Int)) = false := by simp; omega
    have e3 : bsHit (fun x => cmp x.slot n) xs = false := by rw [bsHit, List.getElem?_eq_none h]
    rw [e3]
    simp only [go_sem, seval, z0, z1, z2, z8, z9, e1]
    (refine Rt_pure ?_ rfl; simp only [retO, retO1, retOs, S, get_cons, Nat.reduceEqDiff, reduceIte, obj, getO_cons_zero, getO_cons_succ, List.getElem?_cons_zero, List.getElem?_cons_succ, List.drop_zero, List.drop_succ_cons, loadFrom_cell, loadFrom_agg, List.length_cons, List.length_nil, Nat.reduceAdd, Nat.reduceLeDiff, List.take_succ_cons, List.take_zero, List.take_nil])

end Go.Av.T
set_option maxRecDepth 100000
set_option maxHeartbeats 1000000
set_option linter.unusedSimpArgs false
set_option linter.unusedVariables false
namespace Go.Av.T
open Go Go.Av Go.Av.Sp Go.Proofs.Tryz
theorem cmp_lt (a n : Int) : cmp a n < 0 ↔ a < n := by grind [cmp]
theorem cmp_eq (a n : Int) : cmp a n = 0 ↔ a = n := by grind [cmp]
theorem bs_srt {α : Type} {f : α → Int} {n : Int} : ∀ {xs : List α}, xs.Pairwise (fun a b => f a ≤ f b) → ∀ i x, xs[i]? = some x → (cmp (f x) n < 0 ↔ i < bsLo (fun x => cmp (f x) n) xs)
  | [], _, i, x, h => by simp at h
  | y :: ys, hp, i, x, h => by
    have hl := (List.pairwise_cons.1 hp).1
    have ih := bs_srt (n := n) (List.pairwise_cons.1 hp).2
    rw [bsLo, List.takeWhile_cons]
    cases i with
    | zero =>
      simp only [List.getElem?_cons_zero, Option.some.injEq] at h
      subst h
      by_cases c : cmp (f y) n < 0 <;> simp [c]
    | succ i =>
      rw [List.getElem?_cons_succ] at h
      have h1 := ih i x h
      by_cases c : cmp (f y) n < 0
      · rw [if_pos (decide_eq_true c), List.length_cons, h1, bsLo]; omega
      · have h2 := hl x (List.mem_of_getElem? h)
        rw [cmp_lt] at c
        rw [if_neg (by simp [cmp_lt]; omega), cmp_lt]
        simp
        omega
theorem bs_find {α : Type} {f : α → Int} {n : Int} : ∀ {xs : List α}, xs.Pairwise (fun a b => f a ≤ f b) → xs.find? (fun x => decide (f x = n)) = match xs[bsLo (fun x => cmp (f x) n) xs]? with | some x => if f x = n then some x else none | none => none
  | [], _ => rfl
  | y :: ys, hp => by
    have hl := (List.pairwise_cons.1 hp).1
    have ih := bs_find (n := n) (List.pairwise_cons.1 hp).2
    by_cases c : f y < n
    · have e : bsLo (fun x => cmp (f x) n) (y :: ys) = bsLo (fun x => cmp (f x) n) ys + 1 := by rw [bsLo, List.takeWhile_cons, if_pos (by simpa [cmp_lt] using c)]; rfl
      rw [e, List.find?_cons_of_neg (by simp; omega), List.getElem?_cons_succ]
      exact ih
    · have e : bsLo (fun x => cmp (f x) n) (y :: ys) = 0 := by rw [bsLo, List.takeWhile_cons, if_neg (by simpa [cmp_lt] using c)]; rfl
      rw [e, List.getElem?_cons_zero]
      by_cases c2 : f y = n
      · rw [List.find?_cons_of_pos (by simpa using c2)]; simp [c2]
      · rw [List.find?_cons_of_neg (by simpa using c2)]
        simp only [c2, if_false]
        exact List.find?_eq_none.2 fun x hx => by have := hl x hx; simp; omega
theorem chainE_srt {α : Type} {err : α → Int} {lt : α → α → Bool} {e : Int} {f : α → Int} (he : e ≠ 0) (hlt : ∀ a b, lt a b = true → f a ≤ f b) : ∀ (xs : List α) (p : Option α), chainE err lt e p xs = 0 → xs.Pairwise (fun a b => f a ≤ f b) ∧ ∀ q, p = some q → ∀ x ∈ xs, f q ≤ f x
  | [], p, _ => ⟨.nil, by simp⟩
  | x :: xs, none, h => by
    simp only [chainE, Bool.false_eq_true, if_false] at h
    split at h
    · rename_i h1; exact absurd h h1
    · obtain ⟨i1, i2⟩ := chainE_srt he hlt xs (some x) h
      exact ⟨List.pairwise_cons.2 ⟨fun y hy => i2 x rfl y hy, i1⟩, by simp⟩
  | x :: xs, some p, h => by
    simp only [chainE] at h
    split at h
    · rename_i h1; exact absurd h h1
    · split at h
      · exact absurd h he
      · rename_i h2
        obtain ⟨i1, i2⟩ := chainE_srt he hlt xs (some x) h
        refine ⟨List.pairwise_cons.2 ⟨fun y hy => i2 x rfl y hy, i1⟩, fun q hq y hy => ?_⟩
        cases hq
        have h3 : f p ≤ f x := hlt p x (by simpa using h2)
        rcases List.mem_cons.1 hy with rfl | hy
        · exact h3
        · exact Int.le_trans h3 (i2 x rfl y hy)
theorem tab_srt {t : Table} (h : tabErr t = 0) : t.cells.Pairwise (fun a b => a.slot ≤ b.slot) := by
  unfold tabErr at h
  split at h
  · cases h
  · split at h
    · cases h
    · exact (chainE_srt (by decide) (fun a b h => by simp only [cellLess, Bool.or_eq_true, Bool.and_eq_true, decide_eq_true_eq] at h; omega) _ _ h).1
/-- A cell and whether there is one. -/
def oCell (o : Option TCell) : AVal := match o with | some c => .tup [.agg c.enc, .bool true] | none => .tup [.agg TCell.zero.enc, .bool false]
theorem tab_len {t : Table} (h : tabErr t = 0) : 1 ≤ t.len := by
  unfold tabErr at h
  split at h
  · cases h
  · rename_i h1
    simp only [Bool.or_eq_true, decide_eq_true_eq, not_or] at h1
    omega
theorem find_at {α : Type} {f : α → Int} {n : Int} {xs : List α} (hp : xs.Pairwise (fun a b => f a ≤ f b)) : (∀ (h : bsLo (fun x => cmp (f x) n) xs < xs.length), xs.find? (fun x => decide (f x = n)) = if f (xs[bsLo (fun x => cmp (f x) n) xs]'h) = n then some (xs[bsLo (fun x => cmp (f x) n) xs]'h) else none) ∧ (xs.length ≤ bsLo (fun x => cmp (f x) n) xs → xs.find? (fun x => decide (f x = n)) = none) := by
  refine ⟨fun h => ?_, fun h => ?_⟩
  · rw [bs_find hp, List.getElem?_eq_getElem h]
  · rw [bs_find hp, List.getElem?_eq_none h]
theorem c191_pf (t : Table) (slot : Int) (hL : t.cells.length < 2 ^ 62) : ACalls prog 191 [.agg [.int .i64 t.node, .int .i64 t.len, .sl 6 (t.cells.map TCell.enc)], .int .i64 slot] [] (oCell (tabAt t slot)) [] := by
  refine calls_of hmx func191 (by kernel_rfl) (c := f191.body.getD .skip) rfl e191 (rs := [(.cell 4 true 6), (.t 5)]) (by kernel_rfl) (by simp [ntmps191]) ?_
  simp only [c191, argS]
  simp only [go_sem, seval]
  repeat' first | refine CX_pure (c80_ok hL) rfl rfl rfl rfl ?_ | refine GX_call (fun _ => (c80_ok hL)) (by rfl) (by intro h; simp only [h]; rfl) (by rfl) (by rfl) ?_ | (with_reducible intro h; try simp only [h]) | (with_reducible refine And.intro ?_ ?_) | (change chk _ _ = true; rfl) | simp only [go_sem, seval, Vc_bool] | refine (GX_split rfl).2 ?_
  · have e : tabAt t slot = none := by
      rw [tabAt, if_pos]
      simpa using h
    rw [e]
    (refine Rt_pure ?_ rfl; simp only [retO, retO1, retOs, S, get_cons, Nat.reduceEqDiff, reduceIte, obj, getO_cons_zero, getO_cons_succ, List.getElem?_cons_zero, List.getElem?_cons_succ, List.drop_zero, List.drop_succ_cons, loadFrom_cell, loadFrom_agg, List.length_cons, List.length_nil, Nat.reduceAdd, Nat.reduceLeDiff, List.take_succ_cons, List.take_zero, List.take_nil])
    rfl
  · simp only [Bool.or_eq_false_iff, Bool.not_eq_false', decide_eq_true_eq] at h
    have := tab_len h.1
    omega
  · simp only [Bool.or_eq_false_iff, Bool.not_eq_false', decide_eq_true_eq, decide_eq_false_iff_not] at h
    have hs := tab_srt h.1
    have e : tabAt t slot = t.cells.find? fun c => decide (c.slot = slot.tmod t.len) := by
      rw [tabAt, if_neg]
      simp [h.1]; omega
    obtain ⟨f1, f2⟩ := find_at (n := slot.tmod t.len) hs
    rw [← e] at f1 f2
    refine CX_pure (c299_ok hL (bs_srt hs)) rfl rfl rfl rfl ?_
    clear e
    have hlen := tab_len h.1
    generalize hnn : slot.tmod t.len = nn at *
    rcases Nat.lt_or_ge (bsLo (fun x : TCell => cmp x.slot nn) t.cells) t.cells.length with hl | hl
    · have e1 : decide (((bsLo (fun x : TCell => cmp x.slot nn) t.cells : Nat) : Int) < (t.cells.length : Int)) = true := by simp; omega
      have e2 : (t.cells.map TCell.enc)[bsLo (fun x : TCell => cmp x.slot nn) t.cells]? = some (TCell.enc t.cells[bsLo (fun x : TCell => cmp x.slot nn) t.cells]) := by rw [List.getElem?_map, List.getElem?_eq_getElem hl]; rfl
      rw [f1 hl]
      generalize t.cells[bsLo (fun x : TCell => cmp x.slot nn) t.cells] = c at *
      repeat' first | (with_reducible intro h; try simp only [h]) | (with_reducible refine And.intro ?_ ?_) | (change chk _ _ = true; rfl) | simp only [go_sem, seval, Vc_bool, List.length_map, e1, e2, Int.toNat_natCast, Int.natCast_nonneg, hnn] | refine (GX_split rfl).2 ?_
      · omega
      · rw [if_pos (of_decide_eq_true h)]
        (refine Rt_pure ?_ rfl; simp only [retO, retO1, retOs, S, get_cons, Nat.reduceEqDiff, reduceIte, obj, getO_cons_zero, getO_cons_succ, List.getElem?_cons_zero, List.getElem?_cons_succ, List.drop_zero, List.drop_succ_cons, loadFrom_cell, loadFrom_agg, List.length_cons, List.length_nil, Nat.reduceAdd, Nat.reduceLeDiff, List.take_succ_cons, List.take_zero, List.take_nil])
        rfl
      · rw [if_neg (of_decide_eq_false h)]
        (refine Rt_pure ?_ rfl; simp only [retO, retO1, retOs, S, get_cons, Nat.reduceEqDiff, reduceIte, obj, getO_cons_zero, getO_cons_succ, List.getElem?_cons_zero, List.getElem?_cons_succ, List.drop_zero, List.drop_succ_cons, loadFrom_cell, loadFrom_agg, List.length_cons, List.length_nil, Nat.reduceAdd, Nat.reduceLeDiff, List.take_succ_cons, List.take_zero, List.take_nil])
        rfl
    · have e1 : decide (((bsLo (fun x : TCell => cmp x.slot nn) t.cells : Nat) : Int) < (t.cells.length : Int)) = false := by simp; omega
      rw [f2 hl]
      repeat' first | (refine Rt_pure ?_ rfl; simp only [retO, retO1, retOs, S, get_cons, Nat.reduceEqDiff, reduceIte, obj, getO_cons_zero, getO_cons_succ, List.getElem?_cons_zero, List.getElem?_cons_succ, List.drop_zero, List.drop_succ_cons, loadFrom_cell, loadFrom_agg, List.length_cons, List.length_nil, Nat.reduceAdd, Nat.reduceLeDiff, List.take_succ_cons, List.take_zero, List.take_nil]) | (with_reducible intro h; try simp only [h]) | (with_reducible refine And.intro ?_ ?_) | (change chk _ _ = true; rfl) | simp only [go_sem, seval, Vc_bool, List.length_map, e1] | refine (GX_split rfl).2 ?_
      rfl
theorem c191_ok {t_node : Int} {t_len : Int} {t_cells : List TCell} {slot : Int} (hL : t_cells.length < 2 ^ 62) : ACalls prog 191 [.agg [.int .i64 t_node, .int .i64 t_len, .sl 6 (t_cells.map TCell.enc)], .int .i64 slot] [] (oCell (tabAt (⟨t_node, t_len, t_cells⟩ : Table) slot)) [] := c191_pf (⟨t_node, t_len, t_cells⟩ : Table) slot hL


end Go.Av.T
set_option maxRecDepth 100000
set_option maxHeartbeats 1000000
set_option linter.unusedSimpArgs false
set_option linter.unusedVariables false
namespace Go.Av.T
open Go Go.Av Go.Av.Sp Go.Proofs.Tryz
def c96 : SC := (.seq (.reg [(.box 2 31 (.t 0)), (.mv 4 (.c .nptr)), (.mv 5 (.c (.int .i64 0)))]) (.seq (.seq (.reg [(.ld 7 (.t 2) true 14), (.call (some 8) (.c (.func 22 [] [])) [(.t 7)]), (.bin 9 .neq (.t 8) (.c (.int .i64 0)))]) (.cond (.t 9) (.seq (.reg [(.mv 4 (.c .nptr)), (.mv 5 (.c (.int .i64 1)))]) .ret) .skip)) (.seq (.seq (.reg [(.mv 10 (.t 1)), (.call (some 11) (.c (.func 81 [] [])) [(.t 10), (.c (.int .i64 109951162))]), (.not 12 (.t 11))]) (.cond (.t 12) (.seq (.reg [(.mv 4 (.c .nptr)), (.mv 5 (.c (.int .i64 2)))]) .ret) .skip)) (.seq (.reg [(.ld 13 (.t 2) true 14), (.call (some 14) (.c (.func 152 [] [])) [(.t 13)]), (.mv 15 (.t 1)), (.bld 16 [(.int .i64 0), (.int .i64 0), .nil, (.int .i64 0), .nil, .nil, .nil, (.int .i64 0), (.int .i64 0), (.int .i64 0), (.int .i64 0), (.int .i64 0), (.int .i64 0), (.int .i64 0), (.int .i64 0), (.int .i64 0), (.int .i64 0), (.int .i64 0), (.bool false), (.int .i64 0), (.int .i64 0)] [(0, 14, (.t 14)), (14, 1, (.t 15))]), (.box 17 176 (.t 16)), (.mv 6 (.t 17))]) (.seq (.reg [(.mv 19 (.t 6)), (.fa 20 (.t 2) 0), (.ld 21 (.t 20) true 3), (.mv 22 (.t 1)), (.call (some 23) (.c (.func 191 [] [])) [(.t 21), (.t 22)]), (.mv 18 (.t 23)), (.ext 24 (.t 18) 0), (.ext 25 (.t 18) 1), (.nck 26 (.t 19)), (.fa 27 (.t 26) 15), (.st (.t 27) (.t 24) 6)]) (.seq (.reg [(.mv 28 (.t 6)), (.mv 4 (.t 28)), (.mv 5 (.c (.int .i64 0)))]) .ret))))))
theorem e96 : compC prog f96.ntmps (f96.body.getD .skip) = c96 := by kernel_rfl
/-- A station at work: the slot, and the cell in force. -/
def wEnc (s : Station) (slot : Int) (c : TCell) : List AVal := [.int .i64 s.tab.node, .int .i64 s.tab.len, .sl 6 (s.tab.cells.map TCell.enc), .int .i64 s.q.limit, .sl 6 (s.q.pk.map Packet.enc), .sl 5 (s.held.map Held.enc), .sl 2 (s.seen.map Seen.enc), .int .i64 s.list, .int .i64 s.seq, .int .i64 s.trying, .int .i64 s.tries, .int .i64 s.back, .int .i64 s.wait, .int .i64 s.seed, .int .i64 slot, .int .i64 c.slot, .int .i64 c.off, .int .i64 c.kind, .bool c.send, .int .i64 c.peer, .int .i64 c.flow]
attribute [go_sem] wEnc
theorem ClBd.st {s : Station} (h : ClBd s) : StBd s := by
  obtain ⟨b1, b2, b3, b4, b5⟩ := h
  exact ⟨by omega, by omega, by omega, fun h hh => by have := b5 h hh; omega, by omega⟩
def cellAt (s : Station) (slot : Int) : TCell := (tabAt s.tab slot).getD TCell.zero
theorem oCell_eq (o : Option TCell) : oCell o = .tup [.agg (o.getD TCell.zero).enc, .bool o.isSome] := by cases o <;> rfl
theorem c191_at {s : Station} {slot : Int} (hL : s.tab.cells.length < 2 ^ 62) : ACalls prog 191 [.agg s.tab.enc, .int .i64 slot] [] (.tup [.agg (cellAt s slot).enc, .bool (tabAt s.tab slot).isSome]) [] := by
  have h := c191_ok (t_node := s.tab.node) (t_len := s.tab.len) (t_cells := s.tab.cells) (slot := slot) hL
  rw [oCell_eq] at h
  exact h
theorem c96_err {s : Station} {slot : Int} (hB : ClBd s) (hE : slotErr s slot ≠ 0) : ACalls prog 96 [.agg s.enc, .int .i64 slot] [] (.tup [.nptr, .int .i64 (slotErr s slot)]) [] := by
  refine calls_of hmx func96 (by kernel_rfl) (c := f96.body.getD .skip) rfl e96 (rs := [(.t 4), (.t 5)]) (by kernel_rfl) (by simp [ntmps96]) ?_
  simp only [c96, argS]
  simp only [go_sem, seval]
  repeat' first | refine CX_pure (c22_pf s hB.st) rfl rfl rfl rfl ?_ | refine CX_pure c81_ok rfl rfl rfl rfl ?_ | refine GX_call (fun _ => (c22_pf s hB.st)) (by rfl) (by intro h; simp only [h]; rfl) (by rfl) (by rfl) ?_ | refine GX_call (fun _ => c81_ok) (by rfl) (by intro h; simp only [h]; rfl) (by rfl) (by rfl) ?_ | (with_reducible intro h; try simp only [h]) | (with_reducible refine And.intro ?_ ?_) | (change chk _ _ = true; rfl) | simp only [go_sem, seval, Vc_bool] | refine (GX_split rfl).2 ?_
  · have e : slotErr s slot = 1 := by grind [slotErr, stErr]
    rw [e]
    (refine Rt_pure ?_ rfl; simp only [retO, retO1, retOs, S, get_cons, Nat.reduceEqDiff, reduceIte, obj, getO_cons_zero, getO_cons_succ, List.getElem?_cons_zero, List.getElem?_cons_succ, List.drop_zero, List.drop_succ_cons, loadFrom_cell, loadFrom_agg, List.length_cons, List.length_nil, Nat.reduceAdd, Nat.reduceLeDiff, List.take_succ_cons, List.take_zero, List.take_nil])
  · have e : slotErr s slot = 2 := by grind [slotErr, stErr, wi]
    rw [e]
    (refine Rt_pure ?_ rfl; simp only [retO, retO1, retOs, S, get_cons, Nat.reduceEqDiff, reduceIte, obj, getO_cons_zero, getO_cons_succ, List.getElem?_cons_zero, List.getElem?_cons_succ, List.drop_zero, List.drop_succ_cons, loadFrom_cell, loadFrom_agg, List.length_cons, List.length_nil, Nat.reduceAdd, Nat.reduceLeDiff, List.take_succ_cons, List.take_zero, List.take_nil])
  · exact absurd (by grind [slotErr, stErr, wi]) hE
theorem c96_ok {s : Station} {slot : Int} (hB : ClBd s) (hE : slotErr s slot = 0) : ACalls prog 96 [.agg s.enc, .int .i64 slot] [] (.tup [.ptr 0 0 0 0, .int .i64 0]) [.cells 0 21 176 true [wEnc s slot (cellAt s slot)]] := by
  refine calls_of hmx func96 (by kernel_rfl) (c := f96.body.getD .skip) rfl e96 (rs := [(.t 4), (.t 5)]) (by kernel_rfl) (by simp [ntmps96]) ?_
  simp only [c96, argS]
  simp only [go_sem, seval]
  repeat' first | refine CX_pure (c22_pf s hB.st) rfl rfl rfl rfl ?_ | refine CX_pure c81_ok rfl rfl rfl rfl ?_ | refine CX_pure (c152_pf s hB) rfl rfl rfl rfl ?_ | refine CX_pure (c191_at hB.st.1) rfl rfl rfl rfl ?_ | refine GX_call (fun _ => (c22_pf s hB.st)) (by rfl) (by intro h; simp only [h]; rfl) (by rfl) (by rfl) ?_ | refine GX_call (fun _ => c81_ok) (by rfl) (by intro h; simp only [h]; rfl) (by rfl) (by rfl) ?_ | refine GX_call (fun _ => (c152_pf s hB)) (by rfl) (by intro h; simp only [h]; rfl) (by rfl) (by rfl) ?_ | refine GX_call (fun _ => (c191_at hB.st.1)) (by rfl) (by intro h; simp only [h]; rfl) (by rfl) (by rfl) ?_ | (with_reducible intro h; try simp only [h]) | (with_reducible refine And.intro ?_ ?_) | (change chk _ _ = true; rfl) | simp only [go_sem, seval, Vc_bool] | refine (GX_split rfl).2 ?_
  · exact absurd hE (by grind [slotErr, stErr])
  · exact absurd hE (by grind [slotErr, stErr, wi])
  · refine Rt_sel [1] (r0 := .tup [.ptr 1 0 0 0, .int .i64 0]) ?_ (by rfl) rfl (by rfl) rfl (by decide) ?_ (Nat.zero_le _) rfl
    · simp only [retO, retO1, retOs, S, get_cons, Nat.reduceEqDiff, reduceIte, obj, getO_cons_zero, getO_cons_succ, List.getElem?_cons_zero, List.getElem?_cons_succ, List.drop_zero, List.drop_succ_cons, loadFrom_cell, loadFrom_agg, List.length_cons, List.length_nil, Nat.reduceAdd, Nat.reduceLeDiff, List.take_succ_cons, List.take_zero, List.take_nil]
    · rfl

end Go.Av.T
set_option maxRecDepth 100000
set_option maxHeartbeats 1000000
set_option linter.unusedSimpArgs false
set_option linter.unusedVariables false
namespace Go.Av.T
open Go Go.Av Go.Av.Sp Go.Proofs.Tryz
def c301 : SC := (.seq (.reg [(.box 2 27 (.t 0)), (.alc 4 104 [(.int .i64 0), (.int .i64 0), (.int .i64 0), (.int .i64 0), (.int .i64 0), (.str (ByteArray.mk #[]))]), (.mv 5 (.c (.bool false)))]) (.seq (.seq (.reg [(.ld 7 (.t 2) true 2), (.call (some 8) (.c (.func 188 [] [])) [(.t 7)]), (.bin 9 .neq (.t 8) (.c (.int .i64 0)))]) (.cond (.t 9) (.seq (.reg [(.bld 10 [(.int .i64 0), (.int .i64 0), (.int .i64 0), (.int .i64 0), (.int .i64 0), (.str (ByteArray.mk #[]))] []), (.st (.t 4) (.t 10) 6), (.mv 5 (.c (.bool false)))]) .ret) .skip)) (.seq (.seq (.reg [(.fa 11 (.t 2) 1), (.ld 12 (.t 11) false 1), (.mv 13 (.t 1)), (.call (some 14) (.c (.func 365 [] [])) [(.t 12), (.t 13)]), (.mv 6 (.t 14))]) (.seq (.reg [(.mv 15 (.t 6)), (.bin 16 .geq (.t 15) (.c (.int .i64 0)))]) (.cond (.t 16) (.seq (.reg [(.fa 17 (.t 2) 1), (.ld 18 (.t 17) false 1), (.mv 19 (.t 6)), (.ia 20 (.t 18) (.t 19) 6), (.ld 21 (.t 20) true 6), (.st (.t 4) (.t 21) 6), (.mv 5 (.c (.bool true)))]) .ret) .skip))) (.seq (.reg [(.bld 22 [(.int .i64 0), (.int .i64 0), (.int .i64 0), (.int .i64 0), (.int .i64 0), (.str (ByteArray.mk #[]))] []), (.st (.t 4) (.t 22) 6), (.mv 5 (.c (.bool false)))]) .ret))))
theorem e301 : compC prog f301.ntmps (f301.body.getD .skip) = c301 := by kernel_rfl
def c302 : SC := (.seq (.reg [(.box 3 104 (.t 1)), (.alc 4 43 [(.int .i64 0), (.int .i64 0), (.int .i64 0), (.int .i64 0), (.int .i64 0), (.int .i64 0), (.int .i64 0), (.int .i64 0), (.int .i64 0), (.int .i64 0), (.int .i64 0), (.int .i64 0), (.int .i64 0), (.str (ByteArray.mk #[]))])]) (.seq (.regD [(.mv 5 (.t 0)), (.nck 6 (.t 5)), (.fa 7 (.t 6) 0), (.fa 8 (.t 7) 0), (.fa 9 (.t 8) 0), (.ld 10 (.t 9) false 1), (.fa 11 (.t 3) 1), (.ld 12 (.t 11) false 1), (.mv 13 (.t 0)), (.nck 14 (.t 13)), (.fa 15 (.t 14) 0), (.fa 16 (.t 15) 7), (.ld 17 (.t 16) false 1), (.mv 18 (.t 0)), (.nck 19 (.t 18)), (.fa 20 (.t 19) 0), (.fa 21 (.t 20) 8), (.ld 22 (.t 21) false 1), (.fa 23 (.t 3) 5), (.ld 24 (.t 23) false 1), (.bld 25 [(.int .i64 0), (.int .i64 0), (.int .i64 0), (.int .i64 0), (.int .i64 0), (.int .i64 0), (.int .i64 0), (.int .i64 0), (.int .i64 0), (.int .i64 0), (.int .i64 0), (.str (ByteArray.mk #[]))] [(0, 1, (.c (.int .i64 4))), (1, 1, (.t 10)), (2, 1, (.t 12)), (3, 1, (.t 17)), (4, 1, (.t 22)), (11, 1, (.t 24))]), (.bld 26 [(.int .i64 0), (.int .i64 0), (.int .i64 0), (.int .i64 0), (.int .i64 0), (.int .i64 0), (.int .i64 0), (.int .i64 0), (.int .i64 0), (.int .i64 0), (.int .i64 0), (.int .i64 0), (.int .i64 0), (.str (ByteArray.mk #[]))] [(0, 1, (.c (.int .i64 1))), (2, 12, (.t 25))]), (.st (.t 4) (.t 26) 14)] []) .ret))
theorem e302 : compC prog f302.ntmps (f302.body.getD .skip) = c302 := by kernel_rfl
def c193 : SC := (.seq (.reg [(.alc 2 43 [(.int .i64 0), (.int .i64 0), (.int .i64 0), (.int .i64 0), (.int .i64 0), (.int .i64 0), (.int .i64 0), (.int .i64 0), (.int .i64 0), (.int .i64 0), (.int .i64 0), (.int .i64 0), (.int .i64 0), (.str (ByteArray.mk #[]))])]) (.seq (.seq (.reg [(.mv 5 (.t 0)), (.nck 6 (.t 5)), (.fa 7 (.t 6) 15), (.fa 8 (.t 7) 3), (.ld 9 (.t 8) false 1), (.not 10 (.t 9))]) (.cond (.t 10) (.seq (.reg [(.bld 11 [(.int .i64 0), (.int .i64 0), (.int .i64 0), (.int .i64 0), (.int .i64 0), (.int .i64 0), (.int .i64 0), (.int .i64 0), (.int .i64 0), (.int .i64 0), (.int .i64 0), (.int .i64 0), (.int .i64 0), (.str (ByteArray.mk #[]))] [(0, 1, (.c (.int .i64 2)))]), (.st (.t 2) (.t 11) 14)]) .ret) .skip)) (.seq (.seq (.regD [(.mv 13 (.t 0)), (.nck 14 (.t 13)), (.fa 15 (.t 14) 0), (.fa 16 (.t 15) 3), (.ld 17 (.t 16) true 2), (.mv 18 (.t 0)), (.nck 19 (.t 18)), (.fa 20 (.t 19) 15), (.fa 21 (.t 20) 4), (.ld 22 (.t 21) false 1), (.call (some 23) (.c (.func 301 [] [])) [(.t 17), (.t 22)]), (.mv 12 (.t 23)), (.ext 24 (.t 12) 0), (.ext 25 (.t 12) 1), (.alc 3 104 [(.int .i64 0), (.int .i64 0), (.int .i64 0), (.int .i64 0), (.int .i64 0), (.str (ByteArray.mk #[]))]), (.st (.t 3) (.t 24) 6), (.mv 4 (.t 25))] [(4, 14), (9, 14), (10, 14)]) (.seq (.reg [(.mv 26 (.t 4))]) (.cond (.t 26) (.seq (.reg [(.mv 27 (.t 0)), (.ld 28 (.t 3) true 6), (.call (some 29) (.c (.func 302 [] [])) [(.t 27), (.t 28)]), (.st (.t 2) (.t 29) 14)]) .ret) .skip))) (.seq (.reg [(.bld 30 [(.int .i64 0), (.int .i64 0), (.int .i64 0), (.int .i64 0), (.int .i64 0), (.int .i64 0), (.int .i64 0), (.int .i64 0), (.int .i64 0), (.int .i64 0), (.int .i64 0), (.int .i64 0), (.int .i64 0), (.str (ByteArray.mk #[]))] []), (.st (.t 2) (.t 30) 14)]) .ret))))
theorem e193 : compC prog f193.ntmps (f193.body.getD .skip) = c193 := by kernel_rfl
/-- A packet and whether there is one. -/
def oPk (o : Option Packet) : AVal := .tup [.agg (o.getD Packet.zero).enc, .bool o.isSome]
theorem oPk_some {p : Packet} : oPk (some p) = .tup [.agg p.enc, .bool true] := rfl
theorem oPk_none : oPk none = .tup [.agg Packet.zero.enc, .bool false] := rfl
attribute [go_sem] oPk_some oPk_none
theorem c301_pf (q : Queue) (to : Int) (hL : q.pk.length < 2 ^ 62) : ACalls prog 301 [.agg [.int .i64 q.limit, .sl 6 (q.pk.map Packet.enc)], .int .i64 to] [] (oPk (qFirst q to)) [] := by
  refine calls_of hmx func301 (by kernel_rfl) (c := f301.body.getD .skip) rfl e301 (rs := [(.cell 4 true 6), (.t 5)]) (by kernel_rfl) (by simp [ntmps301]) ?_
  simp only [c301, argS]
  have e0 : qErr q ≠ 0 → qFirst q to = none := fun h => by rw [qFirst, if_pos h]
  have e1 : qErr q = 0 → qFirst q to = q.pk.find? fun p => decide (p.to = to) := fun h => by rw [qFirst, if_neg (by simpa using h)]
  rcases idxFrom_find (fun p : Packet => decide (p.to = to)) q.pk with ⟨h1, h2⟩ | ⟨i, x, h1, h2, h3, h4, h5⟩
  · simp only [go_sem, seval]
    repeat' first | refine CX_pure (c188_ok hL) rfl rfl rfl rfl ?_ | refine CX_pure (c365_ok hL) rfl rfl rfl rfl ?_ | refine GX_call (fun _ => (c188_ok hL)) (by rfl) (by intro h; simp only [h]; rfl) (by rfl) (by rfl) ?_ | refine GX_call (fun _ => (c365_ok hL)) (by rfl) (by intro h; simp only [h]; rfl) (by rfl) (by rfl) ?_ | (with_reducible intro h; try simp only [h]) | (with_reducible refine And.intro ?_ ?_) | (change chk _ _ = true; rfl) | simp only [go_sem, seval, Vc_bool, h1] | refine (GX_split rfl).2 ?_
    · rw [e0 (by simpa using h)]
      (refine Rt_pure ?_ rfl; simp only [retO, retO1, retOs, S, get_cons, Nat.reduceEqDiff, reduceIte, obj, getO_cons_zero, getO_cons_succ, List.getElem?_cons_zero, List.getElem?_cons_succ, List.drop_zero, List.drop_succ_cons, loadFrom_cell, loadFrom_agg, List.length_cons, List.length_nil, Nat.reduceAdd, Nat.reduceLeDiff, List.take_succ_cons, List.take_zero, List.take_nil])
      rfl
    · rw [e1 (by simpa using h), h2]
      (refine Rt_pure ?_ rfl; simp only [retO, retO1, retOs, S, get_cons, Nat.reduceEqDiff, reduceIte, obj, getO_cons_zero, getO_cons_succ, List.getElem?_cons_zero, List.getElem?_cons_succ, List.drop_zero, List.drop_succ_cons, loadFrom_cell, loadFrom_agg, List.length_cons, List.length_nil, Nat.reduceAdd, Nat.reduceLeDiff, List.take_succ_cons, List.take_zero, List.take_nil])
      rfl
  · have e2 : (q.pk.map Packet.enc)[i]? = some x.enc := by rw [List.getElem?_map, h1]; rfl
    have e3 : decide ((0 : Int) ≤ (i : Int)) = true := by simp
    simp only [go_sem, seval]
    repeat' first | refine CX_pure (c188_ok hL) rfl rfl rfl rfl ?_ | refine CX_pure (c365_ok hL) rfl rfl rfl rfl ?_ | refine GX_call (fun _ => (c188_ok hL)) (by rfl) (by intro h; simp only [h]; rfl) (by rfl) (by rfl) ?_ | refine GX_call (fun _ => (c365_ok hL)) (by rfl) (by intro h; simp only [h]; rfl) (by rfl) (by rfl) ?_ | (with_reducible intro h; try simp only [h]) | (with_reducible refine And.intro ?_ ?_) | (change chk _ _ = true; rfl) | simp only [go_sem, seval, Vc_bool, h3, e2, e3, Int.toNat_natCast, Int.natCast_nonneg] | refine (GX_split rfl).2 ?_
    · rw [e0 (by simpa using h)]
      (refine Rt_pure ?_ rfl; simp only [retO, retO1, retOs, S, get_cons, Nat.reduceEqDiff, reduceIte, obj, getO_cons_zero, getO_cons_succ, List.getElem?_cons_zero, List.getElem?_cons_succ, List.drop_zero, List.drop_succ_cons, loadFrom_cell, loadFrom_agg, List.length_cons, List.length_nil, Nat.reduceAdd, Nat.reduceLeDiff, List.take_succ_cons, List.take_zero, List.take_nil])
      rfl
    · rw [e1 (by simpa using h), h4]
      (refine Rt_pure ?_ rfl; simp only [retO, retO1, retOs, S, get_cons, Nat.reduceEqDiff, reduceIte, obj, getO_cons_zero, getO_cons_succ, List.getElem?_cons_zero, List.getElem?_cons_succ, List.drop_zero, List.drop_succ_cons, loadFrom_cell, loadFrom_agg, List.length_cons, List.length_nil, Nat.reduceAdd, Nat.reduceLeDiff, List.take_succ_cons, List.take_zero, List.take_nil])
      rfl
theorem c301_ok {q_limit : Int} {q_pk : List Packet} {to : Int} (hL : q_pk.length < 2 ^ 62) : ACalls prog 301 [.agg [.int .i64 q_limit, .sl 6 (q_pk.map Packet.enc)], .int .i64 to] [] (oPk (qFirst (⟨q_limit, q_pk⟩ : Queue) to)) [] := c301_pf (⟨q_limit, q_pk⟩ : Queue) to hL

theorem c302_ok {s : Station} {slot : Int} {c : TCell} {p : Packet} : ACalls prog 302 [.ptr 0 0 0 0, .agg p.enc] [.cells 0 21 176 true [wEnc s slot c]] (.agg (Action.enc ⟨1, 0, msgOf s p⟩)) [.cells 0 21 176 true [wEnc s slot c]] := by
  refine calls_of hmx func302 (by kernel_rfl) (c := f302.body.getD .skip) rfl e302 (rs := [(.cell 4 true 14)]) (by kernel_rfl) (by simp [ntmps302]) ?_
  simp only [c302, argS]
  simp only [go_sem, seval]
  exact Rt_T (H := [_]) _ (by rfl) (by rfl) (by rfl) (Nat.le_refl _)
def agSt (s : Station) (c : TCell) : Action := if c.send = false then ⟨2, 0, Frame.zero⟩ else match qFirst s.q c.peer with | some p => ⟨1, 0, msgOf s p⟩ | none => Action.zero
theorem c193_ok {s : Station} {slot : Int} {c : TCell} (hL : s.q.pk.length < 2 ^ 62) : ACalls prog 193 [.ptr 0 0 0 0] [.cells 0 21 176 true [wEnc s slot c]] (.agg (agSt s c).enc) [.cells 0 21 176 true [wEnc s slot c]] := by
  have h301 := c301_pf s.q c.peer hL
  refine calls_of hmx func193 (by kernel_rfl) (c := f193.body.getD .skip) rfl e193 (rs := [(.cell 2 true 14)]) (by kernel_rfl) (by simp [ntmps193]) ?_
  simp only [c193, argS]
  cases hq : qFirst s.q c.peer with
  | none =>
    rw [hq] at h301
    simp only [go_sem, seval]
    repeat' first | refine CX_pure (h301) rfl rfl rfl rfl ?_ | refine GX_call (fun _ => (h301)) (by rfl) (by intro h; simp only [h]; rfl) (by rfl) (by rfl) ?_ | (with_reducible intro h; try simp only [h]) | (with_reducible refine And.intro ?_ ?_) | (change chk _ _ = true; rfl) | simp only [go_sem, seval, Vc_bool, oPk_none] | refine (GX_split rfl).2 ?_
    · have e : agSt s c = ⟨2, 0, Frame.zero⟩ := by rw [agSt, if_pos (by simpa using h)]
      rw [e]
      exact Rt_T (H := [_]) _ (by rfl) (by rfl) (by rfl) (Nat.le_refl _)
    · have e : agSt s c = Action.zero := by rw [agSt, if_neg (by simpa using h), hq]
      rw [e]
      exact Rt_T (H := [_]) _ (by rfl) (by rfl) (by rfl) (Nat.le_refl _)
  | some p =>
    rw [hq] at h301
    simp only [go_sem, seval]
    repeat' first | refine CX_pure (h301) rfl rfl rfl rfl ?_ | refine CX_rd [0] (c302_ok) (by rfl) (by rfl) (by rfl) (by rfl) (by rfl) (by decide) (by rfl) (by rfl) (by rfl) ?_ | refine GX_call (fun _ => (h301)) (by rfl) (by intro h; simp only [h]; rfl) (by rfl) (by rfl) ?_ | (with_reducible intro h; try simp only [h]) | (with_reducible refine And.intro ?_ ?_) | (change chk _ _ = true; rfl) | simp only [go_sem, seval, Vc_bool, oPk_some] | refine (GX_split rfl).2 ?_
    · have e : agSt s c = ⟨2, 0, Frame.zero⟩ := by rw [agSt, if_pos (by simpa using h)]
      rw [e]
      exact Rt_T (H := [_]) _ (by rfl) (by rfl) (by rfl) (Nat.le_refl _)
    · have e : agSt s c = ⟨1, 0, msgOf s p⟩ := by rw [agSt, if_neg (by simpa using h), hq]
      rw [e]
      exact Rt_T (H := [_]) _ (by rfl) (by rfl) (by rfl) (Nat.le_refl _)

end Go.Av.T
set_option maxRecDepth 100000
set_option maxHeartbeats 1000000
set_option linter.unusedSimpArgs false
set_option linter.unusedVariables false
namespace Go.Av.T
open Go Go.Av Go.Av.Sp Go.Proofs.Tryz
def c97 : SC := (.seq (.reg [(.alc 2 43 [(.int .i64 0), (.int .i64 0), (.int .i64 0), (.int .i64 0), (.int .i64 0), (.int .i64 0), (.int .i64 0), (.int .i64 0), (.int .i64 0), (.int .i64 0), (.int .i64 0), (.int .i64 0), (.int .i64 0), (.str (ByteArray.mk #[]))])]) (.seq (.reg [(.mkm 5), (.mv 6 (.t 0)), (.mkf 7 192 [(.t 6)] []), (.mst (.t 5) (.c (.int .i64 1)) (.t 7)), (.mv 8 (.t 0)), (.mkf 9 193 [(.t 8)] []), (.mst (.t 5) (.c (.int .i64 2)) (.t 9)), (.mv 10 (.t 0)), (.mkf 11 194 [(.t 10)] []), (.mst (.t 5) (.c (.int .i64 3)) (.t 11)), (.mv 12 (.t 5)), (.mv 13 (.t 0)), (.nck 14 (.t 13)), (.fa 15 (.t 14) 15), (.fa 16 (.t 15) 2), (.ld 17 (.t 16) false 1), (.mgt 18 (.t 12) (.t 17) .nfunc false), (.mv 3 (.t 18))]) (.seq (.seq (.reg [(.mv 19 (.t 3)), (.binN 20 2 false (.t 19))]) (.cond (.t 20) (.seq (.reg [(.bld 21 [(.int .i64 0), (.int .i64 0), (.int .i64 0), (.int .i64 0), (.int .i64 0), (.int .i64 0), (.int .i64 0), (.int .i64 0), (.int .i64 0), (.int .i64 0), (.int .i64 0), (.int .i64 0), (.int .i64 0), (.str (ByteArray.mk #[]))] []), (.st (.t 2) (.t 21) 14)]) .ret) .skip)) (.seq (.reg [(.mv 22 (.t 3)), (.call (some 23) (.t 22) []), (.alc 4 43 [(.int .i64 0), (.int .i64 0), (.int .i64 0), (.int .i64 0), (.int .i64 0), (.int .i64 0), (.int .i64 0), (.int .i64 0), (.int .i64 0), (.int .i64 0), (.int .i64 0), (.int .i64 0), (.int .i64 0), (.str (ByteArray.mk #[]))]), (.st (.t 4) (.t 23) 14)]) (.seq (.seq (.reg [(.fa 24 (.t 4) 0), (.ld 25 (.t 24) false 1), (.bin 26 .neq (.t 25) (.c (.int .i64 0)))]) (.cond (.t 26) (.reg [(.mv 27 (.t 0)), (.nck 28 (.t 27)), (.fa 29 (.t 28) 15), (.fa 30 (.t 29) 1), (.ld 31 (.t 30) false 1), (.fa 32 (.t 4) 1), (.st (.t 32) (.t 31) 1)]) .skip)) (.seq (.reg [(.ld 33 (.t 4) true 14), (.st (.t 2) (.t 33) 14)]) .ret))))))
theorem e97 : compC prog f97.ntmps (f97.body.getD .skip) = c97 := by kernel_rfl
def offd (a : Action) (c : TCell) : Action := if a.kind = 0 then a else { a with off := c.off }
theorem c97_2 {s : Station} {slot : Int} {c : TCell} {a : Action} (hk : c.kind = 2) (hg : ACalls prog 193 [.ptr 0 0 0 0] [.cells 0 21 176 true [wEnc s slot c]] (.agg a.enc) [.cells 0 21 176 true [wEnc s slot c]]) :
    ACalls prog 97 [.ptr 0 0 0 0] [.cells 0 21 176 true [wEnc s slot c]] (.agg (offd a c).enc) [.cells 0 21 176 true [wEnc s slot c]] := by
  rcases c with ⟨cs, co, ck, cd, cp, cf⟩
  obtain rfl : ck = 2 := hk
  refine calls_of hmx func97 (by kernel_rfl) (c := f97.body.getD .skip) rfl e97 (rs := [(.cell 2 true 14)]) (by kernel_rfl) (by simp [ntmps97]) ?_
  simp only [c97, argS]
  simp only [go_sem, seval]
  repeat' first | refine CX_rd [0] (hg) (by rfl) (by rfl) (by rfl) (by rfl) (by rfl) (by decide) (by rfl) (by rfl) (by rfl) ?_ | (with_reducible intro h; try simp only [h]) | (with_reducible refine And.intro ?_ ?_) | (change chk _ _ = true; rfl) | simp only [go_sem, seval, Vc_bool, mapSet_cons, mapSet_nil, mapAt_cons, mapAt_nil] | refine (GX_split rfl).2 ?_
  · have e : offd a ⟨cs, co, 2, cd, cp, cf⟩ = { a with off := co } := by rw [offd, if_neg (by simpa using h)]
    rw [e]
    exact Rt_T (H := [_]) _ (by rfl) (by rfl) (by rfl) (Nat.le_refl _)
  · have e : offd a ⟨cs, co, 2, cd, cp, cf⟩ = a := by rw [offd, if_pos (by simpa using h)]
    rw [e]
    exact Rt_T (H := [_]) _ (by rfl) (by rfl) (by rfl) (Nat.le_refl _)

end Go.Av.T
