/- The seat: part T13. -/
import Derived.Test.YtmhchaedhmnofaaGreatT12
import Derived.KernelRfl
import Derived.Test.YtmhchaedhmnofaaGreatRows
import Derived.WalkKit
import Derived.ProofKit
import Derived.OpenShut
import Derived.ReadAgain
set_option maxRecDepth 100000
set_option maxHeartbeats 1000000
set_option linter.unusedSimpArgs false
set_option linter.unusedVariables false
namespace Go.Av.T
open Go Go.Av Go.Av.Sp Go.Proofs.Tryz
theorem rg_hdW {α : Type} {L done rest : List α} {c : α} (f : α → List AVal) (hd : L = done ++ c :: rest) (hL : L.length < 2 ^ 63) :
    decide ((done.length : Int) < (L.length : Int)) = true ∧ (L.map f)[done.length]? = some (f c) ∧ IntKind.i64.wrap ((done.length : Int) + 1) = ((done ++ [c]).length : Int) ∧ L = (done ++ [c]) ++ rest := by
  subst hd
  refine ⟨by simp; omega, by simp, ?_, by simp⟩
  simp only [List.length_append, List.length_cons] at hL
  rw [wrap_ok (by omega) (by omega)]
  simp
theorem rg_prevW {α : Type} {L done ds rest : List α} {p : α} (f : α → List AVal) (hd : L = done ++ rest) (h0 : done = ds ++ [p]) (hL : L.length < 2 ^ 63) :
    decide ((0 : Int) < (done.length : Int)) = true ∧ IntKind.i64.wrap ((done.length : Int) - 1) = (ds.length : Int) ∧ (L.map f)[ds.length]? = some (f p) ∧ done.getLast? = some p := by
  subst h0
  subst hd
  refine ⟨by simp, ?_, by simp, by simp⟩
  simp only [List.length_append, List.length_cons, List.length_nil] at hL ⊢
  rw [wrap_ok (by omega) (by omega)]
  omega
theorem l79w (q : Queue) (hL : (q.pk).length < 2 ^ 63) (k' : List It) (hk : ∀ zs, V prog f79.ntmps 0 (Ret [(.t 2)] 0 (.bool true) []) k' zs [.cells 0 2 27 true [q.enc]]) : ∀ (rest done : List Packet), q.pk = done ++ rest →
    Lp prog f79.ntmps 0 (Ret [(.t 2)] 0 (.bool ((rest).all fun p => decide ((p.data.size : Int) ≤ 200))) []) c79L1 (.blk 0 :: k') [(1, .ptr 0 0 0 0), (3, .int .i64 done.length)] [.cells 0 2 27 true [q.enc]] := by
  intro rest
  induction rest with
  | nil =>
    intro done hd
    refine Lp.of_eq hmx c79L1.eq_1 ?_
    have h1 := rg_end hd
    simp only [go_sem, seval, h1, List.length_map]
    exact hk _
  | cons c rest ih =>
    intro done hd
    refine Lp.of_eq hmx c79L1.eq_1 ?_
    obtain ⟨h1, h2, h3, h4⟩ := rg_hdW Packet.enc hd hL
    have ih' := ih _ h4
    rcases List.eq_nil_or_concat done with h0 | ⟨ds, p, h0⟩
    · obtain ⟨p1, hp⟩ := rg_first' h0
      repeat' first | (refine Lp.bkE0 ih' (by rfl) ?_) | (refine Rt_pure ?_ rfl; simp only [retO, retO1, retOs, S, get_cons, Nat.reduceEqDiff, reduceIte, obj, getO_cons_zero, getO_cons_succ, List.getElem?_cons_zero, List.getElem?_cons_succ, List.drop_zero, List.drop_succ_cons, loadFrom_cell, loadFrom_agg, List.length_cons, List.length_nil, Nat.reduceAdd, Nat.reduceLeDiff, List.take_succ_cons, List.take_zero, List.take_nil]) | (with_reducible intro h; try simp only [h]) | (with_reducible refine And.intro ?_ ?_) | (change chk _ _ = true; rfl) | simp only [go_sem, seval, Vc_bool, h1, h2, h3, Int.toNat_natCast, Int.natCast_nonneg, List.length_map, p1] | refine (GX_split rfl).2 ?_
      all_goals (clear hk ih ih' h1 h2 h3 h4 hd hL)
      all_goals clear p1 h0
      all_goals (simp only [List.all_cons]; grind)
    · rw [List.concat_eq_append] at h0
      obtain ⟨p1, p2, p3, hp⟩ := rg_prevW Packet.enc hd h0 hL
      repeat' first | (refine Lp.bkE0 ih' (by rfl) ?_) | (refine Rt_pure ?_ rfl; simp only [retO, retO1, retOs, S, get_cons, Nat.reduceEqDiff, reduceIte, obj, getO_cons_zero, getO_cons_succ, List.getElem?_cons_zero, List.getElem?_cons_succ, List.drop_zero, List.drop_succ_cons, loadFrom_cell, loadFrom_agg, List.length_cons, List.length_nil, Nat.reduceAdd, Nat.reduceLeDiff, List.take_succ_cons, List.take_zero, List.take_nil]) | (with_reducible intro h; try simp only [h]) | (with_reducible refine And.intro ?_ ?_) | (change chk _ _ = true; rfl) | simp only [go_sem, seval, Vc_bool, h1, h2, h3, Int.toNat_natCast, Int.natCast_nonneg, List.length_map, p1, p2, p3] | refine (GX_split rfl).2 ?_
      all_goals (clear hk ih ih' h1 h2 h3 h4 hd hL)
      all_goals clear p1 p2 p3 h0
      all_goals (simp only [List.all_cons]; grind)

theorem c79w_pf (q : Queue) (hL : q.pk.length < 2 ^ 63) : ACalls prog 79 [.agg [.int .i64 q.limit, .sl 6 (q.pk.map Packet.enc)]] [] (.bool (qFew q)) [] := by
  refine calls_of hmx func79 (by kernel_rfl) (c := f79.body.getD .skip) rfl e79 (rs := [(.t 2)]) (by kernel_rfl) (by simp [ntmps79]) ?_
  simp only [c79, argS]
  simp only [go_sem, seval, List.length_map, Vc_bool]
  refine ⟨fun h => ?_, fun h => ?_⟩
  · (refine Rt_pure ?_ rfl; simp only [retO, retO1, retOs, S, get_cons, Nat.reduceEqDiff, reduceIte, obj, getO_cons_zero, getO_cons_succ, List.getElem?_cons_zero, List.getElem?_cons_succ, List.drop_zero, List.drop_succ_cons, loadFrom_cell, loadFrom_agg, List.length_cons, List.length_nil, Nat.reduceAdd, Nat.reduceLeDiff, List.take_succ_cons, List.take_zero, List.take_nil])
    grind [qFew]
  · refine Lp.bkE0 (l79w q hL _ (fun zs => ?_) q.pk [] rfl) (by rfl) ?_
    · simp only [go_sem, seval]
      (refine Rt_pure ?_ rfl; simp only [retO, retO1, retOs, S, get_cons, Nat.reduceEqDiff, reduceIte, obj, getO_cons_zero, getO_cons_succ, List.getElem?_cons_zero, List.getElem?_cons_succ, List.drop_zero, List.drop_succ_cons, loadFrom_cell, loadFrom_agg, List.length_cons, List.length_nil, Nat.reduceAdd, Nat.reduceLeDiff, List.take_succ_cons, List.take_zero, List.take_nil])
    · simp only [qFew]
      grind
theorem c79w_ok {q_limit : Int} {q_pk : List Packet} (hL : q_pk.length < 2 ^ 63) : ACalls prog 79 [.agg [.int .i64 q_limit, .sl 6 (q_pk.map Packet.enc)]] [] (.bool (qFew (⟨q_limit, q_pk⟩ : Queue))) [] := c79w_pf (⟨q_limit, q_pk⟩ : Queue) hL

theorem l19w (s : Station) (hL : (s.held).length < 2 ^ 63) (k' : List It) (hk : ∀ zs, V prog f19.ntmps 0 (Ret [(.t 2)] 0 (.bool true) []) k' zs [.cells 0 14 31 true [s.enc]]) : ∀ (rest done : List Held), s.held = done ++ rest →
    Lp prog f19.ntmps 0 (Ret [(.t 2)] 0 (.bool ((rest).all fun h => decide ((h.data.size : Int) ≤ 200) && decide ((h.acked.length : Int) ≤ 40))) []) c19L1 (.blk 0 :: k') [(1, .ptr 0 0 0 0), (3, .int .i64 done.length)] [.cells 0 14 31 true [s.enc]] := by
  intro rest
  induction rest with
  | nil =>
    intro done hd
    refine Lp.of_eq hmx c19L1.eq_1 ?_
    have h1 := rg_end hd
    simp only [go_sem, seval, h1, List.length_map]
    exact hk _
  | cons c rest ih =>
    intro done hd
    refine Lp.of_eq hmx c19L1.eq_1 ?_
    obtain ⟨h1, h2, h3, h4⟩ := rg_hdW Held.enc hd hL
    have ih' := ih _ h4
    rcases List.eq_nil_or_concat done with h0 | ⟨ds, p, h0⟩
    · obtain ⟨p1, hp⟩ := rg_first' h0
      cases hw0 : (decide (200 < (c.data.size : Int)))
      all_goals
        repeat' first | (refine Lp.bkE0 ih' (by rfl) ?_) | (refine Rt_pure ?_ rfl; simp only [retO, retO1, retOs, S, get_cons, Nat.reduceEqDiff, reduceIte, obj, getO_cons_zero, getO_cons_succ, List.getElem?_cons_zero, List.getElem?_cons_succ, List.drop_zero, List.drop_succ_cons, loadFrom_cell, loadFrom_agg, List.length_cons, List.length_nil, Nat.reduceAdd, Nat.reduceLeDiff, List.take_succ_cons, List.take_zero, List.take_nil]) | (with_reducible intro h; try simp only [h]) | (with_reducible refine And.intro ?_ ?_) | (change chk _ _ = true; rfl) | simp only [go_sem, seval, Vc_bool, h1, h2, h3, Int.toNat_natCast, Int.natCast_nonneg, List.length_map, hw0, p1] | refine (GX_split rfl).2 ?_
        all_goals (clear hk ih ih' h1 h2 h3 h4 hd hL)
        all_goals clear p1 h0
        all_goals (simp only [List.all_cons]; simp only [decide_eq_true_eq, decide_eq_false_iff_not] at hw0; grind)
    · rw [List.concat_eq_append] at h0
      obtain ⟨p1, p2, p3, hp⟩ := rg_prevW Held.enc hd h0 hL
      cases hw0 : (decide (200 < (c.data.size : Int)))
      all_goals
        repeat' first | (refine Lp.bkE0 ih' (by rfl) ?_) | (refine Rt_pure ?_ rfl; simp only [retO, retO1, retOs, S, get_cons, Nat.reduceEqDiff, reduceIte, obj, getO_cons_zero, getO_cons_succ, List.getElem?_cons_zero, List.getElem?_cons_succ, List.drop_zero, List.drop_succ_cons, loadFrom_cell, loadFrom_agg, List.length_cons, List.length_nil, Nat.reduceAdd, Nat.reduceLeDiff, List.take_succ_cons, List.take_zero, List.take_nil]) | (with_reducible intro h; try simp only [h]) | (with_reducible refine And.intro ?_ ?_) | (change chk _ _ = true; rfl) | simp only [go_sem, seval, Vc_bool, h1, h2, h3, Int.toNat_natCast, Int.natCast_nonneg, List.length_map, hw0, p1, p2, p3] | refine (GX_split rfl).2 ?_
        all_goals (clear hk ih ih' h1 h2 h3 h4 hd hL)
        all_goals clear p1 p2 p3 h0
        all_goals (simp only [List.all_cons]; simp only [decide_eq_true_eq, decide_eq_false_iff_not] at hw0; grind)

theorem c19w_pf (s : Station) (hB2 : s.q.pk.length < 2 ^ 63) (hB3 : s.held.length < 2 ^ 63) : ACalls prog 19 [.agg [.int .i64 s.tab.node, .int .i64 s.tab.len, .sl 6 (s.tab.cells.map TCell.enc), .int .i64 s.q.limit, .sl 6 (s.q.pk.map Packet.enc), .sl 5 (s.held.map Held.enc), .sl 2 (s.seen.map Seen.enc), .int .i64 s.list, .int .i64 s.seq, .int .i64 s.trying, .int .i64 s.tries, .int .i64 s.back, .int .i64 s.wait, .int .i64 s.seed]] [] (.bool (stFew s)) [] := by
  refine calls_of hmx func19 (by kernel_rfl) (c := f19.body.getD .skip) rfl e19 (rs := [(.t 2)]) (by kernel_rfl) (by simp [ntmps19]) ?_
  simp only [c19, argS]
  simp only [go_sem, seval]
  repeat' first | (refine Lp.bkE0 (l19w s hB3 _ (fun zs => ?_) s.held [] rfl) (by rfl) ?_) | (refine Rt_pure ?_ rfl; simp only [retO, retO1, retOs, S, get_cons, Nat.reduceEqDiff, reduceIte, obj, getO_cons_zero, getO_cons_succ, List.getElem?_cons_zero, List.getElem?_cons_succ, List.drop_zero, List.drop_succ_cons, loadFrom_cell, loadFrom_agg, List.length_cons, List.length_nil, Nat.reduceAdd, Nat.reduceLeDiff, List.take_succ_cons, List.take_zero, List.take_nil]) | refine CX_pure c68_ok rfl rfl rfl rfl ?_ | refine CX_pure (c79w_ok hB2) rfl rfl rfl rfl ?_ | refine GX_call (fun _ => c68_ok) (by rfl) (by intro h; simp only [h]; rfl) (by rfl) (by rfl) ?_ | refine GX_call (fun _ => (c79w_ok hB2)) (by rfl) (by intro h; simp only [h]; rfl) (by rfl) (by rfl) ?_ | (with_reducible intro h; try simp only [h]) | (with_reducible refine And.intro ?_ ?_) | (change chk _ _ = true; rfl) | simp only [go_sem, seval, Vc_bool, List.length_map] | refine (GX_split rfl).2 ?_
  all_goals simp only [stFew, heldFew]
  all_goals grind
theorem c19w_ok {s_tab_node : Int} {s_tab_len : Int} {s_tab_cells : List TCell} {s_q_limit : Int} {s_q_pk : List Packet} {s_held : List Held} {s_seen : List Seen} {s_list : Int} {s_seq : Int} {s_trying : Int} {s_tries : Int} {s_back : Int} {s_wait : Int} {s_seed : Int} (hB2 : s_q_pk.length < 2 ^ 63) (hB3 : s_held.length < 2 ^ 63) : ACalls prog 19 [.agg [.int .i64 s_tab_node, .int .i64 s_tab_len, .sl 6 (s_tab_cells.map TCell.enc), .int .i64 s_q_limit, .sl 6 (s_q_pk.map Packet.enc), .sl 5 (s_held.map Held.enc), .sl 2 (s_seen.map Seen.enc), .int .i64 s_list, .int .i64 s_seq, .int .i64 s_trying, .int .i64 s_tries, .int .i64 s_back, .int .i64 s_wait, .int .i64 s_seed]] [] (.bool (stFew (⟨(⟨s_tab_node, s_tab_len, s_tab_cells⟩ : Table), (⟨s_q_limit, s_q_pk⟩ : Queue), s_held, s_seen, s_list, s_seq, s_trying, s_tries, s_back, s_wait, s_seed⟩ : Station))) [] := c19w_pf (⟨(⟨s_tab_node, s_tab_len, s_tab_cells⟩ : Table), (⟨s_q_limit, s_q_pk⟩ : Queue), s_held, s_seen, s_list, s_seq, s_trying, s_tries, s_back, s_wait, s_seed⟩ : Station) hB2 hB3


end Go.Av.T
/- The row of a law, part 1: from a contract to the row's call; arguments that are read again. -/
set_option linter.unusedVariables false
set_option linter.unusedSimpArgs false
set_option maxRecDepth 100000
namespace Go.Av.T
open Go Go.Av Go.Av.Sp Go.Proofs.YtmhchaedhmnofaaGreat Go.ChangeShapes Go.WideShapes Go.ChangeAt Go.RowKit

section
variable {H : Type} {enc : TypeId × Value → H} {P : Program}
/-- Nothing that was there has changed. -/
structure Old (W W' : World) : Prop where
  os : W'.os = W.os
  output : W'.output = W.output
  same : ∀ b, b < W.heap.size → W'.heap[b]? = W.heap[b]?

theorem Old.kept {W W' : World} (h : Old W W') (may : MemPlace → Prop) : W.keptBut W' may := by
  refine ⟨h.os, h.output, fun i hi => ?_⟩
  rw [h.same i hi]
  cases W.heap[i]? with
  | none => rfl
  | some o =>
    cases o <;> first | exact ⟨rfl, rfl, rfl, fun _ _ => rfl⟩ | exact .inr ⟨rfl, rfl⟩ | rfl

theorem Old.sameAt {W W' : World} (h : Old W W') {p : MemPlace} (hp : p.block < W.heap.size) : W.sameAt W' p := by
  cases p <;> (simp only [World.sameAt, MemPlace.block, World.cell?] at hp ⊢; rw [h.same _ hp])

theorem Old.trod {W W' : World} (h : Old W W') {base : Nat} {sp : Nat → Bool} {held : Bool} : ∀ {ts : List TypeId} {vs : List Value} {ds : List (DataW H)} {ps : List MemPlace}, DataW.TrodAll enc P W base sp held ts vs ds ps → (∀ p ∈ ps, p.block < W.heap.size) → DataW.TrodAll enc P W' base sp held ts vs ds ps
  | [], [], [], _, h', _ => h'
  | _ :: _, _ :: _, _ :: _, _, ⟨p, q, ⟨n, h1⟩, h2, e⟩, hs => ⟨p, q, ⟨n, DataW.trod_carry n _ _ _ h1 fun x hx => h.sameAt (hs x (by rw [e]; exact List.mem_append_left _ hx))⟩, h.trod h2 (fun x hx => hs x (by rw [e]; exact List.mem_append_right _ hx)), e⟩

/-- The answer of a law that writes nothing that was there. -/
theorem post_old {f : Func} {s : ChangeSpec} {apart fresh handsOn again : Bool} {W W' : World} {args : Array Value} {v : Value} {ds gs : List (DataW H)} {before : List MemPlace}
    (K : Kids P (· < P.types.size)) (hz : ∀ t e, t < P.types.size → P.underlying t = some (.slice e) → 0 < P.cellsOf e) (hts : ∀ t ∈ f.params.toList, t < P.types.size) (hvs : s.vars = [])
    (hW : DataW.Whole enc P f.params.toList s.vars apart W args.toList ds gs before) (hO : Old W W')
    (hres : ∀ (b : Nat) (sp : Nat → Bool) (hd : Bool), DataW.TrodAll enc P W' b sp hd f.resultTypes.toList (v.resultList f.resultTypes.size) (s.fn H (ds ++ gs)).results [])
    (hargs : (s.fn H (ds ++ gs)).args = ds) (hvars : (s.fn H (ds ++ gs)).vars = [])
    (hok : ∀ (j : Nat) (t : TypeId) (r : Value), f.resultTypes[j]? = some t → (v.resultList f.resultTypes.size)[j]? = some r → Value.okWide P W' .any 0 t r) :
    s.post enc P f apart fresh handsOn again W args v W' := by
  have hW0 := hW
  obtain ⟨p, q, hp, hq, he, hfz, hn⟩ := hW
  rw [hvs] at hq
  obtain ⟨rfl, rfl⟩ : gs = [] ∧ q = [] := trodVars_none hq
  rw [List.append_nil] at he
  subst he
  have hlt : ∀ x ∈ before, x.block < W.heap.size := fun x hx => hW0.lt x hx
  have ha : ∀ sp : Nat → Bool, (∀ x ∈ before, sp x.block = true) → DataW.TrodAll enc P W' 0 sp true f.params.toList args.toList (s.fn H (ds ++ [])).args before := fun sp hsp => by
    rw [hargs]
    exact hO.trod (DataW.TrodAll.respare K hz hts hp hsp) hlt
  have hv : ∀ sp : Nat → Bool, DataW.TrodVars enc P W' sp s.vars (s.fn H (ds ++ [])).vars [] := fun sp => by rw [hvs, hvars]; rfl
  refine ⟨ds, [], before, [], before, [], hW0, hres _ _ _, ha _ (fun x hx => by simpa using hlt x hx), hv _, World.keptBut_mono (fun x hx => ⟨hx, .inr (.inl hx)⟩) (hO.kept _), fun _ => ?_⟩
  refine ⟨hok, _, _, ([] ++ before) ++ [], ⟨[] ++ before, [], trodAll_append (ha _ (fun _ _ => rfl)) (hres _ _ _), hv _, rfl, ?_, ?_⟩, ?_⟩
  · intro b off hp'
    have hp2 : MemPlace.cell b off ∈ before := by simpa using hp'
    have hb := hlt _ hp2
    have e : W'.frozen? ⟨b, off, none⟩ = W.frozen? ⟨b, off, none⟩ := by
      simp only [World.frozen?]
      rw [hO.same b hb]
    rw [e]
    exact hfz b off hp2
  · intro h
    simpa using hn h
  · intro x hx _
    simpa using hx
end
end Go.Av.T
/- The row of a law, part 3: contracts as calls. -/
set_option linter.unusedVariables false
set_option linter.unusedSimpArgs false
set_option maxRecDepth 100000
namespace Go.Av.T
open Go Go.Av Go.Av.Sp Go.Proofs.Tryz Go.Proofs.YtmhchaedhmnofaaGreat Go.ChangeShapes Go.WideShapes Go.ChangeAt Go.RowKit
/-- A world in which nothing is owned. -/
def G0 (W : World) : Gh := ⟨fun b => b < W.heap.size, fun _ => none⟩
theorem hr0 (W : World) : HR W (G0 W) (getO []) := by
  have e : ∀ id, getO [] id = .free := fun id => getO_free (Nat.zero_le _)
  refine ⟨fun id => (by rw [e id]; trivial), fun id id' b C C' h => (by rw [e id] at h; cases h), fun b h => h⟩
theorem tr0 {W W' : World} {G' : Gh} (h : Tr W (G0 W) (getO []) W' G' (getO [])) : Old W W' := by
  refine ⟨h.os, h.output, fun b hb => h.keep b hb ?_⟩
  rintro ⟨id, C, h1, h2⟩
  exact absurd (show (none : Option (Nat × Nat)) = some (b, C) from h2) (by simp)
/-- A contract as a call. -/
theorem calls_law {f : FuncId} {fn : Func} {args : List AVal} {vs : Array Value} {W : World} (hf : prog.funcs[f]? = some fn) (hnm : (fn.name == "runtime.NumGoroutine") = false) (hb : fn.body.isSome = true) (hA : ACalls prog f args [] (.bool true) [])
    (hs : vs.size = args.length) (hv : ∀ (j : Nat) c v, args[j]? = some c → vs[j]? = some v → CR W (fun b => b < W.heap.size) c v ∨ VR W (G0 W) (getO []) c v) :
    Calls prog f vs W fun e W' => e = .returned (.bool true) ∧ Old W W' := by
  obtain ⟨nx, w1, h1, h2⟩ := hA W (G0 W) vs (hr0 W) hs (fun j c v a b => (hv j c v a b).elim (fun h => .cl c v h) id)
  obtain ⟨c, hc⟩ := Option.isSome_iff_exists.1 hb
  have hnm' : ¬ fn.name = "runtime.NumGoroutine" := by simpa using hnm
  have h3 : (callFunc f vs).run prog W = .ok (.enter f vs) W := by simp [callFunc, hf, hnm', hc]
  rw [h3] at h1
  injection h1 with e1 e2
  subst e1 e2
  refine h2.mono fun e W' h => ?_
  cases e with
  | returned v =>
    obtain ⟨G', hv', _, ht⟩ := h
    cases hv' with
    | cl _ _ hc =>
      cases hc
      exact ⟨rfl, tr0 ht⟩
  | _ => exact h.elim
theorem kids : Kids prog (· < prog.types.size) := kids_rows (by kernel_rfl) (by kernel_rfl)
theorem full : ∀ t e, t < prog.types.size → prog.underlying t = some (.slice e) → 0 < prog.cellsOf e := slices_full_of prog (by kernel_rfl)
theorem ownK : ownKnob prog.godebug = none := by kernel_rfl
end Go.Av.T
