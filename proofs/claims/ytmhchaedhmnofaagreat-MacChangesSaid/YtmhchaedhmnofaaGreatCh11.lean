/- The seat: part Ch11. -/
import Derived.Test.YtmhchaedhmnofaaGreatCh10
import Derived.KernelRfl
import Derived.Test.YtmhchaedhmnofaaGreatCh5
set_option maxRecDepth 100000
set_option maxHeartbeats 1000000
set_option linter.unusedSimpArgs false
set_option linter.unusedVariables false
namespace Go.Av.T
open Go Go.Av Go.Av.Sp Go.Proofs.Tryz
theorem l206p (l : List Packet) (z p : Packet) (q : Nat) (hL : l.length < 2 ^ 62) (k' : List It) (hk : ∀ zs, V prog f206.ntmps 2 (Ret [.t 4] 2 (.int .i64 (-1)) [.cells q 6 104 false ((l ++ [z]).map Packet.enc), .cells 0 6 104 true [p.enc]]) k' zs [.cells q 6 104 false ((l ++ [z]).map Packet.enc), .cells 0 6 104 true [p.enc]]) : ∀ (rest done : List Packet), l = done ++ rest →
    Lp prog f206.ntmps 2 (Ret [.t 4] 2 (.int .i64 (idxFrom (fun y : Packet => decide (p.pri < y.pri)) done.length rest)) [.cells q 6 104 false ((l ++ [z]).map Packet.enc), .cells 0 6 104 true [p.enc]]) (cIdxL 6) (.blk 0 :: k') [(0, .row 0 q 0 l.length), (1, .func 267 [] [.ptr 1 0 0 0]), (7, .int .i64 l.length), (8, .int .i64 done.length)] [.cells q 6 104 false ((l ++ [z]).map Packet.enc), .cells 0 6 104 true [p.enc]] := by
  intro rest
  induction rest with
  | nil =>
    intro done hd
    refine Lp.of_eq hmx (cIdxL.eq_1 6) ?_
    have h1 := rg_end hd
    simp only [go_sem, seval, h1]
    exact hk _
  | cons c rest ih =>
    intro done hd
    refine Lp.of_eq hmx (cIdxL.eq_1 6) ?_
    obtain ⟨h1, h2, h3, h4⟩ := rg_hd Packet.enc hd hL
    have ih' := ih _ h4
    have hdl : done.length < l.length := by rw [hd]; simp
    have h2' : ((l ++ [z]).map Packet.enc)[done.length]? = some c.enc := by rw [List.map_append, List.getElem?_append_left (by simpa using hdl)]; exact h2
    have hlt : ((done.length : Int) < (l.length : Int)) = True := eq_true (by omega)
    repeat' first | refine CX_rd [1] (c267_ok (y := c) (p := p)) (by rfl) (by rfl) (by rfl) (by rfl) (by rfl) (by decide) (by rfl) (by rfl) (by rfl) ?_ | (with_reducible intro h; try simp only [h]) | (with_reducible refine And.intro ?_ ?_) | (change chk _ _ = true; rfl) | simp only [go_sem, seval, Vc_bool, h1, h2', h3, hlt, Int.toNat_natCast, Int.natCast_nonneg, Nat.zero_add] | refine (GX_split rfl).2 ?_
    · have e : idxFrom (fun y : Packet => decide (p.pri < y.pri)) done.length (c :: rest) = done.length := by rw [idxFrom, if_pos h]
      rw [e]
      exact Rt_all (by rfl) (by rfl) pk_lt2 (Nat.le_refl _)
    · have e : idxFrom (fun y : Packet => decide (p.pri < y.pri)) done.length (c :: rest) = idxFrom (fun y : Packet => decide (p.pri < y.pri)) (done ++ [c]).length rest := by rw [idxFrom, if_neg (by simpa using h)]; simp
      rw [e]
      exact Lp.bkE0 ih' (by rfl) rfl
theorem c206p_ok {l : List Packet} {z p : Packet} {q : Nat} (hL : l.length < 2 ^ 62) : ACalls prog 206 [.row 0 q 0 l.length, .func 267 [] [.ptr 1 0 0 0]] [.cells q 6 104 false ((l ++ [z]).map Packet.enc), .cells 0 6 104 true [p.enc]] (.int .i64 (idxFrom (fun y : Packet => decide (p.pri < y.pri)) 0 l)) [.cells q 6 104 false ((l ++ [z]).map Packet.enc), .cells 0 6 104 true [p.enc]] := by
  refine calls_of hmx func206 (by kernel_rfl) (c := f206.body.getD .skip) rfl e206 (rs := [(.t 4)]) (by kernel_rfl) (by simp [ntmps206]) ?_
  simp only [cIdx, argS]
  simp only [go_sem, seval, List.length_map]
  refine Lp.bkE0 (l206p l z p q hL _ (fun s => ?_) l [] rfl) (by rfl) rfl
  simp only [go_sem, seval]
  exact Rt_all (by rfl) (by rfl) pk_lt2 (Nat.le_refl _)
/-- A result may be told in another way. -/
theorem calls_wk {f : FuncId} {args cs cs' : List AVal} {H H' : Heap} (hA : ACalls prog f args H (.tup cs) H') (hl : cs'.length = cs.length) (hw : ∀ (j : Nat) c c', cs[j]? = some c → cs'[j]? = some c' → Wk c c') : ACalls prog f args H (.tup cs') H' := by
  have conv : ∀ {w : World} {G : Gh} {v : Value}, VR w G (getO H') (.tup cs) v → VR w G (getO H') (.tup cs') v := by
    intro w G v hv
    cases hv with
    | cl _ _ hc => cases hc
    | tup _ vs hl' hr =>
      refine .tup cs' vs (by omega) fun j c v h1 h2 => ?_
      have hj : j < cs.length := by have := (List.getElem?_eq_some_iff.1 h1).1; omega
      exact (hw j _ c (List.getElem?_eq_getElem hj) h1).vr (hr j _ v (List.getElem?_eq_getElem hj) h2)
  intro w G vs h1 h2 h3
  obtain ⟨nx, w1, e, h⟩ := hA w G vs h1 h2 h3
  refine ⟨nx, w1, e, ?_⟩
  cases nx
  case value v => obtain ⟨G', a, b, c⟩ := h; exact ⟨G', conv a, b, c⟩
  case enter g as1 =>
    refine h.mono fun e w' hh => ?_
    cases e
    case returned v => obtain ⟨G', a, b, c⟩ := hh; exact ⟨G', conv a, b, c⟩
    all_goals exact hh
  all_goals exact h
theorem c155_ok {q : Queue} {p : Packet} (hb : (q.pk.length + 1) * 56 ≤ 140737488355328) : ACalls prog 155 [.agg q.enc, .agg p.enc] [] (.tup [.agg (qPutE q p).1.enc, .sl 6 ((qPutE q p).2.1.map Packet.enc), .int .i64 (qPutE q p).2.2]) [] := by
  have h188 := c188_ok (q_limit := q.limit) (q_pk := q.pk) (by omega)
  have h265 := c265_pf p
  have h266 := c266_ok (q_limit := q.limit) (q_pk := q.pk) (id := p.id) (by omega)
  by_cases hq : qErr q = 0
  · by_cases hp : pkErr p = 0
    · by_cases hx : 0 ≤ pkIdx q.pk p.id
      · have e : qPutE q p = (Queue.zero, [], 6) := by simp [qPutE, hq, hp, hx]
        have d : decide (0 ≤ pkIdx q.pk p.id) = true := by simpa using hx
        rw [e]
        refine calls_of hmx func155 (by kernel_rfl) (c := f155.body.getD .skip) rfl e155 (rs := [(.cell 4 true 2), (.t 5), (.t 6)]) (by kernel_rfl) (by simp [ntmps155]) ?_
        simp only [c155, argS]
        repeat' first | refine CX_pure (h188) rfl rfl rfl rfl ?_ | refine CX_pure (h265) rfl rfl rfl rfl ?_ | refine CX_pure (h266) rfl rfl rfl rfl ?_ | refine GX_call (fun _ => (h188)) (by rfl) (by intro h; simp only [h]; rfl) (by rfl) (by rfl) ?_ | refine GX_call (fun _ => (h265)) (by rfl) (by intro h; simp only [h]; rfl) (by rfl) (by rfl) ?_ | refine GX_call (fun _ => (h266)) (by rfl) (by intro h; simp only [h]; rfl) (by rfl) (by rfl) ?_ | (with_reducible intro h; try simp only [h]) | (with_reducible refine And.intro ?_ ?_) | (change chk _ _ = true; rfl) | simp only [go_sem, seval, Vc_bool, hq, hp, d] | refine (GX_split rfl).2 ?_
        refine Rt.gs (Gs_tell (s' := [(4, .ptr 2 0 0 0), (5, .sl 6 []), (6, .int .i64 6)]) (H' := [.dead, .dead, .cells 0 2 27 true [Queue.zero.enc]]) ?_ ?_) (Rt_pure ?_ rfl)
        · repeat' (first | exact FzL.nil | refine FzL.cons ?_ ?_ | exact Fz.wk (Wk.refl _) | exact Fz.wk (Wk.nil _) | exact Fz.wk (Wk.emp _) | exact Fz.row0 _ _ _ _ | exact FzH.nil _ | exact FzO.refl _ | refine FzO.one ?_ | refine FzH.cons (by decide) ?_ ?_ | refine FzH.this rfl ?_ | exact FzO.dead (by simp) | (simp only [List.forall_mem_cons, List.not_mem_nil, false_implies, implies_true, and_true, go_sem, seval]) | refine And.intro ?_ ?_)
        · repeat' (first | exact FzL.nil | refine FzL.cons ?_ ?_ | exact Fz.wk (Wk.refl _) | exact Fz.wk (Wk.nil _) | exact Fz.wk (Wk.emp _) | exact Fz.row0 _ _ _ _ | exact FzH.nil _ | exact FzO.refl _ | refine FzO.one ?_ | refine FzH.cons (by decide) ?_ ?_ | refine FzH.this rfl ?_ | exact FzO.dead (by simp) | (simp only [List.forall_mem_cons, List.not_mem_nil, false_implies, implies_true, and_true, go_sem, seval]) | refine And.intro ?_ ?_)
        · rfl
      · have hx' : pkIdx q.pk p.id = -1 := by
          rcases idxFrom_range (fun y : Packet => decide (y.id = p.id)) q.pk 0 with ⟨h1, _⟩ | ⟨i, x, h1, h2, h3, h4⟩
          · exact h1
          · exact absurd (by rw [pkIdx, h3]; omega) hx
        by_cases hf : (q.pk.length : Int) = q.limit
        · have hne : q.pk ≠ [] := by
            intro h0
            rw [h0] at hf
            have : 1 ≤ q.limit := by
              unfold qErr at hq
              split at hq
              · cases hq
              · rename_i h1
                simp only [wi3, Bool.not_eq_true', Bool.and_eq_false_iff, decide_eq_false_iff_not, not_or, Decidable.not_not] at h1
                exact h1.1
            simp at hf; omega
          obtain ⟨l, z, hlz⟩ := List.eq_nil_or_concat q.pk |>.resolve_left hne
          rw [List.concat_eq_append] at hlz
          have hlen : q.pk.length = l.length + 1 := by rw [hlz]; simp
          have hlast : q.pk.getLast? = some z := by rw [hlz]; simp
          have hdl : q.pk.dropLast = l := by rw [hlz]; simp
          have w1 : IntKind.i64.wrap ((q.pk.length : Int) - 1) = (l.length : Int) := by rw [wrap_ok (by omega) (by omega)]; omega
          have f1 : decide ((q.pk.length : Int) = q.limit) = true := by simpa using hf
          have e2 : (q.pk.map Packet.enc)[l.length]? = some z.enc := by rw [hlz]; simp
          have hlt : ((l.length : Int) < (q.pk.length : Int)) = True := eq_true (by omega)
          cases hz : decide (z.pri ≤ p.pri) with
          | true =>
            have e : qPutE q p = (Queue.zero, [], 13) := by simp [qPutE, hq, hp, hx, hf, hlast, of_decide_eq_true hz]
            rw [e]
            refine calls_of hmx func155 (by kernel_rfl) (c := f155.body.getD .skip) rfl e155 (rs := [(.cell 4 true 2), (.t 5), (.t 6)]) (by kernel_rfl) (by simp [ntmps155]) ?_
            simp only [c155, argS]
            repeat' first | refine CX_pure (h188) rfl rfl rfl rfl ?_ | refine CX_pure (h265) rfl rfl rfl rfl ?_ | refine CX_pure (h266) rfl rfl rfl rfl ?_ | refine GX_call (fun _ => (h188)) (by rfl) (by intro h; simp only [h]; rfl) (by rfl) (by rfl) ?_ | refine GX_call (fun _ => (h265)) (by rfl) (by intro h; simp only [h]; rfl) (by rfl) (by rfl) ?_ | refine GX_call (fun _ => (h266)) (by rfl) (by intro h; simp only [h]; rfl) (by rfl) (by rfl) ?_ | (with_reducible intro h; try simp only [h]) | (with_reducible refine And.intro ?_ ?_) | (change chk _ _ = true; rfl) | simp only [go_sem, seval, Vc_bool, hq, hp, hx'] | refine (GX_split rfl).2 ?_
            refine CX_new (r1 := .row 3 1 0 q.pk.length) (c260w_ok (xs := q.pk) (by omega)) rfl rfl rfl (by rw [List.all_cons, List.all_nil, Bool.and_true]; exact lt_pk) (by rfl) ?_
            repeat' first | (with_reducible intro h; try simp only [h]) | (with_reducible refine And.intro ?_ ?_) | (change chk _ _ = true; rfl) | simp only [go_sem, seval, Vc_bool, w1, f1, e2, hlt, hz, Int.toNat_natCast, Int.natCast_nonneg, Nat.zero_add] | refine (GX_split rfl).2 ?_
            refine Rt.gs (Gs_tell (s' := [(4, .ptr 2 0 0 0), (5, .sl 6 []), (6, .int .i64 13)]) (H' := [.dead, .dead, .cells 0 2 27 true [Queue.zero.enc], .dead]) ?_ ?_) (Rt_pure ?_ rfl)
            · repeat' (first | exact FzL.nil | refine FzL.cons ?_ ?_ | exact Fz.wk (Wk.refl _) | exact Fz.wk (Wk.nil _) | exact Fz.wk (Wk.emp _) | exact Fz.row0 _ _ _ _ | exact FzH.nil _ | exact FzO.refl _ | refine FzO.one ?_ | refine FzH.cons (by decide) ?_ ?_ | refine FzH.this rfl ?_ | exact FzO.dead (by simp) | (simp only [List.forall_mem_cons, List.not_mem_nil, false_implies, implies_true, and_true, go_sem, seval]) | refine And.intro ?_ ?_)
            · repeat' (first | exact FzL.nil | refine FzL.cons ?_ ?_ | exact Fz.wk (Wk.refl _) | exact Fz.wk (Wk.nil _) | exact Fz.wk (Wk.emp _) | exact Fz.row0 _ _ _ _ | exact FzH.nil _ | exact FzO.refl _ | refine FzO.one ?_ | refine FzH.cons (by decide) ?_ ?_ | refine FzH.this rfl ?_ | exact FzO.dead (by simp) | (simp only [List.forall_mem_cons, List.not_mem_nil, false_implies, implies_true, and_true, go_sem, seval]) | refine And.intro ?_ ?_)
            · rfl
          | false =>
            have e : qPutE q p = (⟨q.limit, putAt l p⟩, [z], 0) := by simp [qPutE, hq, hp, hx, hf, hlast, hdl, of_decide_eq_false hz]
            rw [e]
            refine calls_of hmx func155 (by kernel_rfl) (c := f155.body.getD .skip) rfl e155 (rs := [(.cell 4 true 2), (.t 5), (.t 6)]) (by kernel_rfl) (by simp [ntmps155]) ?_
            simp only [c155, argS]
            repeat' first | refine CX_pure (h188) rfl rfl rfl rfl ?_ | refine CX_pure (h265) rfl rfl rfl rfl ?_ | refine CX_pure (h266) rfl rfl rfl rfl ?_ | refine GX_call (fun _ => (h188)) (by rfl) (by intro h; simp only [h]; rfl) (by rfl) (by rfl) ?_ | refine GX_call (fun _ => (h265)) (by rfl) (by intro h; simp only [h]; rfl) (by rfl) (by rfl) ?_ | refine GX_call (fun _ => (h266)) (by rfl) (by intro h; simp only [h]; rfl) (by rfl) (by rfl) ?_ | (with_reducible intro h; try simp only [h]) | (with_reducible refine And.intro ?_ ?_) | (change chk _ _ = true; rfl) | simp only [go_sem, seval, Vc_bool, hq, hp, hx'] | refine (GX_split rfl).2 ?_
            refine CX_new (r1 := .row 3 1 0 q.pk.length) (c260w_ok (xs := q.pk) (by omega)) rfl rfl rfl (by rw [List.all_cons, List.all_nil, Bool.and_true]; exact lt_pk) (by rfl) ?_
            repeat' first | (with_reducible intro h; try simp only [h]) | (with_reducible refine And.intro ?_ ?_) | (change chk _ _ = true; rfl) | simp only [go_sem, seval, Vc_bool, w1, f1, e2, hlt, hz, Int.toNat_natCast, Int.natCast_nonneg, Nat.zero_add, List.length_map] | refine (GX_split rfl).2 ?_
            · omega
            rw [show q.pk.map Packet.enc = (l ++ [z]).map Packet.enc by rw [hlz]]
            refine CX_rd [3, 1] (c206p_ok (l := l) (z := z) (p := p) (q := 1) (by omega)) (by rfl) (by rfl) (by rfl) pk_lt2 (by rfl) (by decide) (by rfl) (by rw [List.map_cons, List.map_cons, List.map_nil, List.map_cons, List.map_cons, List.map_nil, ren_pk]; rfl) (by rfl) ?_
            rcases idxFrom_find (fun y : Packet => decide (p.pri < y.pri)) l with ⟨h1, h2⟩ | ⟨i, x, h1, h2, h3, h4, h5⟩
            · have e : putAt l p = l.take l.length ++ p :: l.drop l.length := by rw [putAt, putIdx, h1]; rfl
              rw [e]
              repeat' first | (with_reducible intro h; try simp only [h]) | (with_reducible refine And.intro ?_ ?_) | (change chk _ _ = true; rfl) | simp only [go_sem, seval, Vc_bool, h1] | refine (GX_split rfl).2 ?_
              refine CX_eat2 3 6 (c268p_ok (xs := l) (v := p) (z := z) (i := l.length) (q := 1) (Nat.le_refl _) (by omega)) (by rfl) (by rfl) (by rfl) lt_pk (by rfl) (by decide) (by rfl) (by rfl) (by rfl) (by rfl) (by rfl) ?_
              repeat' first | (with_reducible intro h; try simp only [h]) | (with_reducible refine And.intro ?_ ?_) | (change chk _ _ = true; rfl) | simp only [go_sem, seval, Vc_bool] | refine (GX_split rfl).2 ?_
              refine Rt.gs (Gs_freeze 5 (s' := [(4, .ptr 2 0 0 0), (5, .sl 6 ([z].map Packet.enc)), (6, .int .i64 0)]) (H' := [.dead, .dead, .cells 0 2 27 true [Queue.enc ⟨q.limit, l.take l.length ++ p :: l.drop l.length⟩], .dead, .dead, .dead, .dead]) rfl ?_ ?_) (Rt_pure (by rfl) (by rfl))
              · repeat' (first | exact FzL.nil | refine FzL.cons ?_ ?_ | exact Fz.wk (Wk.refl _) | exact Fz.wk (Wk.nil _) | exact Fz.wk (Wk.emp _) | exact Fz.row0 _ _ _ _ | exact FzH.nil _ | exact FzO.refl _ | refine FzO.one ?_ | refine FzH.cons (by decide) ?_ ?_ | refine FzH.this rfl ?_ | exact FzO.dead (by simp) | (simp only [List.forall_mem_cons, List.not_mem_nil, false_implies, implies_true, and_true, go_sem, seval]) | refine And.intro ?_ ?_)
                all_goals first | exact Fz.wk (Wk.refl _) | exact Fz.row 0 1 rfl (cloE_map (f := Packet.enc) (xs := [z]) fun _ => by rfl)
              · repeat' (first | exact FzL.nil | refine FzL.cons ?_ ?_ | exact Fz.wk (Wk.refl _) | exact Fz.wk (Wk.nil _) | exact Fz.wk (Wk.emp _) | exact Fz.row0 _ _ _ _ | exact FzH.nil _ | exact FzO.refl _ | refine FzO.one ?_ | refine FzH.cons (by decide) ?_ ?_ | refine FzH.this rfl ?_ | exact FzO.dead (by simp) | (simp only [List.forall_mem_cons, List.not_mem_nil, false_implies, implies_true, and_true, go_sem, seval]) | refine And.intro ?_ ?_)
            · have e : putAt l p = l.take i ++ p :: l.drop i := by rw [putAt, putIdx, h3, if_neg (by omega)]; rfl
              have e3 : decide ((i : Int) < 0) = false := by simp
              rw [e]
              repeat' first | (with_reducible intro h; try simp only [h]) | (with_reducible refine And.intro ?_ ?_) | (change chk _ _ = true; rfl) | simp only [go_sem, seval, Vc_bool, h3, e3] | refine (GX_split rfl).2 ?_
              refine CX_eat2 3 6 (c268p_ok (xs := l) (v := p) (z := z) (i := i) (q := 1) (by omega) (by omega)) (by rfl) (by rfl) (by rfl) lt_pk (by rfl) (by decide) (by rfl) (by rfl) (by rfl) (by rfl) (by rfl) ?_
              repeat' first | (with_reducible intro h; try simp only [h]) | (with_reducible refine And.intro ?_ ?_) | (change chk _ _ = true; rfl) | simp only [go_sem, seval, Vc_bool] | refine (GX_split rfl).2 ?_
              refine Rt.gs (Gs_freeze 5 (s' := [(4, .ptr 2 0 0 0), (5, .sl 6 ([z].map Packet.enc)), (6, .int .i64 0)]) (H' := [.dead, .dead, .cells 0 2 27 true [Queue.enc ⟨q.limit, l.take i ++ p :: l.drop i⟩], .dead, .dead, .dead, .dead]) rfl ?_ ?_) (Rt_pure (by rfl) (by rfl))
              · repeat' (first | exact FzL.nil | refine FzL.cons ?_ ?_ | exact Fz.wk (Wk.refl _) | exact Fz.wk (Wk.nil _) | exact Fz.wk (Wk.emp _) | exact Fz.row0 _ _ _ _ | exact FzH.nil _ | exact FzO.refl _ | refine FzO.one ?_ | refine FzH.cons (by decide) ?_ ?_ | refine FzH.this rfl ?_ | exact FzO.dead (by simp) | (simp only [List.forall_mem_cons, List.not_mem_nil, false_implies, implies_true, and_true, go_sem, seval]) | refine And.intro ?_ ?_)
                all_goals first | exact Fz.wk (Wk.refl _) | exact Fz.row 0 1 rfl (cloE_map (f := Packet.enc) (xs := [z]) fun _ => by rfl)
              · repeat' (first | exact FzL.nil | refine FzL.cons ?_ ?_ | exact Fz.wk (Wk.refl _) | exact Fz.wk (Wk.nil _) | exact Fz.wk (Wk.emp _) | exact Fz.row0 _ _ _ _ | exact FzH.nil _ | exact FzO.refl _ | refine FzO.one ?_ | refine FzH.cons (by decide) ?_ ?_ | refine FzH.this rfl ?_ | exact FzO.dead (by simp) | (simp only [List.forall_mem_cons, List.not_mem_nil, false_implies, implies_true, and_true, go_sem, seval]) | refine And.intro ?_ ?_)
        · have h := calls_wk (c155_put hb hq hp hx' hf) (cs' := [.agg (Queue.enc ⟨q.limit, putAt q.pk p⟩), .sl 6 [], .int .i64 0]) rfl (by
            intro j c c' h1 h2
            match j with
            | 0 => cases h1; cases h2; exact .refl _
            | 1 => cases h1; cases h2; exact .nil _
            | 2 => cases h1; cases h2; exact .refl _
            | j + 3 => simp at h1)
          have e : qPutE q p = (⟨q.limit, putAt q.pk p⟩, [], 0) := by simp [qPutE, hq, hp, hx, hf]
          rw [e]
          exact h
    · have e : qPutE q p = (Queue.zero, [], pkErr p) := by simp [qPutE, hq, hp]
      have d : decide (pkErr p = 0) = false := by simpa using hp
      rw [e]
      refine calls_of hmx func155 (by kernel_rfl) (c := f155.body.getD .skip) rfl e155 (rs := [(.cell 4 true 2), (.t 5), (.t 6)]) (by kernel_rfl) (by simp [ntmps155]) ?_
      simp only [c155, argS]
      repeat' first | refine CX_pure (h188) rfl rfl rfl rfl ?_ | refine CX_pure (h265) rfl rfl rfl rfl ?_ | refine GX_call (fun _ => (h188)) (by rfl) (by intro h; simp only [h]; rfl) (by rfl) (by rfl) ?_ | refine GX_call (fun _ => (h265)) (by rfl) (by intro h; simp only [h]; rfl) (by rfl) (by rfl) ?_ | (with_reducible intro h; try simp only [h]) | (with_reducible refine And.intro ?_ ?_) | (change chk _ _ = true; rfl) | simp only [go_sem, seval, Vc_bool, hq, d] | refine (GX_split rfl).2 ?_
      refine Rt.gs (Gs_tell (s' := [(4, .ptr 2 0 0 0), (5, .sl 6 []), (6, .int .i64 (pkErr p))]) (H' := [.dead, .dead, .cells 0 2 27 true [Queue.zero.enc]]) ?_ ?_) (Rt_pure ?_ rfl)
      · repeat' (first | exact FzL.nil | refine FzL.cons ?_ ?_ | exact Fz.wk (Wk.refl _) | exact Fz.wk (Wk.nil _) | exact Fz.wk (Wk.emp _) | exact Fz.row0 _ _ _ _ | exact FzH.nil _ | exact FzO.refl _ | refine FzO.one ?_ | refine FzH.cons (by decide) ?_ ?_ | refine FzH.this rfl ?_ | exact FzO.dead (by simp) | (simp only [List.forall_mem_cons, List.not_mem_nil, false_implies, implies_true, and_true, go_sem, seval]) | refine And.intro ?_ ?_)
      · repeat' (first | exact FzL.nil | refine FzL.cons ?_ ?_ | exact Fz.wk (Wk.refl _) | exact Fz.wk (Wk.nil _) | exact Fz.wk (Wk.emp _) | exact Fz.row0 _ _ _ _ | exact FzH.nil _ | exact FzO.refl _ | refine FzO.one ?_ | refine FzH.cons (by decide) ?_ ?_ | refine FzH.this rfl ?_ | exact FzO.dead (by simp) | (simp only [List.forall_mem_cons, List.not_mem_nil, false_implies, implies_true, and_true, go_sem, seval]) | refine And.intro ?_ ?_)
      · rfl
  · have e : qPutE q p = (Queue.zero, [], 1) := by simp [qPutE, hq]
    have d : decide (qErr q = 0) = false := by simpa using hq
    rw [e]
    refine calls_of hmx func155 (by kernel_rfl) (c := f155.body.getD .skip) rfl e155 (rs := [(.cell 4 true 2), (.t 5), (.t 6)]) (by kernel_rfl) (by simp [ntmps155]) ?_
    simp only [c155, argS]
    repeat' first | refine CX_pure (h188) rfl rfl rfl rfl ?_ | refine GX_call (fun _ => (h188)) (by rfl) (by intro h; simp only [h]; rfl) (by rfl) (by rfl) ?_ | (with_reducible intro h; try simp only [h]) | (with_reducible refine And.intro ?_ ?_) | (change chk _ _ = true; rfl) | simp only [go_sem, seval, Vc_bool, d] | refine (GX_split rfl).2 ?_
    refine Rt.gs (Gs_tell (s' := [(4, .ptr 2 0 0 0), (5, .sl 6 []), (6, .int .i64 1)]) (H' := [.dead, .dead, .cells 0 2 27 true [Queue.zero.enc]]) ?_ ?_) (Rt_pure ?_ rfl)
    · repeat' (first | exact FzL.nil | refine FzL.cons ?_ ?_ | exact Fz.wk (Wk.refl _) | exact Fz.wk (Wk.nil _) | exact Fz.wk (Wk.emp _) | exact Fz.row0 _ _ _ _ | exact FzH.nil _ | exact FzO.refl _ | refine FzO.one ?_ | refine FzH.cons (by decide) ?_ ?_ | refine FzH.this rfl ?_ | exact FzO.dead (by simp) | (simp only [List.forall_mem_cons, List.not_mem_nil, false_implies, implies_true, and_true, go_sem, seval]) | refine And.intro ?_ ?_)
    · repeat' (first | exact FzL.nil | refine FzL.cons ?_ ?_ | exact Fz.wk (Wk.refl _) | exact Fz.wk (Wk.nil _) | exact Fz.wk (Wk.emp _) | exact Fz.row0 _ _ _ _ | exact FzH.nil _ | exact FzO.refl _ | refine FzO.one ?_ | refine FzH.cons (by decide) ?_ ?_ | refine FzH.this rfl ?_ | exact FzO.dead (by simp) | (simp only [List.forall_mem_cons, List.not_mem_nil, false_implies, implies_true, and_true, go_sem, seval]) | refine And.intro ?_ ?_)
    · rfl

def c158 : SC := (.seq (.reg [(.box 1 31 (.t 0)), (.alc 2 31 [(.int .i64 0), (.int .i64 0), .nil, (.int .i64 0), .nil, .nil, .nil, (.int .i64 0), (.int .i64 0), (.int .i64 0), (.int .i64 0), (.int .i64 0), (.int .i64 0), (.int .i64 0)])]) (.seq (.seq (.reg [(.fa 3 (.t 1) 3), (.fa 4 (.t 3) 1), (.ld 5 (.t 4) false 1), (.fa 6 (.t 1) 9), (.ld 7 (.t 6) false 1), (.call (some 8) (.c (.func 93 [] [])) [(.t 5), (.t 7)]), (.bin 9 .lss (.t 8) (.c (.int .i64 0)))]) (.cond (.t 9) (.reg [(.fa 10 (.t 1) 9), (.st (.t 10) (.c (.int .i64 (-1))) 1), (.fa 11 (.t 1) 10), (.st (.t 11) (.c (.int .i64 0)) 1)]) .skip)) (.seq (.reg [(.ld 12 (.t 1) true 14), (.st (.t 2) (.t 12) 14)]) .ret)))
theorem e158 : compC prog f158.ntmps (f158.body.getD .skip) = c158 := by kernel_rfl
def c157L1 : SC := (.seq (.seq (.regD [(.mv 61 (.t 12)), (.mv 62 (.t 8)), (.len 63 false (.t 62)), (.bin 64 .lss (.t 61) (.t 63)), (.mv 65 (.t 64)), (.g 65 true (some 66) (.mv 66 (.t 8))), (.g 65 true (some 67) (.mv 67 (.t 12))), (.g 65 true (some 68) (.ia 68 (.t 66) (.t 67) 6)), (.g 65 true (some 69) (.fa 69 (.t 68) 2)), (.g 65 true (some 70) (.ld 70 (.t 69) false 1)), (.g 65 true (some 71) (.fa 71 (.t 3) 2)), (.g 65 true (some 72) (.ld 72 (.t 71) false 1)), (.g 65 true (some 73) (.bin 73 .leq (.t 70) (.t 72))), (.pick 74 (.t 65) (.t 73) (.c (.bool false)))] []) (.cond (.t 74) .skip (.exit 0))) (.seq (.block 1 (.regD [(.fa 77 (.t 11) 1), (.ld 78 (.t 77) false 1), (.mv 79 (.t 8)), (.mv 80 (.t 12)), (.ia 81 (.t 79) (.t 80) 6), (.ld 82 (.t 81) true 6), (.bsl 83 104 6 [(.int .i64 0), (.int .i64 0), (.int .i64 0), (.int .i64 0), (.int .i64 0), (.str (ByteArray.mk #[]))] 1 [(0, (.t 82))]), (.app 84 104 6 56 (.t 78) (.t 83)), (.fa 85 (.t 11) 1), (.st (.t 85) (.t 84) 1)] [(1, 6)])) (.reg [(.mv 75 (.t 12)), (.bin 76 .add (.t 75) (.c (.int .i64 1))), (.mv 12 (.t 76))])))
def c157 : SC := (.seq (.reg [(.box 2 27 (.t 0)), (.box 3 104 (.t 1)), (.alc 4 27 [(.int .i64 0), .nil]), (.mv 5 (.c .nil)), (.mv 6 (.c (.int .i64 0)))]) (.seq (.seq (.reg [(.ld 13 (.t 2) true 2), (.call (some 14) (.c (.func 88 [] [])) [(.t 13)]), (.bin 15 .neq (.t 14) (.c (.int .i64 0)))]) (.cond (.t 15) (.seq (.reg [(.bld 16 [(.int .i64 0), .nil] []), (.st (.t 4) (.t 16) 2), (.mv 5 (.c .nil)), (.mv 6 (.c (.int .i64 1)))]) .ret) .skip)) (.seq (.seq (.reg [(.ld 17 (.t 3) true 6), (.call (some 18) (.c (.func 190 [] [])) [(.t 17)]), (.mv 7 (.t 18))]) (.seq (.reg [(.mv 19 (.t 7)), (.bin 20 .neq (.t 19) (.c (.int .i64 0)))]) (.cond (.t 20) (.seq (.reg [(.bld 21 [(.int .i64 0), .nil] []), (.mv 22 (.t 7)), (.st (.t 4) (.t 21) 2), (.mv 5 (.c .nil)), (.mv 6 (.t 22))]) .ret) .skip))) (.seq (.seq (.reg [(.fa 23 (.t 2) 1), (.ld 24 (.t 23) false 1), (.fa 25 (.t 3) 0), (.ld 26 (.t 25) false 1), (.call (some 27) (.c (.func 93 [] [])) [(.t 24), (.t 26)]), (.bin 28 .geq (.t 27) (.c (.int .i64 0)))]) (.cond (.t 28) (.seq (.reg [(.bld 29 [(.int .i64 0), .nil] []), (.st (.t 4) (.t 29) 2), (.mv 5 (.c .nil)), (.mv 6 (.c (.int .i64 6)))]) .ret) .skip)) (.seq (.reg [(.fa 30 (.t 2) 1), (.ld 31 (.t 30) false 1), (.mv 8 (.t 31))]) (.seq (.reg [(.mv 9 (.c .nil))]) (.seq (.seq (.reg [(.mv 32 (.t 8)), (.len 33 false (.t 32)), (.fa 34 (.t 2) 0), (.ld 35 (.t 34) false 1), (.bin 36 .eql (.t 33) (.t 35))]) (.cond (.t 36) (.seq (.reg [(.mv 37 (.t 8)), (.mv 38 (.t 8)), (.len 39 false (.t 38)), (.bin 40 .sub (.t 39) (.c (.int .i64 1))), (.ia 41 (.t 37) (.t 40) 6), (.ld 42 (.t 41) true 6), (.alc 10 104 [(.int .i64 0), (.int .i64 0), (.int .i64 0), (.int .i64 0), (.int .i64 0), (.str (ByteArray.mk #[]))]), (.st (.t 10) (.t 42) 6)]) (.seq (.seq (.reg [(.fa 43 (.t 10) 2), (.ld 44 (.t 43) false 1), (.fa 45 (.t 3) 2), (.ld 46 (.t 45) false 1), (.bin 47 .leq (.t 44) (.t 46))]) (.cond (.t 47) (.seq (.reg [(.bld 48 [(.int .i64 0), .nil] []), (.st (.t 4) (.t 48) 2), (.mv 5 (.c .nil)), (.mv 6 (.c (.int .i64 13)))]) .ret) .skip)) (.seq (.reg [(.mv 49 (.t 9)), (.ld 50 (.t 10) true 6), (.bsl 51 104 6 [(.int .i64 0), (.int .i64 0), (.int .i64 0), (.int .i64 0), (.int .i64 0), (.str (ByteArray.mk #[]))] 1 [(0, (.t 50))]), (.app 52 104 6 56 (.t 49) (.t 51)), (.mv 9 (.t 52))]) (.reg [(.mv 53 (.t 8)), (.mv 54 (.t 8)), (.len 55 false (.t 54)), (.bin 56 .sub (.t 55) (.c (.int .i64 1))), (.slc 57 6 (.t 53) none (some (.t 56)) none), (.mv 8 (.t 57))])))) .skip)) (.seq (.reg [(.fa 58 (.t 2) 0), (.ld 59 (.t 58) false 1), (.bld 60 [(.int .i64 0), .nil] [(0, 1, (.t 59))]), (.alc 11 27 [(.int .i64 0), .nil]), (.st (.t 11) (.t 60) 2)]) (.seq (.reg [(.mv 12 (.c (.int .i64 0)))]) (.seq (.block 0 (.loop c157L1)) (.seq (.reg [(.fa 86 (.t 11) 1), (.ld 87 (.t 86) false 1), (.ld 88 (.t 3) true 6), (.bsl 89 104 6 [(.int .i64 0), (.int .i64 0), (.int .i64 0), (.int .i64 0), (.int .i64 0), (.str (ByteArray.mk #[]))] 1 [(0, (.t 88))]), (.app 90 104 6 56 (.t 87) (.t 89)), (.fa 91 (.t 11) 1), (.st (.t 91) (.t 90) 1)]) (.seq (.regD [(.fa 92 (.t 11) 1), (.ld 93 (.t 92) false 1), (.mv 94 (.t 8)), (.mv 95 (.t 12)), (.slc 96 6 (.t 94) (some (.t 95)) none none), (.app 97 104 6 56 (.t 93) (.t 96)), (.fa 98 (.t 11) 1), (.st (.t 98) (.t 97) 1)] []) (.seq (.reg [(.ld 99 (.t 11) true 2), (.mv 100 (.t 9)), (.st (.t 4) (.t 99) 2), (.mv 5 (.t 100)), (.mv 6 (.c (.int .i64 0)))]) .ret)))))))))))))
theorem e157 : compC prog f157.ntmps (f157.body.getD .skip) = c157 := by kernel_rfl
theorem c158_pf (s : Station) (hL : s.q.pk.length < 2 ^ 62) : ACalls prog 158 [.agg [.int .i64 s.tab.node, .int .i64 s.tab.len, .sl 6 (s.tab.cells.map TCell.enc), .int .i64 s.q.limit, .sl 6 (s.q.pk.map Packet.enc), .sl 5 (s.held.map Held.enc), .sl 2 (s.seen.map Seen.enc), .int .i64 s.list, .int .i64 s.seq, .int .i64 s.trying, .int .i64 s.tries, .int .i64 s.back, .int .i64 s.wait, .int .i64 s.seed]] [] (.agg (Sp.settle s).enc) [] := by
  have h93 := c93_ok (L := s.q.pk) (id := s.trying) hL
  have hi : decide (pkIdx s.q.pk s.trying < 0) = !hasId s.q.pk s.trying := by
    have h := idxFrom_any (fun p : Packet => decide (p.id = s.trying)) s.q.pk 0
    rw [hasId, ← h, pkIdx]
    by_cases h0 : 0 ≤ idxFrom (fun p : Packet => decide (p.id = s.trying)) 0 s.q.pk <;> simp [h0] <;> omega
  refine calls_of hmx func158 (by kernel_rfl) (c := f158.body.getD .skip) rfl e158 (rs := [(.cell 2 true 14)]) (by kernel_rfl) (by simp [ntmps158]) ?_
  simp only [c158, argS]
  cases hh : hasId s.q.pk s.trying with
  | true =>
    have e : Sp.settle s = s := by simp [Sp.settle, hh]
    rw [hh] at hi
    rw [e]
    repeat' first | refine CX_pure (h93) rfl rfl rfl rfl ?_ | refine GX_call (fun _ => (h93)) (by rfl) (by intro h; simp only [h]; rfl) (by rfl) (by rfl) ?_ | (with_reducible intro h; try simp only [h]) | (with_reducible refine And.intro ?_ ?_) | (change chk _ _ = true; rfl) | simp only [go_sem, seval, Vc_bool, hi] | refine (GX_split rfl).2 ?_
    exact Rt_pure (by rfl) (by rfl)
  | false =>
    have e : Sp.settle s = { s with trying := -1, tries := 0 } := by simp [Sp.settle, hh]
    rw [hh] at hi
    rw [e]
    repeat' first | refine CX_pure (h93) rfl rfl rfl rfl ?_ | refine GX_call (fun _ => (h93)) (by rfl) (by intro h; simp only [h]; rfl) (by rfl) (by rfl) ?_ | (with_reducible intro h; try simp only [h]) | (with_reducible refine And.intro ?_ ?_) | (change chk _ _ = true; rfl) | simp only [go_sem, seval, Vc_bool, hi] | refine (GX_split rfl).2 ?_
    exact Rt_pure (by rfl) (by rfl)
theorem pk_snoc {l : List Packet} {x : Packet} {m q : Nat} {fu : Bool} : ltO m (.cells q 6 104 fu (l.map Packet.enc ++ [x.enc])) = true := by
  have h := lt_pk (l := l ++ [x]) (m := m) (q := q) (fu := fu)
  rwa [List.map_append, List.map_cons, List.map_nil] at h
def lowP (p : Packet) (l : List Packet) : List Packet := l.takeWhile fun y => decide (y.pri ≤ p.pri)
theorem putAt_low (l : List Packet) (p : Packet) : putAt l p = lowP p l ++ [p] ++ l.drop (lowP p l).length := by
  obtain ⟨h1, h2⟩ := tw_len (fun x : Packet => decide (x.pri ≤ p.pri)) l
  rw [putAt_tw]; simp only [lowP, h2]; simp
theorem l157a (q : Queue) (p : Packet) (L : List Packet) (lim : Int) (hL : (L.length + 1) * 56 ≤ 140737488355328) (r : AVal) (k' : List It)
    (hk : ∀ zs (st : Nat), get zs 3 = .ptr 1 0 0 0 → get zs 4 = .ptr 2 0 0 0 → get zs 11 = .ptr 3 0 0 0 → get zs 8 = .sl 6 (L.map Packet.enc) → get zs 12 = .int .i64 (lowP p L).length → get zs 9 = .nil → V prog f157.ntmps 0 (Ret [.cell 4 true 2, .t 5, .t 6] 0 r []) k' zs [.cells 0 2 27 true [q.enc], .cells 0 6 104 true [p.enc], .cells 0 2 27 true [[.int .i64 0, .nil]], .cells 0 2 27 true [[.int .i64 lim, .row 4 st 0 (lowP p L).length]], .cells st 6 104 false ((lowP p L).map Packet.enc)]) :
    ∀ (rest done : List Packet) (st : Nat), L = done ++ rest → lowP p L = done ++ lowP p rest →
    Lp prog f157.ntmps 0 (Ret [.cell 4 true 2, .t 5, .t 6] 0 r []) c157L1 (.blk 0 :: k') [(3, .ptr 1 0 0 0), (4, .ptr 2 0 0 0), (11, .ptr 3 0 0 0), (8, .sl 6 (L.map Packet.enc)), (12, .int .i64 done.length), (9, .nil)] [.cells 0 2 27 true [q.enc], .cells 0 6 104 true [p.enc], .cells 0 2 27 true [[.int .i64 0, .nil]], .cells 0 2 27 true [[.int .i64 lim, .row 4 st 0 (done).length]], .cells st 6 104 false ((done).map Packet.enc)] := by
  intro rest
  induction rest with
  | nil =>
    intro done st hd ht
    refine Lp.of_eq hmx c157L1.eq_1 ?_
    have h1 := rg_end hd
    have e : lowP p L = done := by rw [ht]; simp [lowP]
    rw [e] at hk
    simp only [go_sem, seval, h1, List.length_map]
    exact hk _ st (by rfl) (by rfl) (by rfl) (by rfl) (by rfl) (by rfl)
  | cons c rest ih =>
    intro done st hd ht
    refine Lp.of_eq hmx c157L1.eq_1 ?_
    obtain ⟨h1, h2, h3, h4⟩ := rg_hd Packet.enc hd (by omega)
    have hlen : done.length + 1 ≤ L.length := by rw [hd]; simp
    cases hc : decide (c.pri ≤ p.pri)
    · have e : lowP p L = done := by rw [ht]; simp [lowP, List.takeWhile_cons, hc]
      rw [e] at hk
      repeat' first | (with_reducible intro h; try simp only [h]) | (with_reducible refine And.intro ?_ ?_) | (change chk _ _ = true; rfl) | simp only [go_sem, seval, Vc_bool, h1, h2, hc, List.length_map, Int.toNat_natCast, Int.natCast_nonneg] | refine (GX_split rfl).2 ?_
      exact hk _ st (by rfl) (by rfl) (by rfl) (by rfl) (by rfl) (by rfl)
    · have e : lowP p L = done ++ [c] ++ lowP p rest := by rw [ht]; simp [lowP, List.takeWhile_cons, hc]
      have ih' := ih (done ++ [c]) (st + 1) h4 e
      simp only [show (done ++ [c]).map Packet.enc = done.map Packet.enc ++ [c.enc] by simp, show (done ++ [c]).length = done.length + 1 by simp] at ih' h3
      repeat' first | (with_reducible intro h; try simp only [h]) | (with_reducible refine And.intro ?_ ?_) | (change chk _ _ = true; rfl) | simp only [go_sem, seval, Vc_bool, h1, h2, h3, hc, List.length_map, Nat.le_refl, Int.toNat_natCast, Int.natCast_nonneg] | refine (GX_split rfl).2 ?_
      · omega
      · refine Lp.bkE [_] ih' (by rfl) (by rfl) ?_ (Nat.zero_le _) rfl
        rw [List.all_cons, List.all_cons, List.all_cons, List.all_cons, List.all_cons, List.all_nil, Bool.and_true, pk_snoc]
        rfl
theorem l157b (q : Queue) (p : Packet) (z : Packet) (L : List Packet) (lim : Int) (hL : (L.length + 1) * 56 ≤ 140737488355328) (r : AVal) (k' : List It)
    (hk : ∀ zs (st : Nat), get zs 3 = .ptr 1 0 0 0 → get zs 4 = .ptr 2 0 0 0 → get zs 11 = .ptr 6 0 0 0 → get zs 8 = .sl 6 (L.map Packet.enc) → get zs 12 = .int .i64 (lowP p L).length → get zs 9 = .row 5 0 0 1 → V prog f157.ntmps 0 (Ret [.cell 4 true 2, .t 5, .t 6] 0 r []) k' zs [.cells 0 2 27 true [q.enc], .cells 0 6 104 true [p.enc], .cells 0 2 27 true [[.int .i64 0, .nil]], .cells 0 6 104 true [z.enc], .cells 0 6 104 true [z.enc], .cells 0 6 104 false [z.enc], .cells 0 2 27 true [[.int .i64 lim, .row 7 st 0 (lowP p L).length]], .cells st 6 104 false ((lowP p L).map Packet.enc)]) :
    ∀ (rest done : List Packet) (st : Nat), L = done ++ rest → lowP p L = done ++ lowP p rest →
    Lp prog f157.ntmps 0 (Ret [.cell 4 true 2, .t 5, .t 6] 0 r []) c157L1 (.blk 0 :: k') [(3, .ptr 1 0 0 0), (4, .ptr 2 0 0 0), (11, .ptr 6 0 0 0), (8, .sl 6 (L.map Packet.enc)), (12, .int .i64 done.length), (9, .row 5 0 0 1)] [.cells 0 2 27 true [q.enc], .cells 0 6 104 true [p.enc], .cells 0 2 27 true [[.int .i64 0, .nil]], .cells 0 6 104 true [z.enc], .cells 0 6 104 true [z.enc], .cells 0 6 104 false [z.enc], .cells 0 2 27 true [[.int .i64 lim, .row 7 st 0 (done).length]], .cells st 6 104 false ((done).map Packet.enc)] := by
  intro rest
  induction rest with
  | nil =>
    intro done st hd ht
    refine Lp.of_eq hmx c157L1.eq_1 ?_
    have h1 := rg_end hd
    have e : lowP p L = done := by rw [ht]; simp [lowP]
    rw [e] at hk
    simp only [go_sem, seval, h1, List.length_map]
    exact hk _ st (by rfl) (by rfl) (by rfl) (by rfl) (by rfl) (by rfl)
  | cons c rest ih =>
    intro done st hd ht
    refine Lp.of_eq hmx c157L1.eq_1 ?_
    obtain ⟨h1, h2, h3, h4⟩ := rg_hd Packet.enc hd (by omega)
    have hlen : done.length + 1 ≤ L.length := by rw [hd]; simp
    cases hc : decide (c.pri ≤ p.pri)
    · have e : lowP p L = done := by rw [ht]; simp [lowP, List.takeWhile_cons, hc]
      rw [e] at hk
      repeat' first | (with_reducible intro h; try simp only [h]) | (with_reducible refine And.intro ?_ ?_) | (change chk _ _ = true; rfl) | simp only [go_sem, seval, Vc_bool, h1, h2, hc, List.length_map, Int.toNat_natCast, Int.natCast_nonneg] | refine (GX_split rfl).2 ?_
      exact hk _ st (by rfl) (by rfl) (by rfl) (by rfl) (by rfl) (by rfl)
    · have e : lowP p L = done ++ [c] ++ lowP p rest := by rw [ht]; simp [lowP, List.takeWhile_cons, hc]
      have ih' := ih (done ++ [c]) (st + 1) h4 e
      simp only [show (done ++ [c]).map Packet.enc = done.map Packet.enc ++ [c.enc] by simp, show (done ++ [c]).length = done.length + 1 by simp] at ih' h3
      repeat' first | (with_reducible intro h; try simp only [h]) | (with_reducible refine And.intro ?_ ?_) | (change chk _ _ = true; rfl) | simp only [go_sem, seval, Vc_bool, h1, h2, h3, hc, List.length_map, Nat.le_refl, Int.toNat_natCast, Int.natCast_nonneg] | refine (GX_split rfl).2 ?_
      · omega
      · refine Lp.bkE [_] ih' (by rfl) (by rfl) ?_ (Nat.zero_le _) rfl
        rw [List.all_cons, List.all_cons, List.all_cons, List.all_cons, List.all_cons, List.all_cons, List.all_cons, List.all_cons, List.all_nil, Bool.and_true, pk_snoc]
        rfl


theorem low_len (p : Packet) (l : List Packet) : (lowP p l).length ≤ l.length := by
  have := congrArg List.length (List.takeWhile_append_dropWhile (p := fun y : Packet => decide (y.pri ≤ p.pri)) (l := l))
  rw [List.length_append] at this
  simp only [lowP]; omega
theorem c157_ok {q : Queue} {p : Packet} (hb : (q.pk.length + 1) * 56 ≤ 140737488355328) : ACalls prog 157 [.agg q.enc, .agg p.enc] [] (.tup [.agg (qPutE q p).1.enc, .sl 6 ((qPutE q p).2.1.map Packet.enc), .int .i64 (qPutE q p).2.2]) [] := by
  have h88 := c88_ok (q_limit := q.limit) (q_pk := q.pk) (by omega)
  have h190 := c190_pf p
  have h93 := c93_ok (L := q.pk) (id := p.id) (by omega)
  by_cases hq : qErr q = 0
  · by_cases hp : pkErr p = 0
    · by_cases hx : 0 ≤ pkIdx q.pk p.id
      · have e : qPutE q p = (Queue.zero, [], 6) := by simp [qPutE, hq, hp, hx]
        have d : decide (0 ≤ pkIdx q.pk p.id) = true := by simpa using hx
        rw [e]
        refine calls_of hmx func157 (by kernel_rfl) (c := f157.body.getD .skip) rfl e157 (rs := [(.cell 4 true 2), (.t 5), (.t 6)]) (by kernel_rfl) (by simp [ntmps157]) ?_
        simp only [c157, argS]
        repeat' first | refine CX_pure (h88) rfl rfl rfl rfl ?_ | refine CX_pure (h190) rfl rfl rfl rfl ?_ | refine CX_pure (h93) rfl rfl rfl rfl ?_ | refine GX_call (fun _ => (h88)) (by rfl) (by intro h; simp only [h]; rfl) (by rfl) (by rfl) ?_ | refine GX_call (fun _ => (h190)) (by rfl) (by intro h; simp only [h]; rfl) (by rfl) (by rfl) ?_ | refine GX_call (fun _ => (h93)) (by rfl) (by intro h; simp only [h]; rfl) (by rfl) (by rfl) ?_ | (with_reducible intro h; try simp only [h]) | (with_reducible refine And.intro ?_ ?_) | (change chk _ _ = true; rfl) | simp only [go_sem, seval, Vc_bool, hq, hp, d] | refine (GX_split rfl).2 ?_
        refine Rt.gs (Gs_tell (s' := [(4, .ptr 2 0 0 0), (5, .sl 6 []), (6, .int .i64 6)]) (H' := [.dead, .dead, .cells 0 2 27 true [Queue.zero.enc]]) ?_ ?_) (Rt_pure ?_ rfl)
        · repeat' (first | exact FzL.nil | refine FzL.cons ?_ ?_ | exact Fz.wk (Wk.refl _) | exact Fz.wk (Wk.nil _) | exact Fz.wk (Wk.emp _) | exact Fz.row0 _ _ _ _ | exact FzH.nil _ | exact FzO.refl _ | refine FzO.one ?_ | refine FzH.cons (by decide) ?_ ?_ | refine FzH.this rfl ?_ | exact FzO.dead (by simp) | (simp only [List.forall_mem_cons, List.not_mem_nil, false_implies, implies_true, and_true, go_sem, seval]) | refine And.intro ?_ ?_)
        · repeat' (first | exact FzL.nil | refine FzL.cons ?_ ?_ | exact Fz.wk (Wk.refl _) | exact Fz.wk (Wk.nil _) | exact Fz.wk (Wk.emp _) | exact Fz.row0 _ _ _ _ | exact FzH.nil _ | exact FzO.refl _ | refine FzO.one ?_ | refine FzH.cons (by decide) ?_ ?_ | refine FzH.this rfl ?_ | exact FzO.dead (by simp) | (simp only [List.forall_mem_cons, List.not_mem_nil, false_implies, implies_true, and_true, go_sem, seval]) | refine And.intro ?_ ?_)
        · rfl
      · have d : decide (0 ≤ pkIdx q.pk p.id) = false := by simpa using hx
        by_cases hf : (q.pk.length : Int) = q.limit
        · have hne : q.pk ≠ [] := by
            intro h0
            rw [h0] at hf
            have : 1 ≤ q.limit := by
              unfold qErr at hq
              split at hq
              · cases hq
              · rename_i h1
                simp only [wi3, Bool.not_eq_true', Bool.and_eq_false_iff, decide_eq_false_iff_not, not_or, Decidable.not_not] at h1
                exact h1.1
            simp at hf; omega
          obtain ⟨l, z, hlz⟩ := List.eq_nil_or_concat q.pk |>.resolve_left hne
          rw [List.concat_eq_append] at hlz
          have hlen : q.pk.length = l.length + 1 := by rw [hlz]; simp
          have hlast : q.pk.getLast? = some z := by rw [hlz]; simp
          have hdl : q.pk.dropLast = l := by rw [hlz]; simp
          have w1 : IntKind.i64.wrap ((q.pk.length : Int) - 1) = (l.length : Int) := by rw [wrap_ok (by omega) (by omega)]; omega
          have f1 : decide ((q.pk.length : Int) = q.limit) = true := by simpa using hf
          have e2 : (q.pk.map Packet.enc)[l.length]? = some z.enc := by rw [hlz]; simp
          have e5 : List.take l.length (q.pk.map Packet.enc) = l.map Packet.enc := by rw [hlz]; simp
          cases hz : decide (z.pri ≤ p.pri) with
          | true =>
            have e : qPutE q p = (Queue.zero, [], 13) := by simp [qPutE, hq, hp, hx, hf, hlast, of_decide_eq_true hz]
            rw [e]
            refine calls_of hmx func157 (by kernel_rfl) (c := f157.body.getD .skip) rfl e157 (rs := [(.cell 4 true 2), (.t 5), (.t 6)]) (by kernel_rfl) (by simp [ntmps157]) ?_
            simp only [c157, argS]
            repeat' first | refine CX_pure (h88) rfl rfl rfl rfl ?_ | refine CX_pure (h190) rfl rfl rfl rfl ?_ | refine CX_pure (h93) rfl rfl rfl rfl ?_ | refine GX_call (fun _ => (h88)) (by rfl) (by intro h; simp only [h]; rfl) (by rfl) (by rfl) ?_ | refine GX_call (fun _ => (h190)) (by rfl) (by intro h; simp only [h]; rfl) (by rfl) (by rfl) ?_ | refine GX_call (fun _ => (h93)) (by rfl) (by intro h; simp only [h]; rfl) (by rfl) (by rfl) ?_ | (with_reducible intro h; try simp only [h]) | (with_reducible refine And.intro ?_ ?_) | (change chk _ _ = true; rfl) | simp only [go_sem, seval, Vc_bool, hq, hp, d, w1, f1, e2, hz, List.length_map, Int.toNat_natCast, Int.natCast_nonneg] | refine (GX_split rfl).2 ?_
            refine Rt.gs (Gs_tell (s' := [(4, .ptr 2 0 0 0), (5, .sl 6 []), (6, .int .i64 13)]) (H' := [.dead, .dead, .cells 0 2 27 true [Queue.zero.enc], .dead]) ?_ ?_) (Rt_pure ?_ rfl)
            · repeat' (first | exact FzL.nil | refine FzL.cons ?_ ?_ | exact Fz.wk (Wk.refl _) | exact Fz.wk (Wk.nil _) | exact Fz.wk (Wk.emp _) | exact Fz.row0 _ _ _ _ | exact FzH.nil _ | exact FzO.refl _ | refine FzO.one ?_ | refine FzH.cons (by decide) ?_ ?_ | refine FzH.this rfl ?_ | exact FzO.dead (by simp) | (simp only [List.forall_mem_cons, List.not_mem_nil, false_implies, implies_true, and_true, go_sem, seval]) | refine And.intro ?_ ?_)
            · repeat' (first | exact FzL.nil | refine FzL.cons ?_ ?_ | exact Fz.wk (Wk.refl _) | exact Fz.wk (Wk.nil _) | exact Fz.wk (Wk.emp _) | exact Fz.row0 _ _ _ _ | exact FzH.nil _ | exact FzO.refl _ | refine FzO.one ?_ | refine FzH.cons (by decide) ?_ ?_ | refine FzH.this rfl ?_ | exact FzO.dead (by simp) | (simp only [List.forall_mem_cons, List.not_mem_nil, false_implies, implies_true, and_true, go_sem, seval]) | refine And.intro ?_ ?_)
            · rfl
          | false =>
            have e : qPutE q p = (⟨q.limit, putAt l p⟩, [z], 0) := by simp [qPutE, hq, hp, hx, hf, hlast, hdl, of_decide_eq_false hz]
            have hll := low_len p l
            have htk : List.take l.length (l.map Packet.enc) = l.map Packet.enc := List.take_of_length_le (by simp)
            rw [e, putAt_low]
            refine calls_of hmx func157 (by kernel_rfl) (c := f157.body.getD .skip) rfl e157 (rs := [(.cell 4 true 2), (.t 5), (.t 6)]) (by kernel_rfl) (by simp [ntmps157]) ?_
            simp only [c157, argS]
            repeat' first | refine CX_pure (h88) rfl rfl rfl rfl ?_ | refine CX_pure (h190) rfl rfl rfl rfl ?_ | refine CX_pure (h93) rfl rfl rfl rfl ?_ | refine GX_call (fun _ => (h88)) (by rfl) (by intro h; simp only [h]; rfl) (by rfl) (by rfl) ?_ | refine GX_call (fun _ => (h190)) (by rfl) (by intro h; simp only [h]; rfl) (by rfl) (by rfl) ?_ | refine GX_call (fun _ => (h93)) (by rfl) (by intro h; simp only [h]; rfl) (by rfl) (by rfl) ?_ | (with_reducible intro h; try simp only [h]) | (with_reducible refine And.intro ?_ ?_) | (change chk _ _ = true; rfl) | simp only [go_sem, seval, Vc_bool, hq, hp, d, w1, f1, e2, e5, hz, List.length_map, List.drop_zero, Int.toNat_natCast, Int.natCast_nonneg] | refine (GX_split rfl).2 ?_
            · omega
            · refine Lp.gs (Gs_virtH 6 1 104 false (by decide : 0 < 6) (by rfl) (by rfl)) ?_
              refine Lp.bkE0 (l157b q p z l q.limit (by omega) _ _ (fun zs st z3 z4 z11 z8 z12 z9 => ?_) l [] 1 rfl (by simp)) (by rfl) rfl
              generalize hlo : lowP p l = lo at *
              repeat' first | (with_reducible intro h; try simp only [h]) | (with_reducible refine And.intro ?_ ?_) | (change chk _ _ = true; rfl) | simp only [go_sem, seval, Vc_bool, z3, z4, z8, z9, z11, z12, htk, List.length_map, List.length_append, List.length_drop, Nat.le_refl, Int.toNat_natCast, Int.natCast_nonneg] | refine (GX_split rfl).2 ?_
              all_goals first | (clear z3 z4 z8 z9 z11 z12; omega) | skip
              have hes : (List.drop 0 (lo.map Packet.enc ++ [p.enc] ++ List.drop lo.length (l.map Packet.enc))).take (lo.length + 1 + (l.length - lo.length)) = (lo ++ [p] ++ List.drop lo.length l).map Packet.enc := by
                rw [List.drop_zero, List.take_of_length_le (by simp; omega)]
                simp
              refine Rt.gs (Gs_freeze 7 (s' := [(4, .ptr 2 0 0 0), (5, .row 5 0 0 1), (6, .int .i64 0)]) (H' := [.dead, .dead, .cells 0 2 27 true [Queue.enc ⟨q.limit, lo ++ [p] ++ List.drop lo.length l⟩], .dead, .dead, .cells 0 6 104 false [z.enc], .dead, .dead, .dead]) rfl ?_ ?_) ?_
              · simp only [List.forall_mem_cons, List.not_mem_nil, false_implies, implies_true, and_true, go_sem, seval, z4, z9]
                exact ⟨.wk (.refl _), .wk (.refl _), .wk (.refl _)⟩
              · repeat' (first | exact FzL.nil | refine FzL.cons ?_ ?_ | exact Fz.wk (Wk.refl _) | exact Fz.wk (Wk.nil _) | exact Fz.wk (Wk.emp _) | exact Fz.row0 _ _ _ _ | exact FzH.nil _ | exact FzO.refl _ | refine FzO.one ?_ | refine FzH.cons (by decide) ?_ ?_ | refine FzH.this rfl ?_ | exact FzO.dead (by simp) | (simp only [List.forall_mem_cons, List.not_mem_nil, false_implies, implies_true, and_true, go_sem, seval]) | refine And.intro ?_ ?_)
                all_goals first | exact Fz.wk (Wk.refl _) | exact Fz.row 0 _ hes (cloE_map fun _ => by rfl)
              · refine Rt.gs (Gs_freeze 5 (s' := [(4, .ptr 2 0 0 0), (5, .sl 6 ([z].map Packet.enc)), (6, .int .i64 0)]) (H' := [.dead, .dead, .cells 0 2 27 true [Queue.enc ⟨q.limit, lo ++ [p] ++ List.drop lo.length l⟩], .dead, .dead, .dead, .dead, .dead, .dead]) rfl ?_ ?_) (Rt_pure (by rfl) (by rfl))
                · repeat' (first | exact FzL.nil | refine FzL.cons ?_ ?_ | exact Fz.wk (Wk.refl _) | exact Fz.wk (Wk.nil _) | exact Fz.wk (Wk.emp _) | exact Fz.row0 _ _ _ _ | exact FzH.nil _ | exact FzO.refl _ | refine FzO.one ?_ | refine FzH.cons (by decide) ?_ ?_ | refine FzH.this rfl ?_ | exact FzO.dead (by simp) | (simp only [List.forall_mem_cons, List.not_mem_nil, false_implies, implies_true, and_true, go_sem, seval]) | refine And.intro ?_ ?_)
                  all_goals first | exact Fz.wk (Wk.refl _) | exact Fz.row 0 1 rfl (cloE_map (f := Packet.enc) (xs := [z]) fun _ => by rfl)
                · repeat' (first | exact FzL.nil | refine FzL.cons ?_ ?_ | exact Fz.wk (Wk.refl _) | exact Fz.wk (Wk.nil _) | exact Fz.wk (Wk.emp _) | exact Fz.row0 _ _ _ _ | exact FzH.nil _ | exact FzO.refl _ | refine FzO.one ?_ | refine FzH.cons (by decide) ?_ ?_ | refine FzH.this rfl ?_ | exact FzO.dead (by simp) | (simp only [List.forall_mem_cons, List.not_mem_nil, false_implies, implies_true, and_true, go_sem, seval]) | refine And.intro ?_ ?_)
        · have e : qPutE q p = (⟨q.limit, putAt q.pk p⟩, [], 0) := by simp [qPutE, hq, hp, hx, hf]
          have f1 : decide ((q.pk.length : Int) = q.limit) = false := by simpa using hf
          have hll := low_len p q.pk
          have htk : List.take q.pk.length (q.pk.map Packet.enc) = q.pk.map Packet.enc := List.take_of_length_le (by simp)
          rw [e, putAt_low]
          refine calls_of hmx func157 (by kernel_rfl) (c := f157.body.getD .skip) rfl e157 (rs := [(.cell 4 true 2), (.t 5), (.t 6)]) (by kernel_rfl) (by simp [ntmps157]) ?_
          simp only [c157, argS]
          repeat' first | refine CX_pure (h88) rfl rfl rfl rfl ?_ | refine CX_pure (h190) rfl rfl rfl rfl ?_ | refine CX_pure (h93) rfl rfl rfl rfl ?_ | refine GX_call (fun _ => (h88)) (by rfl) (by intro h; simp only [h]; rfl) (by rfl) (by rfl) ?_ | refine GX_call (fun _ => (h190)) (by rfl) (by intro h; simp only [h]; rfl) (by rfl) (by rfl) ?_ | refine GX_call (fun _ => (h93)) (by rfl) (by intro h; simp only [h]; rfl) (by rfl) (by rfl) ?_ | (with_reducible intro h; try simp only [h]) | (with_reducible refine And.intro ?_ ?_) | (change chk _ _ = true; rfl) | simp only [go_sem, seval, Vc_bool, hq, hp, d, f1, List.length_map, Int.toNat_natCast, Int.natCast_nonneg] | refine (GX_split rfl).2 ?_
          refine Lp.gs (Gs_virtH 3 1 104 false (by decide : 0 < 6) (by rfl) (by rfl)) ?_
          refine Lp.bkE0 (l157a q p q.pk q.limit hb _ _ (fun zs st z3 z4 z11 z8 z12 z9 => ?_) q.pk [] 1 rfl (by simp)) (by rfl) rfl
          generalize hlo : lowP p q.pk = lo at *
          repeat' first | (with_reducible intro h; try simp only [h]) | (with_reducible refine And.intro ?_ ?_) | (change chk _ _ = true; rfl) | simp only [go_sem, seval, Vc_bool, z3, z4, z8, z9, z11, z12, htk, List.length_map, List.length_append, List.length_drop, Nat.le_refl, Int.toNat_natCast, Int.natCast_nonneg] | refine (GX_split rfl).2 ?_
          all_goals first | (clear z3 z4 z8 z9 z11 z12; omega) | skip
          have hes : (List.drop 0 (lo.map Packet.enc ++ [p.enc] ++ List.drop lo.length (q.pk.map Packet.enc))).take (lo.length + 1 + (q.pk.length - lo.length)) = (lo ++ [p] ++ List.drop lo.length q.pk).map Packet.enc := by
            rw [List.drop_zero, List.take_of_length_le (by simp; omega)]
            simp
          refine Rt.gs (Gs_freeze 4 (s' := [(4, .ptr 2 0 0 0), (5, .sl 6 []), (6, .int .i64 0)]) (H' := [.dead, .dead, .cells 0 2 27 true [Queue.enc ⟨q.limit, lo ++ [p] ++ List.drop lo.length q.pk⟩], .dead, .dead, .dead]) rfl ?_ ?_) (Rt_pure (by rfl) (by rfl))
          · simp only [List.forall_mem_cons, List.not_mem_nil, false_implies, implies_true, and_true, go_sem, seval, z4, z9]
            exact ⟨.wk (.refl _), .wk (.nil _), .wk (.refl _)⟩
          · repeat' (first | exact FzL.nil | refine FzL.cons ?_ ?_ | exact Fz.wk (Wk.refl _) | exact Fz.wk (Wk.nil _) | exact Fz.wk (Wk.emp _) | exact Fz.row0 _ _ _ _ | exact FzH.nil _ | exact FzO.refl _ | refine FzO.one ?_ | refine FzH.cons (by decide) ?_ ?_ | refine FzH.this rfl ?_ | exact FzO.dead (by simp) | (simp only [List.forall_mem_cons, List.not_mem_nil, false_implies, implies_true, and_true, go_sem, seval]) | refine And.intro ?_ ?_)
            all_goals first | exact Fz.wk (Wk.refl _) | exact Fz.row 0 _ hes (cloE_map fun _ => by rfl)
    · have e : qPutE q p = (Queue.zero, [], pkErr p) := by simp [qPutE, hq, hp]
      have d : decide (pkErr p = 0) = false := by simpa using hp
      rw [e]
      refine calls_of hmx func157 (by kernel_rfl) (c := f157.body.getD .skip) rfl e157 (rs := [(.cell 4 true 2), (.t 5), (.t 6)]) (by kernel_rfl) (by simp [ntmps157]) ?_
      simp only [c157, argS]
      repeat' first | refine CX_pure (h88) rfl rfl rfl rfl ?_ | refine CX_pure (h190) rfl rfl rfl rfl ?_ | refine GX_call (fun _ => (h88)) (by rfl) (by intro h; simp only [h]; rfl) (by rfl) (by rfl) ?_ | refine GX_call (fun _ => (h190)) (by rfl) (by intro h; simp only [h]; rfl) (by rfl) (by rfl) ?_ | (with_reducible intro h; try simp only [h]) | (with_reducible refine And.intro ?_ ?_) | (change chk _ _ = true; rfl) | simp only [go_sem, seval, Vc_bool, hq, d] | refine (GX_split rfl).2 ?_
      refine Rt.gs (Gs_tell (s' := [(4, .ptr 2 0 0 0), (5, .sl 6 []), (6, .int .i64 (pkErr p))]) (H' := [.dead, .dead, .cells 0 2 27 true [Queue.zero.enc]]) ?_ ?_) (Rt_pure ?_ rfl)
      · repeat' (first | exact FzL.nil | refine FzL.cons ?_ ?_ | exact Fz.wk (Wk.refl _) | exact Fz.wk (Wk.nil _) | exact Fz.wk (Wk.emp _) | exact Fz.row0 _ _ _ _ | exact FzH.nil _ | exact FzO.refl _ | refine FzO.one ?_ | refine FzH.cons (by decide) ?_ ?_ | refine FzH.this rfl ?_ | exact FzO.dead (by simp) | (simp only [List.forall_mem_cons, List.not_mem_nil, false_implies, implies_true, and_true, go_sem, seval]) | refine And.intro ?_ ?_)
      · repeat' (first | exact FzL.nil | refine FzL.cons ?_ ?_ | exact Fz.wk (Wk.refl _) | exact Fz.wk (Wk.nil _) | exact Fz.wk (Wk.emp _) | exact Fz.row0 _ _ _ _ | exact FzH.nil _ | exact FzO.refl _ | refine FzO.one ?_ | refine FzH.cons (by decide) ?_ ?_ | refine FzH.this rfl ?_ | exact FzO.dead (by simp) | (simp only [List.forall_mem_cons, List.not_mem_nil, false_implies, implies_true, and_true, go_sem, seval]) | refine And.intro ?_ ?_)
      · rfl
  · have e : qPutE q p = (Queue.zero, [], 1) := by simp [qPutE, hq]
    have d : decide (qErr q = 0) = false := by simpa using hq
    rw [e]
    refine calls_of hmx func157 (by kernel_rfl) (c := f157.body.getD .skip) rfl e157 (rs := [(.cell 4 true 2), (.t 5), (.t 6)]) (by kernel_rfl) (by simp [ntmps157]) ?_
    simp only [c157, argS]
    repeat' first | refine CX_pure (h88) rfl rfl rfl rfl ?_ | refine GX_call (fun _ => (h88)) (by rfl) (by intro h; simp only [h]; rfl) (by rfl) (by rfl) ?_ | (with_reducible intro h; try simp only [h]) | (with_reducible refine And.intro ?_ ?_) | (change chk _ _ = true; rfl) | simp only [go_sem, seval, Vc_bool, d] | refine (GX_split rfl).2 ?_
    refine Rt.gs (Gs_tell (s' := [(4, .ptr 2 0 0 0), (5, .sl 6 []), (6, .int .i64 1)]) (H' := [.dead, .dead, .cells 0 2 27 true [Queue.zero.enc]]) ?_ ?_) (Rt_pure ?_ rfl)
    · repeat' (first | exact FzL.nil | refine FzL.cons ?_ ?_ | exact Fz.wk (Wk.refl _) | exact Fz.wk (Wk.nil _) | exact Fz.wk (Wk.emp _) | exact Fz.row0 _ _ _ _ | exact FzH.nil _ | exact FzO.refl _ | refine FzO.one ?_ | refine FzH.cons (by decide) ?_ ?_ | refine FzH.this rfl ?_ | exact FzO.dead (by simp) | (simp only [List.forall_mem_cons, List.not_mem_nil, false_implies, implies_true, and_true, go_sem, seval]) | refine And.intro ?_ ?_)
    · repeat' (first | exact FzL.nil | refine FzL.cons ?_ ?_ | exact Fz.wk (Wk.refl _) | exact Fz.wk (Wk.nil _) | exact Fz.wk (Wk.emp _) | exact Fz.row0 _ _ _ _ | exact FzH.nil _ | exact FzO.refl _ | refine FzO.one ?_ | refine FzH.cons (by decide) ?_ ?_ | refine FzH.this rfl ?_ | exact FzO.dead (by simp) | (simp only [List.forall_mem_cons, List.not_mem_nil, false_implies, implies_true, and_true, go_sem, seval]) | refine And.intro ?_ ?_)
    · rfl

def c48 : SC := (.seq (.reg [(.box 2 31 (.t 0)), (.box 3 104 (.t 1)), (.alc 4 31 [(.int .i64 0), (.int .i64 0), .nil, (.int .i64 0), .nil, .nil, .nil, (.int .i64 0), (.int .i64 0), (.int .i64 0), (.int .i64 0), (.int .i64 0), (.int .i64 0), (.int .i64 0)]), (.mv 5 (.c .nil)), (.mv 6 (.c (.int .i64 0)))]) (.seq (.seq (.reg [(.ld 10 (.t 2) true 14), (.call (some 11) (.c (.func 23 [] [])) [(.t 10)]), (.bin 12 .neq (.t 11) (.c (.int .i64 0)))]) (.cond (.t 12) (.seq (.reg [(.bld 13 [(.int .i64 0), (.int .i64 0), .nil, (.int .i64 0), .nil, .nil, .nil, (.int .i64 0), (.int .i64 0), (.int .i64 0), (.int .i64 0), (.int .i64 0), (.int .i64 0), (.int .i64 0)] []), (.st (.t 4) (.t 13) 14), (.mv 5 (.c .nil)), (.mv 6 (.c (.int .i64 1)))]) .ret) .skip)) (.seq (.reg [(.fa 15 (.t 2) 3), (.ld 16 (.t 15) true 2), (.ld 17 (.t 3) true 6), (.call (some 18) (.c (.func 157 [] [])) [(.t 16), (.t 17)]), (.mv 14 (.t 18)), (.ext 19 (.t 14) 0), (.ext 20 (.t 14) 1), (.ext 21 (.t 14) 2), (.alc 7 27 [(.int .i64 0), .nil]), (.st (.t 7) (.t 19) 2), (.mv 8 (.t 20)), (.mv 9 (.t 21))]) (.seq (.seq (.reg [(.mv 22 (.t 9)), (.bin 23 .neq (.t 22) (.c (.int .i64 0)))]) (.cond (.t 23) (.seq (.reg [(.bld 24 [(.int .i64 0), (.int .i64 0), .nil, (.int .i64 0), .nil, .nil, .nil, (.int .i64 0), (.int .i64 0), (.int .i64 0), (.int .i64 0), (.int .i64 0), (.int .i64 0), (.int .i64 0)] []), (.mv 25 (.t 9)), (.st (.t 4) (.t 24) 14), (.mv 5 (.c .nil)), (.mv 6 (.t 25))]) .ret) .skip)) (.seq (.seq (.reg [(.fa 26 (.t 3) 1), (.ld 27 (.t 26) false 1), (.fa 28 (.t 2) 0), (.fa 29 (.t 28) 0), (.ld 30 (.t 29) false 1), (.bin 31 .eql (.t 27) (.t 30))]) (.cond (.t 31) (.seq (.reg [(.bld 32 [(.int .i64 0), (.int .i64 0), .nil, (.int .i64 0), .nil, .nil, .nil, (.int .i64 0), (.int .i64 0), (.int .i64 0), (.int .i64 0), (.int .i64 0), (.int .i64 0), (.int .i64 0)] []), (.st (.t 4) (.t 32) 14), (.mv 5 (.c .nil)), (.mv 6 (.c (.int .i64 12)))]) .ret) .skip)) (.seq (.seq (.reg [(.fa 33 (.t 3) 5), (.ld 34 (.t 33) false 1), (.len 35 true (.t 34)), (.bin 36 .gtr (.t 35) (.c (.int .i64 100)))]) (.cond (.t 36) (.seq (.reg [(.bld 37 [(.int .i64 0), (.int .i64 0), .nil, (.int .i64 0), .nil, .nil, .nil, (.int .i64 0), (.int .i64 0), (.int .i64 0), (.int .i64 0), (.int .i64 0), (.int .i64 0), (.int .i64 0)] []), (.st (.t 4) (.t 37) 14), (.mv 5 (.c .nil)), (.mv 6 (.c (.int .i64 8)))]) .ret) .skip)) (.seq (.reg [(.ld 38 (.t 7) true 2), (.fa 39 (.t 2) 3), (.st (.t 39) (.t 38) 2)]) (.seq (.reg [(.ld 40 (.t 2) true 14), (.call (some 41) (.c (.func 158 [] [])) [(.t 40)]), (.mv 42 (.t 8)), (.st (.t 4) (.t 41) 14), (.mv 5 (.t 42)), (.mv 6 (.c (.int .i64 0)))]) .ret))))))))
theorem e48 : compC prog f48.ntmps (f48.body.getD .skip) = c48 := by kernel_rfl
/-- Put of a station, as both say it. -/
def putE (s : Station) (p : Packet) : Station × List Packet × Int :=
  if stOk s = false then (Station.zero, [], 1)
  else if (qPutE s.q p).2.2 ≠ 0 then (Station.zero, [], (qPutE s.q p).2.2)
  else if p.to = s.tab.node then (Station.zero, [], 12)
  else if 100 < (p.data.size : Int) then (Station.zero, [], 8)
  else (settleG { s with q := (qPutE s.q p).1 }, (qPutE s.q p).2.1, 0)
theorem putAt_len (l : List Packet) (p : Packet) : (putAt l p).length = l.length + 1 := by
  have := low_len p l
  rw [putAt_low]; simp; omega
theorem qPut_len (q : Queue) (p : Packet) : (qPutE q p).1.pk.length ≤ q.pk.length + 1 ∧ (qPutE q p).2.1.length ≤ 1 := by
  unfold qPutE
  repeat' split
  all_goals simp [Queue.zero, putAt_len]
  all_goals omega
theorem c47_ok {s : Station} {p : Packet} (hB : ClBd s) (hb : (s.q.pk.length + 1) * 56 ≤ 140737488355328) : ACalls prog 47 [.agg s.enc, .agg p.enc] [] (.tup [.agg (putE s p).1.enc, .sl 6 ((putE s p).2.1.map Packet.enc), .int .i64 (putE s p).2.2]) [] := by
  have h22 := c22_pf s hB.st
  have h155 := c155_ok (q := s.q) (p := p) hb
  have h152 := c152_pf s hB
  obtain ⟨hql, hol⟩ := qPut_len s.q p
  refine calls_of hmx func47 (by kernel_rfl) (c := f47.body.getD .skip) rfl e47 (rs := [(.cell 4 true 14), (.t 5), (.t 6)]) (by kernel_rfl) (by simp [ntmps47]) ?_
  simp only [c47, argS]
  cases h0 : stOk s with
  | false =>
    have e : putE s p = (Station.zero, [], 1) := by simp [putE, h0]
    have e1 : stErr s = 1 := by simp [stErr, h0]
    rw [e]
    rw [e1] at h22
    repeat' first | refine CX_pure (h22) rfl rfl rfl rfl ?_ | refine GX_call (fun _ => (h22)) (by rfl) (by intro h; simp only [h]; rfl) (by rfl) (by rfl) ?_ | (with_reducible intro h; try simp only [h]) | (with_reducible refine And.intro ?_ ?_) | (change chk _ _ = true; rfl) | simp only [go_sem, seval, Vc_bool] | refine (GX_split rfl).2 ?_
    refine Rt.gs (Gs_tell (s' := [(4, .ptr 2 0 0 0), (5, .sl 6 []), (6, .int .i64 1)]) (H' := [.dead, .dead, .cells 0 14 31 true [Station.zero.enc]]) ?_ ?_) (Rt_pure ?_ rfl)
    · repeat' (first | exact FzL.nil | refine FzL.cons ?_ ?_ | exact Fz.wk (Wk.refl _) | exact Fz.wk (Wk.nil _) | exact Fz.wk (Wk.emp _) | exact Fz.row0 _ _ _ _ | exact FzH.nil _ | exact FzO.refl _ | refine FzO.one ?_ | refine FzH.cons (by decide) ?_ ?_ | refine FzH.this rfl ?_ | exact FzO.dead (by simp) | (simp only [List.forall_mem_cons, List.not_mem_nil, false_implies, implies_true, and_true, go_sem, seval]) | refine And.intro ?_ ?_)
    · repeat' (first | exact FzL.nil | refine FzL.cons ?_ ?_ | exact Fz.wk (Wk.refl _) | exact Fz.wk (Wk.nil _) | exact Fz.wk (Wk.emp _) | exact Fz.row0 _ _ _ _ | exact FzH.nil _ | exact FzO.refl _ | refine FzO.one ?_ | refine FzH.cons (by decide) ?_ ?_ | refine FzH.this rfl ?_ | exact FzO.dead (by simp) | (simp only [List.forall_mem_cons, List.not_mem_nil, false_implies, implies_true, and_true, go_sem, seval]) | refine And.intro ?_ ?_)
    · rfl
  | true =>
    have e1 : stErr s = 0 := by simp [stErr, h0]
    rw [e1] at h22
    have e : putE s p = if (qPutE s.q p).2.2 ≠ 0 then (Station.zero, [], (qPutE s.q p).2.2) else if p.to = s.tab.node then (Station.zero, [], 12) else if 100 < (p.data.size : Int) then (Station.zero, [], 8) else (settleG { s with q := (qPutE s.q p).1 }, (qPutE s.q p).2.1, 0) := by simp [putE, h0]
    rw [e]
    generalize qPutE s.q p = x at *
    obtain ⟨⟨ql, qp⟩, out, er⟩ := x
    have h156 := c156_pf { s with q := ⟨ql, qp⟩ } (by show qp.length < 2 ^ 62; have : qp.length ≤ s.q.pk.length + 1 := hql; omega)
    simp only at h155 ⊢
    cases d1 : decide (er = 0) with
    | false =>
      rw [if_pos (of_decide_eq_false d1)]
      repeat' first | refine CX_pure (h22) rfl rfl rfl rfl ?_ | refine CX_pure (h155) rfl rfl rfl rfl ?_ | refine GX_call (fun _ => (h22)) (by rfl) (by intro h; simp only [h]; rfl) (by rfl) (by rfl) ?_ | refine GX_call (fun _ => (h155)) (by rfl) (by intro h; simp only [h]; rfl) (by rfl) (by rfl) ?_ | (with_reducible intro h; try simp only [h]) | (with_reducible refine And.intro ?_ ?_) | (change chk _ _ = true; rfl) | simp only [go_sem, seval, Vc_bool, d1] | refine (GX_split rfl).2 ?_
      refine Rt.gs (Gs_tell (s' := [(4, .ptr 2 0 0 0), (5, .sl 6 []), (6, .int .i64 er)]) (H' := [.dead, .dead, .cells 0 14 31 true [Station.zero.enc], .dead]) ?_ ?_) (Rt_pure ?_ rfl)
      · repeat' (first | exact FzL.nil | refine FzL.cons ?_ ?_ | exact Fz.wk (Wk.refl _) | exact Fz.wk (Wk.nil _) | exact Fz.wk (Wk.emp _) | exact Fz.row0 _ _ _ _ | exact FzH.nil _ | exact FzO.refl _ | refine FzO.one ?_ | refine FzH.cons (by decide) ?_ ?_ | refine FzH.this rfl ?_ | exact FzO.dead (by simp) | (simp only [List.forall_mem_cons, List.not_mem_nil, false_implies, implies_true, and_true, go_sem, seval]) | refine And.intro ?_ ?_)
      · repeat' (first | exact FzL.nil | refine FzL.cons ?_ ?_ | exact Fz.wk (Wk.refl _) | exact Fz.wk (Wk.nil _) | exact Fz.wk (Wk.emp _) | exact Fz.row0 _ _ _ _ | exact FzH.nil _ | exact FzO.refl _ | refine FzO.one ?_ | refine FzH.cons (by decide) ?_ ?_ | refine FzH.this rfl ?_ | exact FzO.dead (by simp) | (simp only [List.forall_mem_cons, List.not_mem_nil, false_implies, implies_true, and_true, go_sem, seval]) | refine And.intro ?_ ?_)
      · rfl
    | true =>
      rw [if_neg (by simpa using d1)]
      cases d2 : decide (p.to = s.tab.node) with
      | true =>
        rw [if_pos (of_decide_eq_true d2)]
        repeat' first | refine CX_pure (h22) rfl rfl rfl rfl ?_ | refine CX_pure (h155) rfl rfl rfl rfl ?_ | refine GX_call (fun _ => (h22)) (by rfl) (by intro h; simp only [h]; rfl) (by rfl) (by rfl) ?_ | refine GX_call (fun _ => (h155)) (by rfl) (by intro h; simp only [h]; rfl) (by rfl) (by rfl) ?_ | (with_reducible intro h; try simp only [h]) | (with_reducible refine And.intro ?_ ?_) | (change chk _ _ = true; rfl) | simp only [go_sem, seval, Vc_bool, d1, d2] | refine (GX_split rfl).2 ?_
        refine Rt.gs (Gs_tell (s' := [(4, .ptr 2 0 0 0), (5, .sl 6 []), (6, .int .i64 12)]) (H' := [.dead, .dead, .cells 0 14 31 true [Station.zero.enc], .dead]) ?_ ?_) (Rt_pure ?_ rfl)
        · repeat' (first | exact FzL.nil | refine FzL.cons ?_ ?_ | exact Fz.wk (Wk.refl _) | exact Fz.wk (Wk.nil _) | exact Fz.wk (Wk.emp _) | exact Fz.row0 _ _ _ _ | exact FzH.nil _ | exact FzO.refl _ | refine FzO.one ?_ | refine FzH.cons (by decide) ?_ ?_ | refine FzH.this rfl ?_ | exact FzO.dead (by simp) | (simp only [List.forall_mem_cons, List.not_mem_nil, false_implies, implies_true, and_true, go_sem, seval]) | refine And.intro ?_ ?_)
        · repeat' (first | exact FzL.nil | refine FzL.cons ?_ ?_ | exact Fz.wk (Wk.refl _) | exact Fz.wk (Wk.nil _) | exact Fz.wk (Wk.emp _) | exact Fz.row0 _ _ _ _ | exact FzH.nil _ | exact FzO.refl _ | refine FzO.one ?_ | refine FzH.cons (by decide) ?_ ?_ | refine FzH.this rfl ?_ | exact FzO.dead (by simp) | (simp only [List.forall_mem_cons, List.not_mem_nil, false_implies, implies_true, and_true, go_sem, seval]) | refine And.intro ?_ ?_)
        · rfl
      | false =>
        rw [if_neg (of_decide_eq_false d2)]
        cases d3 : decide (100 < (p.data.size : Int)) with
        | true =>
          rw [if_pos (of_decide_eq_true d3)]
          repeat' first | refine CX_pure (h22) rfl rfl rfl rfl ?_ | refine CX_pure (h155) rfl rfl rfl rfl ?_ | refine GX_call (fun _ => (h22)) (by rfl) (by intro h; simp only [h]; rfl) (by rfl) (by rfl) ?_ | refine GX_call (fun _ => (h155)) (by rfl) (by intro h; simp only [h]; rfl) (by rfl) (by rfl) ?_ | (with_reducible intro h; try simp only [h]) | (with_reducible refine And.intro ?_ ?_) | (change chk _ _ = true; rfl) | simp only [go_sem, seval, Vc_bool, d1, d2, d3] | refine (GX_split rfl).2 ?_
          refine Rt.gs (Gs_tell (s' := [(4, .ptr 2 0 0 0), (5, .sl 6 []), (6, .int .i64 8)]) (H' := [.dead, .dead, .cells 0 14 31 true [Station.zero.enc], .dead]) ?_ ?_) (Rt_pure ?_ rfl)
          · repeat' (first | exact FzL.nil | refine FzL.cons ?_ ?_ | exact Fz.wk (Wk.refl _) | exact Fz.wk (Wk.nil _) | exact Fz.wk (Wk.emp _) | exact Fz.row0 _ _ _ _ | exact FzH.nil _ | exact FzO.refl _ | refine FzO.one ?_ | refine FzH.cons (by decide) ?_ ?_ | refine FzH.this rfl ?_ | exact FzO.dead (by simp) | (simp only [List.forall_mem_cons, List.not_mem_nil, false_implies, implies_true, and_true, go_sem, seval]) | refine And.intro ?_ ?_)
          · repeat' (first | exact FzL.nil | refine FzL.cons ?_ ?_ | exact Fz.wk (Wk.refl _) | exact Fz.wk (Wk.nil _) | exact Fz.wk (Wk.emp _) | exact Fz.row0 _ _ _ _ | exact FzH.nil _ | exact FzO.refl _ | refine FzO.one ?_ | refine FzH.cons (by decide) ?_ ?_ | refine FzH.this rfl ?_ | exact FzO.dead (by simp) | (simp only [List.forall_mem_cons, List.not_mem_nil, false_implies, implies_true, and_true, go_sem, seval]) | refine And.intro ?_ ?_)
          · rfl
        | false =>
          rw [if_neg (of_decide_eq_false d3)]
          repeat' first | refine CX_pure (h22) rfl rfl rfl rfl ?_ | refine CX_pure (h155) rfl rfl rfl rfl ?_ | refine CX_pure (h152) rfl rfl rfl rfl ?_ | refine CX_pure (h156) rfl rfl rfl rfl ?_ | refine GX_call (fun _ => (h22)) (by rfl) (by intro h; simp only [h]; rfl) (by rfl) (by rfl) ?_ | refine GX_call (fun _ => (h155)) (by rfl) (by intro h; simp only [h]; rfl) (by rfl) (by rfl) ?_ | refine GX_call (fun _ => (h152)) (by rfl) (by intro h; simp only [h]; rfl) (by rfl) (by rfl) ?_ | refine GX_call (fun _ => (h156)) (by rfl) (by intro h; simp only [h]; rfl) (by rfl) (by rfl) ?_ | (with_reducible intro h; try simp only [h]) | (with_reducible refine And.intro ?_ ?_) | (change chk _ _ = true; rfl) | simp only [go_sem, seval, Vc_bool, d1, d2, d3] | refine (GX_split rfl).2 ?_
          exact Rt_pure (by rfl) (by rfl)
theorem c48_ok {s : Station} {p : Packet} (hB : StBd s) (hb : (s.q.pk.length + 1) * 56 ≤ 140737488355328) : ACalls prog 48 [.agg s.enc, .agg p.enc] [] (.tup [.agg (putE s p).1.enc, .sl 6 ((putE s p).2.1.map Packet.enc), .int .i64 (putE s p).2.2]) [] := by
  have h23 := c23_ok (s := s) hB
  have h157 := c157_ok (q := s.q) (p := p) hb
  obtain ⟨hql, hol⟩ := qPut_len s.q p
  refine calls_of hmx func48 (by kernel_rfl) (c := f48.body.getD .skip) rfl e48 (rs := [(.cell 4 true 14), (.t 5), (.t 6)]) (by kernel_rfl) (by simp [ntmps48]) ?_
  simp only [c48, argS]
  cases h0 : stOk s with
  | false =>
    have e : putE s p = (Station.zero, [], 1) := by simp [putE, h0]
    have e1 : stErr s = 1 := by simp [stErr, h0]
    rw [e]
    rw [e1] at h23
    repeat' first | refine CX_pure (h23) rfl rfl rfl rfl ?_ | refine GX_call (fun _ => (h23)) (by rfl) (by intro h; simp only [h]; rfl) (by rfl) (by rfl) ?_ | (with_reducible intro h; try simp only [h]) | (with_reducible refine And.intro ?_ ?_) | (change chk _ _ = true; rfl) | simp only [go_sem, seval, Vc_bool] | refine (GX_split rfl).2 ?_
    refine Rt.gs (Gs_tell (s' := [(4, .ptr 2 0 0 0), (5, .sl 6 []), (6, .int .i64 1)]) (H' := [.dead, .dead, .cells 0 14 31 true [Station.zero.enc]]) ?_ ?_) (Rt_pure ?_ rfl)
    · repeat' (first | exact FzL.nil | refine FzL.cons ?_ ?_ | exact Fz.wk (Wk.refl _) | exact Fz.wk (Wk.nil _) | exact Fz.wk (Wk.emp _) | exact Fz.row0 _ _ _ _ | exact FzH.nil _ | exact FzO.refl _ | refine FzO.one ?_ | refine FzH.cons (by decide) ?_ ?_ | refine FzH.this rfl ?_ | exact FzO.dead (by simp) | (simp only [List.forall_mem_cons, List.not_mem_nil, false_implies, implies_true, and_true, go_sem, seval]) | refine And.intro ?_ ?_)
    · repeat' (first | exact FzL.nil | refine FzL.cons ?_ ?_ | exact Fz.wk (Wk.refl _) | exact Fz.wk (Wk.nil _) | exact Fz.wk (Wk.emp _) | exact Fz.row0 _ _ _ _ | exact FzH.nil _ | exact FzO.refl _ | refine FzO.one ?_ | refine FzH.cons (by decide) ?_ ?_ | refine FzH.this rfl ?_ | exact FzO.dead (by simp) | (simp only [List.forall_mem_cons, List.not_mem_nil, false_implies, implies_true, and_true, go_sem, seval]) | refine And.intro ?_ ?_)
    · rfl
  | true =>
    have e1 : stErr s = 0 := by simp [stErr, h0]
    rw [e1] at h23
    have e : putE s p = if (qPutE s.q p).2.2 ≠ 0 then (Station.zero, [], (qPutE s.q p).2.2) else if p.to = s.tab.node then (Station.zero, [], 12) else if 100 < (p.data.size : Int) then (Station.zero, [], 8) else (Sp.settle { s with q := (qPutE s.q p).1 }, (qPutE s.q p).2.1, 0) := by
      have hs := settle_eq h0 (qPutE s.q p).1 s.held
      simp only [putE, h0]
      rw [← hs]; simp
    rw [e]
    generalize qPutE s.q p = x at *
    obtain ⟨⟨ql, qp⟩, out, er⟩ := x
    have h158 := c158_pf { s with q := ⟨ql, qp⟩ } (by show qp.length < 2 ^ 62; have : qp.length ≤ s.q.pk.length + 1 := hql; omega)
    simp only at h157 ⊢
    cases d1 : decide (er = 0) with
    | false =>
      rw [if_pos (of_decide_eq_false d1)]
      repeat' first | refine CX_pure (h23) rfl rfl rfl rfl ?_ | refine CX_pure (h157) rfl rfl rfl rfl ?_ | refine GX_call (fun _ => (h23)) (by rfl) (by intro h; simp only [h]; rfl) (by rfl) (by rfl) ?_ | refine GX_call (fun _ => (h157)) (by rfl) (by intro h; simp only [h]; rfl) (by rfl) (by rfl) ?_ | (with_reducible intro h; try simp only [h]) | (with_reducible refine And.intro ?_ ?_) | (change chk _ _ = true; rfl) | simp only [go_sem, seval, Vc_bool, d1] | refine (GX_split rfl).2 ?_
      refine Rt.gs (Gs_tell (s' := [(4, .ptr 2 0 0 0), (5, .sl 6 []), (6, .int .i64 er)]) (H' := [.dead, .dead, .cells 0 14 31 true [Station.zero.enc], .dead]) ?_ ?_) (Rt_pure ?_ rfl)
      · repeat' (first | exact FzL.nil | refine FzL.cons ?_ ?_ | exact Fz.wk (Wk.refl _) | exact Fz.wk (Wk.nil _) | exact Fz.wk (Wk.emp _) | exact Fz.row0 _ _ _ _ | exact FzH.nil _ | exact FzO.refl _ | refine FzO.one ?_ | refine FzH.cons (by decide) ?_ ?_ | refine FzH.this rfl ?_ | exact FzO.dead (by simp) | (simp only [List.forall_mem_cons, List.not_mem_nil, false_implies, implies_true, and_true, go_sem, seval]) | refine And.intro ?_ ?_)
      · repeat' (first | exact FzL.nil | refine FzL.cons ?_ ?_ | exact Fz.wk (Wk.refl _) | exact Fz.wk (Wk.nil _) | exact Fz.wk (Wk.emp _) | exact Fz.row0 _ _ _ _ | exact FzH.nil _ | exact FzO.refl _ | refine FzO.one ?_ | refine FzH.cons (by decide) ?_ ?_ | refine FzH.this rfl ?_ | exact FzO.dead (by simp) | (simp only [List.forall_mem_cons, List.not_mem_nil, false_implies, implies_true, and_true, go_sem, seval]) | refine And.intro ?_ ?_)
      · rfl
    | true =>
      rw [if_neg (by simpa using d1)]
      cases d2 : decide (p.to = s.tab.node) with
      | true =>
        rw [if_pos (of_decide_eq_true d2)]
        repeat' first | refine CX_pure (h23) rfl rfl rfl rfl ?_ | refine CX_pure (h157) rfl rfl rfl rfl ?_ | refine GX_call (fun _ => (h23)) (by rfl) (by intro h; simp only [h]; rfl) (by rfl) (by rfl) ?_ | refine GX_call (fun _ => (h157)) (by rfl) (by intro h; simp only [h]; rfl) (by rfl) (by rfl) ?_ | (with_reducible intro h; try simp only [h]) | (with_reducible refine And.intro ?_ ?_) | (change chk _ _ = true; rfl) | simp only [go_sem, seval, Vc_bool, d1, d2] | refine (GX_split rfl).2 ?_
        refine Rt.gs (Gs_tell (s' := [(4, .ptr 2 0 0 0), (5, .sl 6 []), (6, .int .i64 12)]) (H' := [.dead, .dead, .cells 0 14 31 true [Station.zero.enc], .dead]) ?_ ?_) (Rt_pure ?_ rfl)
        · repeat' (first | exact FzL.nil | refine FzL.cons ?_ ?_ | exact Fz.wk (Wk.refl _) | exact Fz.wk (Wk.nil _) | exact Fz.wk (Wk.emp _) | exact Fz.row0 _ _ _ _ | exact FzH.nil _ | exact FzO.refl _ | refine FzO.one ?_ | refine FzH.cons (by decide) ?_ ?_ | refine FzH.this rfl ?_ | exact FzO.dead (by simp) | (simp only [List.forall_mem_cons, List.not_mem_nil, false_implies, implies_true, and_true, go_sem, seval]) | refine And.intro ?_ ?_)
        · repeat' (first | exact FzL.nil | refine FzL.cons ?_ ?_ | exact Fz.wk (Wk.refl _) | exact Fz.wk (Wk.nil _) | exact Fz.wk (Wk.emp _) | exact Fz.row0 _ _ _ _ | exact FzH.nil _ | exact FzO.refl _ | refine FzO.one ?_ | refine FzH.cons (by decide) ?_ ?_ | refine FzH.this rfl ?_ | exact FzO.dead (by simp) | (simp only [List.forall_mem_cons, List.not_mem_nil, false_implies, implies_true, and_true, go_sem, seval]) | refine And.intro ?_ ?_)
        · rfl
      | false =>
        rw [if_neg (of_decide_eq_false d2)]
        cases d3 : decide (100 < (p.data.size : Int)) with
        | true =>
          rw [if_pos (of_decide_eq_true d3)]
          repeat' first | refine CX_pure (h23) rfl rfl rfl rfl ?_ | refine CX_pure (h157) rfl rfl rfl rfl ?_ | refine GX_call (fun _ => (h23)) (by rfl) (by intro h; simp only [h]; rfl) (by rfl) (by rfl) ?_ | refine GX_call (fun _ => (h157)) (by rfl) (by intro h; simp only [h]; rfl) (by rfl) (by rfl) ?_ | (with_reducible intro h; try simp only [h]) | (with_reducible refine And.intro ?_ ?_) | (change chk _ _ = true; rfl) | simp only [go_sem, seval, Vc_bool, d1, d2, d3] | refine (GX_split rfl).2 ?_
          refine Rt.gs (Gs_tell (s' := [(4, .ptr 2 0 0 0), (5, .sl 6 []), (6, .int .i64 8)]) (H' := [.dead, .dead, .cells 0 14 31 true [Station.zero.enc], .dead]) ?_ ?_) (Rt_pure ?_ rfl)
          · repeat' (first | exact FzL.nil | refine FzL.cons ?_ ?_ | exact Fz.wk (Wk.refl _) | exact Fz.wk (Wk.nil _) | exact Fz.wk (Wk.emp _) | exact Fz.row0 _ _ _ _ | exact FzH.nil _ | exact FzO.refl _ | refine FzO.one ?_ | refine FzH.cons (by decide) ?_ ?_ | refine FzH.this rfl ?_ | exact FzO.dead (by simp) | (simp only [List.forall_mem_cons, List.not_mem_nil, false_implies, implies_true, and_true, go_sem, seval]) | refine And.intro ?_ ?_)
          · repeat' (first | exact FzL.nil | refine FzL.cons ?_ ?_ | exact Fz.wk (Wk.refl _) | exact Fz.wk (Wk.nil _) | exact Fz.wk (Wk.emp _) | exact Fz.row0 _ _ _ _ | exact FzH.nil _ | exact FzO.refl _ | refine FzO.one ?_ | refine FzH.cons (by decide) ?_ ?_ | refine FzH.this rfl ?_ | exact FzO.dead (by simp) | (simp only [List.forall_mem_cons, List.not_mem_nil, false_implies, implies_true, and_true, go_sem, seval]) | refine And.intro ?_ ?_)
          · rfl
        | false =>
          rw [if_neg (of_decide_eq_false d3)]
          repeat' first | refine CX_pure (h23) rfl rfl rfl rfl ?_ | refine CX_pure (h157) rfl rfl rfl rfl ?_ | refine CX_pure (h158) rfl rfl rfl rfl ?_ | refine GX_call (fun _ => (h23)) (by rfl) (by intro h; simp only [h]; rfl) (by rfl) (by rfl) ?_ | refine GX_call (fun _ => (h157)) (by rfl) (by intro h; simp only [h]; rfl) (by rfl) (by rfl) ?_ | refine GX_call (fun _ => (h158)) (by rfl) (by intro h; simp only [h]; rfl) (by rfl) (by rfl) ?_ | (with_reducible intro h; try simp only [h]) | (with_reducible refine And.intro ?_ ?_) | (change chk _ _ = true; rfl) | simp only [go_sem, seval, Vc_bool, d1, d2, d3] | refine (GX_split rfl).2 ?_
          exact Rt_pure (by rfl) (by rfl)

def c150 : SC := (.seq (.reg [(.box 2 100 (.t 0)), (.box 3 100 (.t 1)), (.mv 4 (.c (.int .i64 0)))]) (.seq (.reg [(.fa 5 (.t 2) 0), (.ld 6 (.t 5) false 1), (.fa 7 (.t 3) 0), (.ld 8 (.t 7) false 1), (.call (some 9) (.c (.func 151 [] [])) [(.t 6), (.t 8)]), (.mv 4 (.t 9))]) .ret))
theorem e150 : compC prog f150.ntmps (f150.body.getD .skip) = c150 := by kernel_rfl
def c149L1 : SC := (.seq (.seq (.reg [(.mv 15 (.t 9)), (.mv 16 (.t 10)), (.bin 17 .lss (.t 15) (.t 16))]) (.cond (.t 17) .skip (.exit 0))) (.block 1 (.seq (.reg [(.mv 18 (.t 9)), (.mv 19 (.t 10)), (.bin 20 .add (.t 18) (.t 19)), (.conv 21 .u64 (.t 20)), (.bin 22 .shr (.t 21) (.c (.int .u64 1))), (.conv 23 .i64 (.t 22)), (.mv 11 (.t 23))]) (.seq (.regD [(.mv 24 (.t 2)), (.mv 25 (.t 0)), (.mv 26 (.t 11)), (.ia 27 (.t 25) (.t 26) 5), (.ld 28 (.t 27) true 5), (.ld 29 (.t 4) true 5), (.call (some 30) (.t 24) [(.t 28), (.t 29)]), (.bin 31 .lss (.t 30) (.c (.int .i64 0)))] []) (.cond (.t 31) (.reg [(.mv 32 (.t 11)), (.bin 33 .add (.t 32) (.c (.int .i64 1))), (.mv 9 (.t 33))]) (.reg [(.mv 34 (.t 11)), (.mv 10 (.t 34))]))))))
def c149 : SC := (.seq (.reg [(.box 4 100 (.t 1)), (.mv 6 (.c (.int .i64 0))), (.mv 7 (.c (.bool false)))]) (.seq (.reg [(.mv 12 (.t 0)), (.len 13 false (.t 12)), (.mv 8 (.t 13))]) (.seq (.reg [(.mv 14 (.t 8)), (.mv 9 (.c (.int .i64 0))), (.mv 10 (.t 14))]) (.seq (.block 0 (.loop c149L1)) (.seq (.regD [(.mv 35 (.t 9)), (.mv 36 (.t 9)), (.mv 37 (.t 8)), (.bin 38 .lss (.t 36) (.t 37)), (.mv 39 (.t 38)), (.g 39 true (some 40) (.mv 40 (.t 2))), (.g 39 true (some 41) (.mv 41 (.t 0))), (.g 39 true (some 42) (.mv 42 (.t 9))), (.g 39 true (some 43) (.ia 43 (.t 41) (.t 42) 5)), (.g 39 true (some 44) (.ld 44 (.t 43) true 5)), (.g 39 true (some 45) (.ld 45 (.t 4) true 5)), (.g 39 true (some 46) (.call (some 46) (.t 40) [(.t 44), (.t 45)])), (.g 39 true (some 47) (.bin 47 .eql (.t 46) (.c (.int .i64 0)))), (.pick 48 (.t 39) (.t 47) (.c (.bool false))), (.mv 6 (.t 35)), (.mv 7 (.t 48))] []) .ret)))))
theorem e149 : compC prog f149.ntmps (f149.body.getD .skip) = c149 := by kernel_rfl
theorem c150_pf (a : Held) (b : Held)  : ACalls prog 150 [.agg [.int .i64 a.flow, .int .i64 a.frame, .int .i64 a.upto, .str a.data, .sl 1 (a.acked.map eI)], .agg [.int .i64 b.flow, .int .i64 b.frame, .int .i64 b.upto, .str b.data, .sl 1 (b.acked.map eI)]] [] (.int .i64 (cmp a.flow b.flow)) [] := by
  refine calls_of hmx func150 (by kernel_rfl) (c := f150.body.getD .skip) rfl e150 (rs := [(.t 4)]) (by kernel_rfl) (by simp [ntmps150]) ?_
  simp only [c150, argS]
  simp only [go_sem, seval]
  repeat' first | (refine Rt_pure ?_ rfl; simp only [retO, retO1, retOs, S, get_cons, Nat.reduceEqDiff, reduceIte, obj, getO_cons_zero, getO_cons_succ, List.getElem?_cons_zero, List.getElem?_cons_succ, List.drop_zero, List.drop_succ_cons, loadFrom_cell, loadFrom_agg, List.length_cons, List.length_nil, Nat.reduceAdd, Nat.reduceLeDiff, List.take_succ_cons, List.take_zero, List.take_nil]) | refine CX_pure c151_ok rfl rfl rfl rfl ?_ | refine GX_call (fun _ => c151_ok) (by rfl) (by intro h; simp only [h]; rfl) (by rfl) (by rfl) ?_ | (with_reducible intro h; try simp only [h]) | (with_reducible refine And.intro ?_ ?_) | (change chk _ _ = true; rfl) | simp only [go_sem, seval, Vc_bool] | refine (GX_split rfl).2 ?_
theorem c150_ok {a_flow : Int} {a_frame : Int} {a_upto : Int} {a_data : ByteArray} {a_acked : List Int} {b_flow : Int} {b_frame : Int} {b_upto : Int} {b_data : ByteArray} {b_acked : List Int}  : ACalls prog 150 [.agg [.int .i64 a_flow, .int .i64 a_frame, .int .i64 a_upto, .str a_data, .sl 1 (a_acked.map eI)], .agg [.int .i64 b_flow, .int .i64 b_frame, .int .i64 b_upto, .str b_data, .sl 1 (b_acked.map eI)]] [] (.int .i64 (cmp a_flow b_flow)) [] := c150_pf (⟨a_flow, a_frame, a_upto, a_data, a_acked⟩ : Held) (⟨b_flow, b_frame, b_upto, b_data, b_acked⟩ : Held) 

section
variable {xs : List Held} {t : Held}
theorem bs4_loop (hlen : xs.length < 2 ^ 62) (hs : ∀ i x, xs[i]? = some x → (cmp x.flow t.flow < 0 ↔ i < bsLo (fun y : Held => cmp y.flow t.flow) xs)) (rs : List RS) (r : AVal) (k' : List It)
    (hk : ∀ s, get s 0 = .sl 5 (xs.map Held.enc) → get s 4 = .ptr 0 0 0 0 → get s 2 = .func 150 [] [] → get s 8 = .int .i64 xs.length → get s 9 = .int .i64 (bsLo (fun y : Held => cmp y.flow t.flow) xs) → V prog f149.ntmps 0 (Ret rs 0 r []) k' s [.cells 0 5 100 true [t.enc]]) : ∀ (m i j : Nat), j - i ≤ m → i ≤ bsLo (fun y : Held => cmp y.flow t.flow) xs → bsLo (fun y : Held => cmp y.flow t.flow) xs ≤ j → j ≤ xs.length →
    Lp prog f149.ntmps 0 (Ret rs 0 r []) c149L1 (.blk 0 :: k') [(0, .sl 5 (xs.map Held.enc)), (4, .ptr 0 0 0 0), (2, .func 150 [] []), (8, .int .i64 xs.length), (9, .int .i64 i), (10, .int .i64 j)] [.cells 0 5 100 true [t.enc]] := by
  intro m
  induction m with
  | zero =>
    intro i j h1 h2 h3 h4
    refine Lp.of_eq hmx c149L1.eq_1 ?_
    have e1 : decide ((i : Int) < (j : Int)) = false := by simp; omega
    simp only [go_sem, seval, e1]
    exact hk _ (by rfl) (by rfl) (by rfl) (by rfl) (by show AVal.int .i64 _ = _; congr 1; omega)
  | succ m ih =>
    intro i j h1 h2 h3 h4
    refine Lp.of_eq hmx c149L1.eq_1 ?_
    rcases Nat.lt_or_ge i j with hij | hij
    · have e1 : decide ((i : Int) < (j : Int)) = true := by simp; omega
      have e2 := mid_ok (i := i) (j := j) (by omega)
      have hm : (i + j) / 2 < xs.length := by omega
      have e3 : (xs.map Held.enc)[(i + j) / 2]? = some (Held.enc xs[(i + j) / 2]) := by rw [List.getElem?_map, List.getElem?_eq_getElem hm]; rfl
      have e4 : IntKind.i64.wrap (((i + j) / 2 : Nat) + (1 : Int)) = (((i + j) / 2 + 1 : Nat) : Int) := by rw [wrap_ok (by omega) (by omega)]; omega
      have hsx := hs ((i + j) / 2) _ (List.getElem?_eq_getElem hm)
      generalize xs[(i + j) / 2] = c at *
      repeat' first | refine CX_pure (c150_ok) rfl rfl rfl rfl ?_ | refine GX_call (fun _ => (c150_ok)) (by rfl) (by intro h; simp only [h]; rfl) (by rfl) (by rfl) ?_ | (with_reducible intro h; try simp only [h]) | (with_reducible refine And.intro ?_ ?_) | (change chk _ _ = true; rfl) | simp only [go_sem, seval, Vc_bool, e1, e2, e3, e4, Int.toNat_natCast, Int.natCast_nonneg] | refine (GX_split rfl).2 ?_
      · exact Lp.bk0 (ih ((i + j) / 2 + 1) j (by omega) (by have := of_decide_eq_true h; rw [hsx] at this; omega) h3 h4) (by rfl)
      · exact Lp.bk0 (ih i ((i + j) / 2) (by omega) h2 (by have := of_decide_eq_false h; rw [hsx] at this; omega) (by omega)) (by rfl)
    · have e1 : decide ((i : Int) < (j : Int)) = false := by simp; omega
      simp only [go_sem, seval, e1]
      exact hk _ (by rfl) (by rfl) (by rfl) (by rfl) (by show AVal.int .i64 _ = _; congr 1; omega)
end
theorem c149_ok {xs : List Held} {t : Held} (hlen : xs.length < 2 ^ 62) (hs : ∀ i x, xs[i]? = some x → (cmp x.flow t.flow < 0 ↔ i < bsLo (fun y : Held => cmp y.flow t.flow) xs)) :
    ACalls prog 149 [.sl 5 (xs.map Held.enc), .agg t.enc, .func 150 [] []] [] (.tup [.int .i64 (bsLo (fun y : Held => cmp y.flow t.flow) xs), .bool (heldHit xs t)]) [] := by
  have hht : heldHit xs t = bsHit (fun y : Held => cmp y.flow t.flow) xs := rfl
  rw [hht]
  refine calls_of hmx func149 (by kernel_rfl) (c := f149.body.getD .skip) rfl e149 (rs := [(.t 6), (.t 7)]) (by kernel_rfl) (by simp [ntmps149]) ?_
  simp only [c149, argS]
  simp only [go_sem, seval, List.length_map]
  refine Lp.bk0 (bs4_loop hlen hs _ _ _ (fun s z0 z1 z2 z8 z9 => ?_) xs.length 0 xs.length (by omega) (Nat.zero_le _) (bsLo_le _) (Nat.le_refl _)) (by rfl)
  have hle := bsLo_le (c := fun y : Held => cmp y.flow t.flow) xs
  rcases Nat.lt_or_ge (bsLo (fun y : Held => cmp y.flow t.flow) xs) xs.length with h | h
  · have e1 : decide (((bsLo (fun y : Held => cmp y.flow t.flow) xs : Nat) : Int) < (xs.length : Int)) = true := by simp; omega
    have e2 : (xs.map Held.enc)[bsLo (fun y : Held => cmp y.flow t.flow) xs]? = some (Held.enc xs[bsLo (fun y : Held => cmp y.flow t.flow) xs]) := by rw [List.getElem?_map, List.getElem?_eq_getElem h]; rfl
    have e3 : bsHit (fun y : Held => cmp y.flow t.flow) xs = decide (cmp xs[bsLo (fun y : Held => cmp y.flow t.flow) xs].flow t.flow = 0) := by rw [bsHit, List.getElem?_eq_getElem h]
    rw [e3]
    generalize xs[bsLo (fun y : Held => cmp y.flow t.flow) xs] = c at *
    repeat' first | (refine Rt_pure ?_ rfl; simp only [retO, retO1, retOs, S, get_cons, Nat.reduceEqDiff, reduceIte, obj, getO_cons_zero, getO_cons_succ, List.getElem?_cons_zero, List.getElem?_cons_succ, List.drop_zero, List.drop_succ_cons, loadFrom_cell, loadFrom_agg, List.length_cons, List.length_nil, Nat.reduceAdd, Nat.reduceLeDiff, List.take_succ_cons, List.take_zero, List.take_nil]) | refine CX_pure (c150_ok) rfl rfl rfl rfl ?_ | refine GX_call (fun _ => (c150_ok)) (by rfl) (by intro h; simp only [h]; rfl) (by rfl) (by rfl) ?_ | (with_reducible intro h; try simp only [h]) | (with_reducible refine And.intro ?_ ?_) | (change chk _ _ = true; rfl) | simp only [go_sem, seval, Vc_bool, z0, z1, z2, z8, z9, e1, e2, Int.toNat_natCast, Int.natCast_nonneg] | refine (GX_split rfl).2 ?_
  · have e1 : decide (((bsLo (fun y : Held => cmp y.flow t.flow) xs : Nat) : Int) < (xs.length : Int)) = false := by simp; omega
    have e3 : bsHit (fun y : Held => cmp y.flow t.flow) xs = false := by rw [bsHit, List.getElem?_eq_none h]
    rw [e3]
    simp only [go_sem, seval, z0, z1, z2, z8, z9, e1]
    (refine Rt_pure ?_ rfl; simp only [retO, retO1, retOs, S, get_cons, Nat.reduceEqDiff, reduceIte, obj, getO_cons_zero, getO_cons_succ, List.getElem?_cons_zero, List.getElem?_cons_succ, List.drop_zero, List.drop_succ_cons, loadFrom_cell, loadFrom_agg, List.length_cons, List.length_nil, Nat.reduceAdd, Nat.reduceLeDiff, List.take_succ_cons, List.take_zero, List.take_nil])
theorem e154 : compC prog f154.ntmps (f154.body.getD .skip) = cIns 100 5 64 [(.int .i64 0), (.int .i64 0), (.int .i64 0), (.str (ByteArray.mk #[])), .nil] 263 264 := by kernel_rfl
theorem ov263 {qA qB oB lB : Nat} {fa fb : Bool} {v : List AVal} {es : List (List AVal)} (h : 1 ≤ lB) : ACalls prog 263 [.row 0 qA 0 1, .row 1 qB oB lB] [.cells qA 5 100 fa [v], .cells qB 5 100 fb es] (.bool false) [.cells qA 5 100 fa [v], .cells qB 5 100 fb es] :=
  overlaps_ok (tS := 28) (tR := 4) (e := 100) func263 (by kernel_rfl) (by kernel_rfl) (by kernel_rfl) (by kernel_rfl) (by kernel_rfl) (fun w => by rfl) h
theorem c154_ok {xs : List Held} {v : Held} {i q : Nat} {fv : Bool} (hi : i ≤ xs.length) (hb : (xs.length + 1) * 64 ≤ 140737488355328) : ACalls prog 154 [.row 0 q 0 xs.length, .int .i64 i, .row 1 0 0 1] [.cells q 5 100 false (xs.map Held.enc), .cells 0 5 100 fv [Held.enc v]] (.sl 5 ((xs.take i ++ v :: xs.drop i).map Held.enc)) [.dead, .cells 0 5 100 fv [Held.enc v]] := by
  refine calls_of hmx func154 (by kernel_rfl) (c := f154.body.getD .skip) rfl e154 (rs := [.t 6]) (by kernel_rfl) (show (3:Nat) ≤ 95 by decide) ?_
  have h := ins_V (t := 100) (k := 5) (bytes := 64) (zs := [(.int .i64 0), (.int .i64 0), (.int .i64 0), (.str (ByteArray.mk #[])), .nil]) (fo := 263) (fr := 264) (q := q) (i := i) (v := Held.enc v) (fv := fv) (xs := xs.map Held.enc) (by decide) rfl rfl (cloE_map fun _ => by rfl) (cloE_map (f := Held.enc) (xs := [v]) fun _ => by rfl) (by simpa using hb) (by rw [List.length_map]; omega) (by simpa using hi) ov263
  rw [List.length_map] at h
  rw [List.map_append, List.map_take, List.map_cons, List.map_drop]
  exact h
theorem lt_held {l : List Held} {m q : Nat} {fu : Bool} : ltO m (.cells q 5 100 fu (l.map Held.enc)) = true := ltO_mono (Nat.zero_le m) (lt_map fun _ => by rfl)
theorem ren_held {l : List Held} {r : Nat → Nat} {q : Nat} {fu : Bool} : renO r (.cells q 5 100 fu (l.map Held.enc)) = .cells q 5 100 fu (l.map Held.enc) := renO_lt (m := 0) (fun id h => by omega) lt_held
/-- Clone, of which the held messages are wanted for writing. -/
theorem c152k_ok {s : Station} (hB : ClBd s) : ACalls prog 152 [.agg s.enc] [] (.agg (Station.encH s 0 s.held.length)) [.cells 1 5 100 false (s.held.map Held.enc)] := by
  obtain ⟨b1, b2, b3, b4, b5⟩ := hB
  refine calls_of hmx func152 (by kernel_rfl) (c := f152.body.getD .skip) rfl e152 (rs := [(.cell 2 true 14)]) (by kernel_rfl) (by simp [ntmps152]) ?_
  simp only [c152, argS]
  simp only [go_sem, seval]
  repeat' first | refine CX_pure (c82_ok b1) rfl rfl rfl rfl ?_ | refine GX_call (fun _ => (c82_ok b1)) (by rfl) (by intro h; simp only [h]; rfl) (by rfl) (by rfl) ?_ | (with_reducible intro h; try simp only [h]) | (with_reducible refine And.intro ?_ ?_) | (change chk _ _ = true; rfl) | simp only [go_sem, seval, Vc_bool] | refine (GX_split rfl).2 ?_
  repeat' first | refine CX_pure (c260_ok b2) rfl rfl rfl rfl ?_ | refine GX_call (fun _ => (c260_ok b2)) (by rfl) (by intro h; simp only [h]; rfl) (by rfl) (by rfl) ?_ | (with_reducible intro h; try simp only [h]) | (with_reducible refine And.intro ?_ ?_) | (change chk _ _ = true; rfl) | simp only [go_sem, seval, Vc_bool] | refine (GX_split rfl).2 ?_
  repeat' first | (with_reducible intro h; try simp only [h]) | (with_reducible refine And.intro ?_ ?_) | (change chk _ _ = true; rfl) | simp only [go_sem, seval, Vc_bool] | refine (GX_split rfl).2 ?_
  refine CX_new (r1 := .row 2 1 0 s.held.length) (c261w_ok b3) rfl rfl rfl (by rw [List.all_cons, List.all_nil, Bool.and_true]; exact lt_held) (by rfl) ?_
  repeat' first | (with_reducible intro h; try simp only [h]) | (with_reducible refine And.intro ?_ ?_) | (change chk _ _ = true; rfl) | simp only [go_sem, seval, Vc_bool] | refine (GX_split rfl).2 ?_
  repeat' first | refine CX_pure (c262_ok b4) rfl rfl rfl rfl ?_ | refine GX_call (fun _ => (c262_ok b4)) (by rfl) (by intro h; simp only [h]; rfl) (by rfl) (by rfl) ?_ | (with_reducible intro h; try simp only [h]) | (with_reducible refine And.intro ?_ ?_) | (change chk _ _ = true; rfl) | simp only [go_sem, seval, Vc_bool] | refine (GX_split rfl).2 ?_
  refine Lp.bkE0 (l152 s (by omega) b5 _ _ _ (fun zs z1 z2 => ?_) s.held [] rfl) (by rfl) rfl
  simp only [go_sem, seval, z1, z2, zSt, Station.encH]
  refine Rt_sel [2] (r0 := .agg (Station.encH s 2 s.held.length)) ?_ (by rfl) (by rfl) ?_ (by rfl) (by decide) ?_ (Nat.zero_le _) (by rfl)
  · simp only [retO, retO1, S, get_cons, Nat.reduceEqDiff, reduceIte, z2]; rfl
  · rw [List.all_cons, List.all_nil, Bool.and_true]; exact lt_held
  · rw [List.map_cons, List.map_nil, List.map_cons, List.map_nil, ren_held]; rfl

end Go.Av.T
