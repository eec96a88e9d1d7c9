/- The seat: part Ch13. -/
import Derived.Test.YtmhchaedhmnofaaGreatCh12
import Derived.KernelRfl
import Derived.Test.YtmhchaedhmnofaaGreatCh7
import Derived.Test.YtmhchaedhmnofaaGreatCh10
set_option maxRecDepth 100000
set_option maxHeartbeats 1000000
set_option linter.unusedSimpArgs false
set_option linter.unusedVariables false
namespace Go.Av.T
open Go Go.Av Go.Av.Sp Go.Proofs.Tryz
def c162L1 : SC := (.seq (.seq (.reg [(.mv 17 (.t 8)), (.fa 18 (.t 2) 1), (.ld 19 (.t 18) false 1), (.len 20 false (.t 19)), (.bin 21 .lss (.t 17) (.t 20))]) (.cond (.t 21) .skip (.exit 0))) (.seq (.block 1 (.seq (.reg [(.fa 24 (.t 2) 1), (.ld 25 (.t 24) false 1), (.mv 26 (.t 8)), (.ia 27 (.t 25) (.t 26) 6), (.ld 28 (.t 27) true 6), (.alc 9 104 [(.int .i64 0), (.int .i64 0), (.int .i64 0), (.int .i64 0), (.int .i64 0), (.str (ByteArray.mk #[]))]), (.st (.t 9) (.t 28) 6)]) (.seq (.reg [(.mv 29 (.t 1)), (.bin 30 .geq (.t 29) (.c (.int .i64 0))), (.mv 31 (.t 30)), (.g 31 true (some 32) (.mv 32 (.t 1))), (.g 31 true (some 33) (.fa 33 (.t 9) 3)), (.g 31 true (some 34) (.ld 34 (.t 33) false 1)), (.g 31 true (some 35) (.bin 35 .sub (.t 32) (.t 34))), (.g 31 true (some 36) (.fa 36 (.t 9) 4)), (.g 31 true (some 37) (.ld 37 (.t 36) false 1)), (.g 31 true (some 38) (.bin 38 .geq (.t 35) (.t 37))), (.pick 39 (.t 31) (.t 38) (.c (.bool false)))]) (.cond (.t 39) (.reg [(.mv 40 (.t 7)), (.ld 41 (.t 9) true 6), (.bsl 42 104 6 [(.int .i64 0), (.int .i64 0), (.int .i64 0), (.int .i64 0), (.int .i64 0), (.str (ByteArray.mk #[]))] 1 [(0, (.t 41))]), (.app 43 104 6 56 (.t 40) (.t 42)), (.mv 7 (.t 43))]) (.reg [(.fa 44 (.t 6) 1), (.ld 45 (.t 44) false 1), (.ld 46 (.t 9) true 6), (.bsl 47 104 6 [(.int .i64 0), (.int .i64 0), (.int .i64 0), (.int .i64 0), (.int .i64 0), (.str (ByteArray.mk #[]))] 1 [(0, (.t 46))]), (.app 48 104 6 56 (.t 45) (.t 47)), (.fa 49 (.t 6) 1), (.st (.t 49) (.t 48) 1)]))))) (.reg [(.mv 22 (.t 8)), (.bin 23 .add (.t 22) (.c (.int .i64 1))), (.mv 8 (.t 23))])))
def c162 : SC := (.seq (.reg [(.box 2 27 (.t 0)), (.alc 4 27 [(.int .i64 0), .nil]), (.mv 5 (.c .nil))]) (.seq (.seq (.reg [(.ld 10 (.t 2) true 2), (.call (some 11) (.c (.func 88 [] [])) [(.t 10)]), (.bin 12 .neq (.t 11) (.c (.int .i64 0)))]) (.cond (.t 12) (.seq (.reg [(.ld 13 (.t 2) true 2), (.st (.t 4) (.t 13) 2), (.mv 5 (.c .nil))]) .ret) .skip)) (.seq (.reg [(.fa 14 (.t 2) 0), (.ld 15 (.t 14) false 1), (.bld 16 [(.int .i64 0), .nil] [(0, 1, (.t 15))]), (.alc 6 27 [(.int .i64 0), .nil]), (.st (.t 6) (.t 16) 2)]) (.seq (.reg [(.mv 7 (.c .nil))]) (.seq (.seq (.reg [(.mv 8 (.c (.int .i64 0)))]) (.block 0 (.loop c162L1))) (.seq (.reg [(.ld 50 (.t 6) true 2), (.mv 51 (.t 7)), (.st (.t 4) (.t 50) 2), (.mv 5 (.t 51))]) .ret))))))
theorem e162 : compC prog f162.ntmps (f162.body.getD .skip) = c162 := by kernel_rfl
def c51L1 : SC := (.seq (.seq (.reg [(.mv 32 (.t 12)), (.fa 33 (.t 2) 5), (.ld 34 (.t 33) false 1), (.len 35 false (.t 34)), (.bin 36 .lss (.t 32) (.t 35))]) (.cond (.t 36) .skip (.exit 0))) (.seq (.block 1 (.seq (.reg [(.fa 39 (.t 2) 5), (.ld 40 (.t 39) false 1), (.mv 41 (.t 12)), (.ia 42 (.t 40) (.t 41) 5), (.fa 43 (.t 42) 2), (.ld 44 (.t 43) false 1), (.mv 45 (.t 1)), (.bin 46 .geq (.t 44) (.t 45))]) (.cond (.t 46) (.reg [(.mv 47 (.t 11)), (.fa 48 (.t 2) 5), (.ld 49 (.t 48) false 1), (.mv 50 (.t 12)), (.ia 51 (.t 49) (.t 50) 5), (.ld 52 (.t 51) true 5), (.bsl 53 100 5 [(.int .i64 0), (.int .i64 0), (.int .i64 0), (.str (ByteArray.mk #[])), .nil] 1 [(0, (.t 52))]), (.app 54 100 5 64 (.t 47) (.t 53)), (.mv 11 (.t 54))]) .skip))) (.reg [(.mv 37 (.t 12)), (.bin 38 .add (.t 37) (.c (.int .i64 1))), (.mv 12 (.t 38))])))
def c51 : SC := (.seq (.reg [(.box 2 31 (.t 0)), (.alc 4 31 [(.int .i64 0), (.int .i64 0), .nil, (.int .i64 0), .nil, .nil, .nil, (.int .i64 0), (.int .i64 0), (.int .i64 0), (.int .i64 0), (.int .i64 0), (.int .i64 0), (.int .i64 0)]), (.mv 5 (.c .nil)), (.mv 6 (.c (.int .i64 0)))]) (.seq (.seq (.reg [(.ld 14 (.t 2) true 14), (.mv 15 (.t 1)), (.call (some 16) (.c (.func 26 [] [])) [(.t 14), (.t 15)]), (.mv 13 (.t 16)), (.ext 17 (.t 13) 0), (.ext 18 (.t 13) 1), (.alc 7 43 [(.int .i64 0), (.int .i64 0), (.int .i64 0), (.int .i64 0), (.int .i64 0), (.int .i64 0), (.int .i64 0), (.int .i64 0), (.int .i64 0), (.int .i64 0), (.int .i64 0), (.int .i64 0), (.int .i64 0), (.str (ByteArray.mk #[]))]), (.st (.t 7) (.t 17) 14), (.mv 8 (.t 18))]) (.seq (.reg [(.mv 19 (.t 8)), (.bin 20 .neq (.t 19) (.c (.int .i64 0)))]) (.cond (.t 20) (.seq (.reg [(.bld 21 [(.int .i64 0), (.int .i64 0), .nil, (.int .i64 0), .nil, .nil, .nil, (.int .i64 0), (.int .i64 0), (.int .i64 0), (.int .i64 0), (.int .i64 0), (.int .i64 0), (.int .i64 0)] []), (.mv 22 (.t 8)), (.st (.t 4) (.t 21) 14), (.mv 5 (.c .nil)), (.mv 6 (.t 22))]) .ret) .skip))) (.seq (.reg [(.fa 24 (.t 2) 3), (.ld 25 (.t 24) true 2), (.mv 26 (.t 1)), (.call (some 27) (.c (.func 162 [] [])) [(.t 25), (.t 26)]), (.mv 23 (.t 27)), (.ext 28 (.t 23) 0), (.ext 29 (.t 23) 1), (.alc 9 27 [(.int .i64 0), .nil]), (.st (.t 9) (.t 28) 2), (.mv 10 (.t 29))]) (.seq (.reg [(.ld 30 (.t 9) true 2), (.fa 31 (.t 2) 3), (.st (.t 31) (.t 30) 2)]) (.seq (.reg [(.mv 11 (.c .nil))]) (.seq (.seq (.reg [(.mv 12 (.c (.int .i64 0)))]) (.block 0 (.loop c51L1))) (.seq (.reg [(.mv 55 (.t 11)), (.fa 56 (.t 2) 5), (.st (.t 56) (.t 55) 1)]) (.seq (.reg [(.ld 57 (.t 2) true 14), (.call (some 58) (.c (.func 158 [] [])) [(.t 57)]), (.mv 59 (.t 10)), (.st (.t 4) (.t 58) 14), (.mv 5 (.t 59)), (.mv 6 (.c (.int .i64 0)))]) .ret))))))))
theorem e51 : compC prog f51.ntmps (f51.body.getD .skip) = c51 := by kernel_rfl
def hExp (q : Queue) (st1 st2 : Nat) (k g : List Packet) : Heap := [.cells 0 2 27 true [q.enc], .cells 0 2 27 true [[.int .i64 0, .nil]], .cells 0 2 27 true [[.int .i64 q.limit, .row 3 st1 0 k.length]], .cells st1 6 104 false (k.map Packet.enc), .cells st2 6 104 false (g.map Packet.enc)]
theorem l162 (q : Queue) (slot : Int) (hB : ∀ x ∈ q.pk, 0 ≤ x.born ∧ x.born ≤ 1099511627776) (h0 : 0 ≤ slot) (hs : slot ≤ 9223372036854775807) (hL : q.pk.length ≤ 64) (k' : List It)
    (hk : ∀ zs (st1 st2 : Nat) (k g : List Packet), get zs 4 = .ptr 1 0 0 0 → get zs 6 = .ptr 2 0 0 0 → get zs 7 = .row 4 st2 0 g.length → V prog f162.ntmps 0 (Ret [.cell 4 true 2, .t 5] 0 (.tup [.agg (Queue.enc ⟨q.limit, k⟩), .sl 6 (g.map Packet.enc)]) []) k' zs (hExp q st1 st2 k g)) :
    ∀ (rest done k g : List Packet) (st1 st2 : Nat), q.pk = done ++ rest → k.length ≤ done.length → g.length ≤ done.length →
    Lp prog f162.ntmps 0 (Ret [.cell 4 true 2, .t 5] 0 (.tup [.agg (Queue.enc ⟨q.limit, k ++ rest.filter fun p => !stale p slot⟩), .sl 6 ((g ++ rest.filter fun p => stale p slot).map Packet.enc)]) []) c162L1 (.blk 0 :: k') [(2, .ptr 0 0 0 0), (4, .ptr 1 0 0 0), (6, .ptr 2 0 0 0), (1, .int .i64 slot), (7, .row 4 st2 0 g.length), (8, .int .i64 done.length)] (hExp q st1 st2 k g) := by
  have d0 : decide (0 ≤ slot) = true := by simpa using h0
  intro rest
  induction rest with
  | nil =>
    intro done k g st1 st2 hd h5 h6
    refine Lp.of_eq hmx c162L1.eq_1 ?_
    have h1 := rg_end hd
    simp only [List.filter_nil, List.append_nil]
    simp only [go_sem, seval, h1, hExp, List.length_map]
    exact hk _ st1 st2 k g (by rfl) (by rfl) (by rfl)
  | cons c rest ih =>
    intro done k g st1 st2 hd h5 h6
    refine Lp.of_eq hmx c162L1.eq_1 ?_
    obtain ⟨h1, h2, h3, h4⟩ := rg_hd Packet.enc hd (by omega)
    have hlen : done.length + 1 ≤ q.pk.length := by rw [hd]; simp
    have hb := hB c (by rw [hd]; simp)
    have w : IntKind.i64.wrap (slot - c.born) = slot - c.born := wrap_ok (by omega) (by omega)
    cases hc : decide (c.life ≤ slot - c.born) with
    | true =>
      have e : stale c slot = true := by simp [stale, d0, hc]
      have ih' := ih (done ++ [c]) k (g ++ [c]) st1 (st2 + 1) h4 (by simp; omega) (by simp; omega)
      rw [show k ++ (c :: rest).filter (fun p => !stale p slot) = k ++ rest.filter fun p => !stale p slot by simp [e], show g ++ (c :: rest).filter (fun p => stale p slot) = g ++ [c] ++ rest.filter fun p => stale p slot by simp [e]]
      simp only [hExp, show (g ++ [c]).map Packet.enc = g.map Packet.enc ++ [c.enc] by simp, show (g ++ [c]).length = g.length + 1 by simp] at ih'
      repeat' first | (with_reducible intro h; try simp only [h]) | (with_reducible refine And.intro ?_ ?_) | (change chk _ _ = true; rfl) | simp only [go_sem, seval, Vc_bool, h1, h2, h3, hc, d0, w, hExp, List.length_map, Nat.le_refl, Int.toNat_natCast, Int.natCast_nonneg] | refine (GX_split rfl).2 ?_
      · omega
      · refine Lp.bkE [_, _] ih' (by rfl) (by rfl) ?_ (Nat.zero_le _) rfl
        rw [List.all_cons, List.all_cons, List.all_cons, List.all_cons, List.all_cons, List.all_nil, Bool.and_true, pk_snoc, lt_pk]
        rfl
    | false =>
      have e : stale c slot = false := by simp [stale, hc]
      have ih' := ih (done ++ [c]) (k ++ [c]) g (st1 + 1) st2 h4 (by simp; omega) (by simp; omega)
      rw [show k ++ (c :: rest).filter (fun p => !stale p slot) = k ++ [c] ++ rest.filter fun p => !stale p slot by simp [e], show g ++ (c :: rest).filter (fun p => stale p slot) = g ++ rest.filter fun p => stale p slot by simp [e]]
      simp only [hExp, show (k ++ [c]).map Packet.enc = k.map Packet.enc ++ [c.enc] by simp, show (k ++ [c]).length = k.length + 1 by simp] at ih'
      repeat' first | (with_reducible intro h; try simp only [h]) | (with_reducible refine And.intro ?_ ?_) | (change chk _ _ = true; rfl) | simp only [go_sem, seval, Vc_bool, h1, h2, h3, hc, d0, w, hExp, List.length_map, Nat.le_refl, Int.toNat_natCast, Int.natCast_nonneg] | refine (GX_split rfl).2 ?_
      · omega
      · refine Lp.bkE [_, _] ih' (by rfl) (by rfl) ?_ (Nat.zero_le _) rfl
        rw [List.all_cons, List.all_cons, List.all_cons, List.all_cons, List.all_cons, List.all_nil, Bool.and_true, pk_snoc, lt_pk]
        rfl
theorem c162_ok {q : Queue} {slot : Int} (hq : qErr q = 0) (h0 : 0 ≤ slot) (hs : slot ≤ 9223372036854775807) : ACalls prog 162 [.agg q.enc, .int .i64 slot] [] (.tup [.agg (qExpE q slot).1.enc, .sl 6 ((qExpE q slot).2.map Packet.enc)]) [] := by
  obtain ⟨hB, hl⟩ := q_born hq
  have h88 := c88_ok (q_limit := q.limit) (q_pk := q.pk) (by omega)
  have e : qExpE q slot = (⟨q.limit, [] ++ q.pk.filter fun p => !stale p slot⟩, [] ++ q.pk.filter fun p => stale p slot) := by simp [qExpE, hq]
  rw [e]
  refine calls_of hmx func162 (by kernel_rfl) (c := f162.body.getD .skip) rfl e162 (rs := [(.cell 4 true 2), (.t 5)]) (by kernel_rfl) (by simp [ntmps162]) ?_
  simp only [c162, argS]
  repeat' first | refine CX_pure (h88) rfl rfl rfl rfl ?_ | refine GX_call (fun _ => (h88)) (by rfl) (by intro h; simp only [h]; rfl) (by rfl) (by rfl) ?_ | (with_reducible intro h; try simp only [h]) | (with_reducible refine And.intro ?_ ?_) | (change chk _ _ = true; rfl) | simp only [go_sem, seval, Vc_bool, hq] | refine (GX_split rfl).2 ?_
  refine Lp.gs (Gs_virtH 2 1 104 false (by decide : 0 < 6) (by rfl) (by rfl)) ?_
  refine Lp.gs (Gs_virt 7 104 false (by decide : 0 < 6) (by rfl)) ?_
  refine Lp.bkE0 (l162 q slot hB h0 hs hl _ (fun zs st1 st2 k g z4 z6 z7 => ?_) q.pk [] [] [] 1 1 rfl (Nat.le_refl _) (Nat.le_refl _)) (by rfl) rfl
  simp only [go_sem, seval, z4, z6, z7, hExp]
  refine Rt.gs (Gs_freeze 3 (s' := [(4, .ptr 1 0 0 0), (5, .row 4 st2 0 g.length)]) (H' := [.dead, .cells 0 2 27 true [Queue.enc ⟨q.limit, k⟩], .dead, .dead, .cells st2 6 104 false (g.map Packet.enc)]) rfl ?_ ?_) ?_
  · simp only [List.forall_mem_cons, List.not_mem_nil, false_implies, implies_true, and_true, go_sem, seval, z4, z7]
    exact ⟨.wk (.refl _), .wk (.refl _)⟩
  · repeat' (first | exact FzL.nil | refine FzL.cons ?_ ?_ | exact Fz.wk (Wk.refl _) | exact Fz.wk (Wk.nil _) | exact Fz.wk (Wk.emp _) | exact Fz.row0 _ _ _ _ | exact FzH.nil _ | exact FzO.refl _ | refine FzO.one ?_ | refine FzH.cons (by decide) ?_ ?_ | refine FzH.this rfl ?_ | exact FzO.dead (by simp) | (simp only [List.forall_mem_cons, List.not_mem_nil, false_implies, implies_true, and_true, go_sem, seval]) | refine And.intro ?_ ?_)
    all_goals first | exact Fz.wk (Wk.refl _) | exact Fz.row 0 _ (by rw [List.drop_zero]; exact List.take_of_length_le (by simp)) (cloE_map fun _ => by rfl)
  · refine Rt.gs (Gs_freeze 4 (s' := [(4, .ptr 1 0 0 0), (5, .sl 6 (g.map Packet.enc))]) (H' := [.dead, .cells 0 2 27 true [Queue.enc ⟨q.limit, k⟩], .dead, .dead, .dead]) rfl ?_ ?_) (Rt_pure (by rfl) (by rfl))
    · repeat' (first | exact FzL.nil | refine FzL.cons ?_ ?_ | exact Fz.wk (Wk.refl _) | exact Fz.wk (Wk.nil _) | exact Fz.wk (Wk.emp _) | exact Fz.row0 _ _ _ _ | exact FzH.nil _ | exact FzO.refl _ | refine FzO.one ?_ | refine FzH.cons (by decide) ?_ ?_ | refine FzH.this rfl ?_ | exact FzO.dead (by simp) | (simp only [List.forall_mem_cons, List.not_mem_nil, false_implies, implies_true, and_true, go_sem, seval]) | refine And.intro ?_ ?_)
      all_goals first | exact Fz.wk (Wk.refl _) | exact Fz.row 0 _ (by rw [List.drop_zero]; exact List.take_of_length_le (by simp)) (cloE_map fun _ => by rfl)
    · repeat' (first | exact FzL.nil | refine FzL.cons ?_ ?_ | exact Fz.wk (Wk.refl _) | exact Fz.wk (Wk.nil _) | exact Fz.wk (Wk.emp _) | exact Fz.row0 _ _ _ _ | exact FzH.nil _ | exact FzO.refl _ | refine FzO.one ?_ | refine FzH.cons (by decide) ?_ ?_ | refine FzH.this rfl ?_ | exact FzO.dead (by simp) | (simp only [List.forall_mem_cons, List.not_mem_nil, false_implies, implies_true, and_true, go_sem, seval]) | refine And.intro ?_ ?_)
theorem l51 (s : Station) (q : Queue) (A : Action) (gone : List (List AVal)) (slot : Int) (hL : s.held.length ≤ 16) (R : List Held → AVal) (k' : List It)
    (hk : ∀ zs (st : Nat) (k : List Held), get zs 2 = .ptr 0 0 0 0 → get zs 4 = .ptr 1 0 0 0 → get zs 10 = .sl 6 gone → get zs 11 = .row 4 st 0 k.length → V prog f51.ntmps 0 (Ret [.cell 4 true 14, .t 5, .t 6] 0 (R k) []) k' zs [.cells 0 14 31 true [Station.enc { s with q := q }], .cells 0 14 31 true [zSt], .cells 0 14 43 true [A.enc], .cells 0 2 27 true [q.enc], .cells st 5 100 false (k.map Held.enc)]) :
    ∀ (rest done k : List Held) (st : Nat), s.held = done ++ rest → k.length ≤ done.length →
    Lp prog f51.ntmps 0 (Ret [.cell 4 true 14, .t 5, .t 6] 0 (R (k ++ rest.filter fun h => !decide (h.upto < slot))) []) c51L1 (.blk 0 :: k') [(2, .ptr 0 0 0 0), (4, .ptr 1 0 0 0), (1, .int .i64 slot), (10, .sl 6 gone), (11, .row 4 st 0 k.length), (12, .int .i64 done.length)] [.cells 0 14 31 true [Station.enc { s with q := q }], .cells 0 14 31 true [zSt], .cells 0 14 43 true [A.enc], .cells 0 2 27 true [q.enc], .cells st 5 100 false (k.map Held.enc)] := by
  intro rest
  induction rest with
  | nil =>
    intro done k st hd h5
    refine Lp.of_eq hmx c51L1.eq_1 ?_
    have h1 := rg_end hd
    simp only [List.filter_nil, List.append_nil]
    simp only [go_sem, seval, h1, List.length_map]
    exact hk _ st k (by rfl) (by rfl) (by rfl) (by rfl)
  | cons c rest ih =>
    intro done k st hd h5
    refine Lp.of_eq hmx c51L1.eq_1 ?_
    obtain ⟨h1, h2, h3, h4⟩ := rg_hd Held.enc hd (by omega)
    have hlen : done.length + 1 ≤ s.held.length := by rw [hd]; simp
    cases hc : decide (slot ≤ c.upto) with
    | true =>
      have g : slot ≤ c.upto := of_decide_eq_true hc
      have ih' := ih (done ++ [c]) (k ++ [c]) (st + 1) h4 (by simp; omega)
      rw [show k ++ (c :: rest).filter (fun h => !decide (h.upto < slot)) = k ++ [c] ++ rest.filter fun h => !decide (h.upto < slot) by rw [List.filter_cons_of_pos (by simp; omega)]; simp]
      simp only [show (k ++ [c]).map Held.enc = k.map Held.enc ++ [c.enc] by simp, show (k ++ [c]).length = k.length + 1 by simp] at ih'
      repeat' first | (with_reducible intro h; try simp only [h]) | (with_reducible refine And.intro ?_ ?_) | (change chk _ _ = true; rfl) | simp only [go_sem, seval, Vc_bool, h1, h2, h3, hc, List.length_map, Nat.le_refl, Int.toNat_natCast, Int.natCast_nonneg] | refine (GX_split rfl).2 ?_
      · omega
      · refine Lp.bkE [_] ih' (by rfl) (by rfl) ?_ (Nat.zero_le _) rfl
        rw [List.all_cons, List.all_cons, List.all_cons, List.all_cons, List.all_cons, List.all_nil, Bool.and_true, held_snoc]
        rfl
    | false =>
      have g : ¬ slot ≤ c.upto := of_decide_eq_false hc
      have ih' := ih (done ++ [c]) k st h4 (by simp; omega)
      rw [show k ++ (c :: rest).filter (fun h => !decide (h.upto < slot)) = k ++ rest.filter fun h => !decide (h.upto < slot) by rw [List.filter_cons_of_neg (by simp; omega)]]
      repeat' first | (with_reducible intro h; try simp only [h]) | (with_reducible refine And.intro ?_ ?_) | (change chk _ _ = true; rfl) | simp only [go_sem, seval, Vc_bool, h1, h2, h3, hc, List.length_map, Int.toNat_natCast, Int.natCast_nonneg] | refine (GX_split rfl).2 ?_
      exact Lp.bkE0 ih' (by rfl) rfl
theorem c51_ok {s : Station} {slot : Int} (hB : StBd s) : ACalls prog 51 [.agg s.enc, .int .i64 slot] [] (.tup [.agg (expE s slot).1.enc, .sl 6 ((expE s slot).2.1.map Packet.enc), .int .i64 (expE s slot).2.2]) [] := by
  have h26 := c26_ok (slot := slot) hB
  by_cases hE : slotErr s slot = 0
  · obtain ⟨g1, g2, g3, g4, g5⟩ := slot0 hE
    obtain ⟨hb, hl⟩ := q_born g5
    obtain ⟨hs, hh⟩ := held_srt g1
    have e1 : actSt s slot = ((plan s slot).act, 0) := by simp [actSt, hE]
    rw [e1] at h26
    have h162 := c162_ok (q := s.q) (slot := slot) g5 g2 (by omega)
    have e3 : qExpE s.q slot = (⟨s.q.limit, s.q.pk.filter fun p => !stale p slot⟩, s.q.pk.filter fun p => stale p slot) := by simp [qExpE, g5]
    rw [e3] at h162
    have hq2 := List.length_filter_le (fun p => !stale p slot) s.q.pk
    have e : expE s slot = (fun k : List Held => (Sp.settle { s with q := ⟨s.q.limit, s.q.pk.filter fun p => !stale p slot⟩, held := k }, s.q.pk.filter fun p => stale p slot, (0 : Int))) ([] ++ s.held.filter fun h => !decide (h.upto < slot)) := by
      simp [expE, hE]
    rw [e]
    refine calls_of hmx func51 (by kernel_rfl) (c := f51.body.getD .skip) rfl e51 (rs := [(.cell 4 true 14), (.t 5), (.t 6)]) (by kernel_rfl) (by simp [ntmps51]) ?_
    simp only [c51, argS]
    repeat' first | refine CX_pure (h26) rfl rfl rfl rfl ?_ | refine CX_pure (h162) rfl rfl rfl rfl ?_ | refine GX_call (fun _ => (h26)) (by rfl) (by intro h; simp only [h]; rfl) (by rfl) (by rfl) ?_ | refine GX_call (fun _ => (h162)) (by rfl) (by intro h; simp only [h]; rfl) (by rfl) (by rfl) ?_ | (with_reducible intro h; try simp only [h]) | (with_reducible refine And.intro ?_ ?_) | (change chk _ _ = true; rfl) | simp only [go_sem, seval, Vc_bool] | refine (GX_split rfl).2 ?_
    refine Lp.gs (Gs_virt 11 100 false (by decide : 0 < 5) (by rfl)) ?_
    refine Lp.bkE0 (l51 s ⟨s.q.limit, s.q.pk.filter fun p => !stale p slot⟩ (plan s slot).act _ slot hh (fun k => .tup [.agg (Sp.settle { s with q := ⟨s.q.limit, s.q.pk.filter fun p => !stale p slot⟩, held := k }).enc, .sl 6 ((s.q.pk.filter fun p => stale p slot).map Packet.enc), .int .i64 0]) _ (fun zs st k z2 z4 z10 z11 => ?_) s.held [] [] 1 rfl (Nat.le_refl _)) (by rfl) rfl
    have h158 := c158_pf { s with q := ⟨s.q.limit, s.q.pk.filter fun p => !stale p slot⟩, held := k } (by show (s.q.pk.filter fun p => !stale p slot).length < 2 ^ 62; omega)
    repeat' first | (with_reducible intro h; try simp only [h]) | (with_reducible refine And.intro ?_ ?_) | (change chk _ _ = true; rfl) | simp only [go_sem, seval, Vc_bool, z2, z4, z10, z11, zSt] | refine (GX_split rfl).2 ?_
    refine CX.gs (Gs_freeze 4 (s' := [(57, .agg (Station.enc { s with q := ⟨s.q.limit, s.q.pk.filter fun p => !stale p slot⟩, held := k })), (4, .ptr 1 0 0 0), (10, .sl 6 ((s.q.pk.filter fun p => stale p slot).map Packet.enc))]) (H' := [.dead, .cells 0 14 31 true [zSt], .dead, .dead, .dead]) rfl ?_ ?_) ?_
    · simp only [List.forall_mem_cons, List.not_mem_nil, false_implies, implies_true, and_true, go_sem, seval, z4, z10]
      refine ⟨?_, .wk (.refl _), .wk (.refl _)⟩
      refine Fz.aggL ?_
      repeat' (first | exact FzL.nil | refine FzL.cons ?_ ?_ | exact Fz.wk (Wk.refl _) | exact Fz.row 0 _ (by rw [List.drop_zero]; exact List.take_of_length_le (by simp)) (cloE_map fun _ => by rfl))
    · repeat' (first | exact FzL.nil | refine FzL.cons ?_ ?_ | exact Fz.wk (Wk.refl _) | exact Fz.wk (Wk.nil _) | exact Fz.wk (Wk.emp _) | exact Fz.row0 _ _ _ _ | exact FzH.nil _ | exact FzO.refl _ | refine FzO.one ?_ | refine FzH.cons (by decide) ?_ ?_ | refine FzH.this rfl ?_ | exact FzO.dead (by simp) | (simp only [List.forall_mem_cons, List.not_mem_nil, false_implies, implies_true, and_true, go_sem, seval]) | refine And.intro ?_ ?_)
    repeat' first | refine CX_pure (h158) rfl rfl rfl rfl ?_ | refine GX_call (fun _ => (h158)) (by rfl) (by intro h; simp only [h]; rfl) (by rfl) (by rfl) ?_ | (with_reducible intro h; try simp only [h]) | (with_reducible refine And.intro ?_ ?_) | (change chk _ _ = true; rfl) | simp only [go_sem, seval, Vc_bool, zSt] | refine (GX_split rfl).2 ?_
    exact Rt_pure (by rfl) (by rfl)
  · have e : expE s slot = (Station.zero, [], slotErr s slot) := by simp [expE, hE]
    have e1 : actSt s slot = (Action.zero, slotErr s slot) := by simp [actSt, hE]
    have d : decide (slotErr s slot = 0) = false := by simpa using hE
    rw [e]
    rw [e1] at h26
    refine calls_of hmx func51 (by kernel_rfl) (c := f51.body.getD .skip) rfl e51 (rs := [(.cell 4 true 14), (.t 5), (.t 6)]) (by kernel_rfl) (by simp [ntmps51]) ?_
    simp only [c51, argS]
    repeat' first | refine CX_pure (h26) rfl rfl rfl rfl ?_ | refine GX_call (fun _ => (h26)) (by rfl) (by intro h; simp only [h]; rfl) (by rfl) (by rfl) ?_ | (with_reducible intro h; try simp only [h]) | (with_reducible refine And.intro ?_ ?_) | (change chk _ _ = true; rfl) | simp only [go_sem, seval, Vc_bool, d] | refine (GX_split rfl).2 ?_
    refine Rt.gs (Gs_tell (s' := [(4, .ptr 1 0 0 0), (5, .sl 6 []), (6, .int .i64 (slotErr s slot))]) (H' := [.dead, .cells 0 14 31 true [Station.zero.enc], .dead]) ?_ ?_) (Rt_pure ?_ rfl)
    · repeat' (first | exact FzL.nil | refine FzL.cons ?_ ?_ | exact Fz.wk (Wk.refl _) | exact Fz.wk (Wk.nil _) | exact Fz.wk (Wk.emp _) | exact Fz.row0 _ _ _ _ | exact FzH.nil _ | exact FzO.refl _ | refine FzO.one ?_ | refine FzH.cons (by decide) ?_ ?_ | refine FzH.this rfl ?_ | exact FzO.dead (by simp) | (simp only [List.forall_mem_cons, List.not_mem_nil, false_implies, implies_true, and_true, go_sem, seval]) | refine And.intro ?_ ?_)
    · repeat' (first | exact FzL.nil | refine FzL.cons ?_ ?_ | exact Fz.wk (Wk.refl _) | exact Fz.wk (Wk.nil _) | exact Fz.wk (Wk.emp _) | exact Fz.row0 _ _ _ _ | exact FzH.nil _ | exact FzO.refl _ | refine FzO.one ?_ | refine FzH.cons (by decide) ?_ ?_ | refine FzH.this rfl ?_ | exact FzO.dead (by simp) | (simp only [List.forall_mem_cons, List.not_mem_nil, false_implies, implies_true, and_true, go_sem, seval]) | refine And.intro ?_ ?_)
    · rfl

def c109L1 : SC := (.seq (.seq (.reg [(.mv 11 (.t 5)), (.mv 12 (.t 0)), (.len 13 false (.t 12)), (.bin 14 .lss (.t 11) (.t 13))]) (.cond (.t 14) .skip (.exit 0))) (.seq (.block 1 (.seq (.regD [(.mv 17 (.t 0)), (.mv 18 (.t 5)), (.ia 19 (.t 17) (.t 18) 6), (.ld 20 (.t 19) true 6), (.mv 21 (.t 1)), (.mv 22 (.t 5)), (.ia 23 (.t 21) (.t 22) 6), (.ld 24 (.t 23) true 6), (.binA 25 true [1, 1, 1, 2, 1, 1] (.t 20) (.t 24))] []) (.cond (.t 25) (.seq (.reg [(.mv 4 (.c (.bool false)))]) .ret) .skip))) (.reg [(.mv 15 (.t 5)), (.bin 16 .add (.t 15) (.c (.int .i64 1))), (.mv 5 (.t 16))])))
def c109 : SC := (.seq (.reg [(.mv 4 (.c (.bool false)))]) (.seq (.seq (.reg [(.mv 6 (.t 0)), (.len 7 false (.t 6)), (.mv 8 (.t 1)), (.len 9 false (.t 8)), (.bin 10 .neq (.t 7) (.t 9))]) (.cond (.t 10) (.seq (.reg [(.mv 4 (.c (.bool false)))]) .ret) .skip)) (.seq (.seq (.reg [(.mv 5 (.c (.int .i64 0)))]) (.block 0 (.loop c109L1))) (.seq (.reg [(.mv 4 (.c (.bool true)))]) .ret))))
theorem e109 : compC prog f109.ntmps (f109.body.getD .skip) = c109 := by kernel_rfl
def c30 : SC := (.seq (.reg [(.box 2 24 (.t 0)), (.box 3 24 (.t 1)), (.mv 4 (.c (.bool false)))]) (.seq (.reg [(.fa 5 (.t 2) 0), (.ld 6 (.t 5) false 1), (.fa 7 (.t 3) 0), (.ld 8 (.t 7) false 1), (.bin 9 .eql (.t 6) (.t 8)), (.mv 10 (.t 9)), (.g 10 true (some 11) (.fa 11 (.t 2) 1)), (.g 10 true (some 12) (.ld 12 (.t 11) false 1)), (.g 10 true (some 13) (.fa 13 (.t 3) 1)), (.g 10 true (some 14) (.ld 14 (.t 13) false 1)), (.g 10 true (some 15) (.bin 15 .eql (.t 12) (.t 14))), (.pick 16 (.t 10) (.t 15) (.c (.bool false))), (.mv 17 (.t 16)), (.g 17 true (some 18) (.fa 18 (.t 2) 2)), (.g 17 true (some 19) (.ld 19 (.t 18) false 1)), (.g 17 true (some 20) (.fa 20 (.t 3) 2)), (.g 17 true (some 21) (.ld 21 (.t 20) false 1)), (.g 17 true (some 22) (.call (some 22) (.c (.func 109 [] [])) [(.t 19), (.t 21)])), (.pick 23 (.t 17) (.t 22) (.c (.bool false))), (.mv 4 (.t 23))]) .ret))
theorem e30 : compC prog f30.ntmps (f30.body.getD .skip) = c30 := by kernel_rfl
def c49L1 : SC := (.seq (.seq (.reg [(.mv 11 (.t 5)), (.mv 12 (.t 0)), (.len 13 false (.t 12)), (.bin 14 .lss (.t 11) (.t 13))]) (.cond (.t 14) .skip (.exit 0))) (.seq (.block 1 (.seq (.regD [(.mv 17 (.t 0)), (.mv 18 (.t 5)), (.ia 19 (.t 17) (.t 18) 6), (.ld 20 (.t 19) true 6), (.mv 21 (.t 1)), (.mv 22 (.t 5)), (.ia 23 (.t 21) (.t 22) 6), (.ld 24 (.t 23) true 6), (.binA 25 true [1, 1, 1, 1, 1, 3] (.t 20) (.t 24))] []) (.cond (.t 25) (.seq (.reg [(.mv 4 (.c (.bool false)))]) .ret) .skip))) (.reg [(.mv 15 (.t 5)), (.bin 16 .add (.t 15) (.c (.int .i64 1))), (.mv 5 (.t 16))])))
def c49 : SC := (.seq (.reg [(.mv 4 (.c (.bool false)))]) (.seq (.seq (.reg [(.mv 6 (.t 0)), (.len 7 false (.t 6)), (.mv 8 (.t 1)), (.len 9 false (.t 8)), (.bin 10 .neq (.t 7) (.t 9))]) (.cond (.t 10) (.seq (.reg [(.mv 4 (.c (.bool false)))]) .ret) .skip)) (.seq (.seq (.reg [(.mv 5 (.c (.int .i64 0)))]) (.block 0 (.loop c49L1))) (.seq (.reg [(.mv 4 (.c (.bool true)))]) .ret))))
theorem e49 : compC prog f49.ntmps (f49.body.getD .skip) = c49 := by kernel_rfl
def c94 : SC := (.seq (.reg [(.box 2 27 (.t 0)), (.box 3 27 (.t 1)), (.mv 4 (.c (.bool false)))]) (.seq (.reg [(.fa 5 (.t 2) 0), (.ld 6 (.t 5) false 1), (.fa 7 (.t 3) 0), (.ld 8 (.t 7) false 1), (.bin 9 .eql (.t 6) (.t 8)), (.mv 10 (.t 9)), (.g 10 true (some 11) (.fa 11 (.t 2) 1)), (.g 10 true (some 12) (.ld 12 (.t 11) false 1)), (.g 10 true (some 13) (.fa 13 (.t 3) 1)), (.g 10 true (some 14) (.ld 14 (.t 13) false 1)), (.g 10 true (some 15) (.call (some 15) (.c (.func 49 [] [])) [(.t 12), (.t 14)])), (.pick 16 (.t 10) (.t 15) (.c (.bool false))), (.mv 4 (.t 16))]) .ret))
theorem e94 : compC prog f94.ntmps (f94.body.getD .skip) = c94 := by kernel_rfl
def c95L1 : SC := (.seq (.seq (.reg [(.mv 41 (.t 5)), (.fa 42 (.t 2) 4), (.ld 43 (.t 42) false 1), (.len 44 false (.t 43)), (.bin 45 .lss (.t 41) (.t 44))]) (.cond (.t 45) .skip (.exit 0))) (.seq (.block 1 (.seq (.regD [(.fa 48 (.t 2) 4), (.ld 49 (.t 48) false 1), (.mv 50 (.t 5)), (.ia 51 (.t 49) (.t 50) 1), (.ld 52 (.t 51) false 1), (.fa 53 (.t 3) 4), (.ld 54 (.t 53) false 1), (.mv 55 (.t 5)), (.ia 56 (.t 54) (.t 55) 1), (.ld 57 (.t 56) false 1), (.bin 58 .neq (.t 52) (.t 57))] []) (.cond (.t 58) (.seq (.reg [(.mv 4 (.c (.bool false)))]) .ret) .skip))) (.reg [(.mv 46 (.t 5)), (.bin 47 .add (.t 46) (.c (.int .i64 1))), (.mv 5 (.t 47))])))
def c95 : SC := (.seq (.reg [(.box 2 100 (.t 0)), (.box 3 100 (.t 1)), (.mv 4 (.c (.bool false)))]) (.seq (.seq (.reg [(.fa 6 (.t 2) 0), (.ld 7 (.t 6) false 1), (.fa 8 (.t 3) 0), (.ld 9 (.t 8) false 1), (.bin 10 .neq (.t 7) (.t 9)), (.mv 11 (.t 10)), (.g 11 false (some 12) (.fa 12 (.t 2) 1)), (.g 11 false (some 13) (.ld 13 (.t 12) false 1)), (.g 11 false (some 14) (.fa 14 (.t 3) 1)), (.g 11 false (some 15) (.ld 15 (.t 14) false 1)), (.g 11 false (some 16) (.bin 16 .neq (.t 13) (.t 15))), (.pick 17 (.t 11) (.c (.bool true)) (.t 16)), (.mv 18 (.t 17)), (.g 18 false (some 19) (.fa 19 (.t 2) 2)), (.g 18 false (some 20) (.ld 20 (.t 19) false 1)), (.g 18 false (some 21) (.fa 21 (.t 3) 2)), (.g 18 false (some 22) (.ld 22 (.t 21) false 1)), (.g 18 false (some 23) (.bin 23 .neq (.t 20) (.t 22))), (.pick 24 (.t 18) (.c (.bool true)) (.t 23)), (.mv 25 (.t 24)), (.g 25 false (some 26) (.fa 26 (.t 2) 3)), (.g 25 false (some 27) (.ld 27 (.t 26) false 1)), (.g 25 false (some 28) (.fa 28 (.t 3) 3)), (.g 25 false (some 29) (.ld 29 (.t 28) false 1)), (.g 25 false (some 30) (.binS 30 .neq (.t 27) (.t 29))), (.pick 31 (.t 25) (.c (.bool true)) (.t 30)), (.mv 32 (.t 31)), (.g 32 false (some 33) (.fa 33 (.t 2) 4)), (.g 32 false (some 34) (.ld 34 (.t 33) false 1)), (.g 32 false (some 35) (.len 35 false (.t 34))), (.g 32 false (some 36) (.fa 36 (.t 3) 4)), (.g 32 false (some 37) (.ld 37 (.t 36) false 1)), (.g 32 false (some 38) (.len 38 false (.t 37))), (.g 32 false (some 39) (.bin 39 .neq (.t 35) (.t 38))), (.pick 40 (.t 32) (.c (.bool true)) (.t 39))]) (.cond (.t 40) (.seq (.reg [(.mv 4 (.c (.bool false)))]) .ret) .skip)) (.seq (.seq (.reg [(.mv 5 (.c (.int .i64 0)))]) (.block 0 (.loop c95L1))) (.seq (.reg [(.mv 4 (.c (.bool true)))]) .ret))))
theorem e95 : compC prog f95.ntmps (f95.body.getD .skip) = c95 := by kernel_rfl
def c24L1 : SC := (.seq (.seq (.reg [(.mv 39 (.t 5)), (.fa 40 (.t 2) 5), (.ld 41 (.t 40) false 1), (.len 42 false (.t 41)), (.bin 43 .lss (.t 39) (.t 42))]) (.cond (.t 43) .skip (.exit 0))) (.seq (.block 1 (.seq (.regD [(.fa 46 (.t 2) 5), (.ld 47 (.t 46) false 1), (.mv 48 (.t 5)), (.ia 49 (.t 47) (.t 48) 5), (.ld 50 (.t 49) true 5), (.fa 51 (.t 3) 5), (.ld 52 (.t 51) false 1), (.mv 53 (.t 5)), (.ia 54 (.t 52) (.t 53) 5), (.ld 55 (.t 54) true 5), (.call (some 56) (.c (.func 95 [] [])) [(.t 50), (.t 55)]), (.not 57 (.t 56))] []) (.cond (.t 57) (.seq (.reg [(.mv 4 (.c (.bool false)))]) .ret) .skip))) (.reg [(.mv 44 (.t 5)), (.bin 45 .add (.t 44) (.c (.int .i64 1))), (.mv 5 (.t 45))])))
def c24L2 : SC := (.seq (.seq (.reg [(.mv 58 (.t 6)), (.fa 59 (.t 2) 6), (.ld 60 (.t 59) false 1), (.len 61 false (.t 60)), (.bin 62 .lss (.t 58) (.t 61))]) (.cond (.t 62) .skip (.exit 2))) (.seq (.block 3 (.seq (.regD [(.fa 65 (.t 2) 6), (.ld 66 (.t 65) false 1), (.mv 67 (.t 6)), (.ia 68 (.t 66) (.t 67) 2), (.ld 69 (.t 68) true 2), (.fa 70 (.t 3) 6), (.ld 71 (.t 70) false 1), (.mv 72 (.t 6)), (.ia 73 (.t 71) (.t 72) 2), (.ld 74 (.t 73) true 2), (.binA 75 true [1, 1] (.t 69) (.t 74))] []) (.cond (.t 75) (.seq (.reg [(.mv 4 (.c (.bool false)))]) .ret) .skip))) (.reg [(.mv 63 (.t 6)), (.bin 64 .add (.t 63) (.c (.int .i64 1))), (.mv 6 (.t 64))])))
def c24 : SC := (.seq (.reg [(.box 2 31 (.t 0)), (.box 3 31 (.t 1)), (.mv 4 (.c (.bool false)))]) (.seq (.seq (.reg [(.fa 7 (.t 2) 0), (.ld 8 (.t 7) true 3), (.fa 9 (.t 3) 0), (.ld 10 (.t 9) true 3), (.call (some 11) (.c (.func 30 [] [])) [(.t 8), (.t 10)]), (.not 12 (.t 11)), (.mv 13 (.t 12)), (.g 13 false (some 14) (.fa 14 (.t 2) 3)), (.g 13 false (some 15) (.ld 15 (.t 14) true 2)), (.g 13 false (some 16) (.fa 16 (.t 3) 3)), (.g 13 false (some 17) (.ld 17 (.t 16) true 2)), (.g 13 false (some 18) (.call (some 18) (.c (.func 94 [] [])) [(.t 15), (.t 17)])), (.g 13 false (some 19) (.not 19 (.t 18))), (.pick 20 (.t 13) (.c (.bool true)) (.t 19)), (.mv 21 (.t 20)), (.g 21 false (some 22) (.fa 22 (.t 2) 5)), (.g 21 false (some 23) (.ld 23 (.t 22) false 1)), (.g 21 false (some 24) (.len 24 false (.t 23))), (.g 21 false (some 25) (.fa 25 (.t 3) 5)), (.g 21 false (some 26) (.ld 26 (.t 25) false 1)), (.g 21 false (some 27) (.len 27 false (.t 26))), (.g 21 false (some 28) (.bin 28 .neq (.t 24) (.t 27))), (.pick 29 (.t 21) (.c (.bool true)) (.t 28)), (.mv 30 (.t 29)), (.g 30 false (some 31) (.fa 31 (.t 2) 6)), (.g 30 false (some 32) (.ld 32 (.t 31) false 1)), (.g 30 false (some 33) (.len 33 false (.t 32))), (.g 30 false (some 34) (.fa 34 (.t 3) 6)), (.g 30 false (some 35) (.ld 35 (.t 34) false 1)), (.g 30 false (some 36) (.len 36 false (.t 35))), (.g 30 false (some 37) (.bin 37 .neq (.t 33) (.t 36))), (.pick 38 (.t 30) (.c (.bool true)) (.t 37))]) (.cond (.t 38) (.seq (.reg [(.mv 4 (.c (.bool false)))]) .ret) .skip)) (.seq (.seq (.reg [(.mv 5 (.c (.int .i64 0)))]) (.block 0 (.loop c24L1))) (.seq (.seq (.reg [(.mv 6 (.c (.int .i64 0)))]) (.block 2 (.loop c24L2))) (.seq (.reg [(.fa 76 (.t 2) 7), (.ld 77 (.t 76) false 1), (.fa 78 (.t 3) 7), (.ld 79 (.t 78) false 1), (.bin 80 .eql (.t 77) (.t 79)), (.mv 81 (.t 80)), (.g 81 true (some 82) (.fa 82 (.t 2) 8)), (.g 81 true (some 83) (.ld 83 (.t 82) false 1)), (.g 81 true (some 84) (.fa 84 (.t 3) 8)), (.g 81 true (some 85) (.ld 85 (.t 84) false 1)), (.g 81 true (some 86) (.bin 86 .eql (.t 83) (.t 85))), (.pick 87 (.t 81) (.t 86) (.c (.bool false))), (.mv 88 (.t 87)), (.g 88 true (some 89) (.fa 89 (.t 2) 9)), (.g 88 true (some 90) (.ld 90 (.t 89) false 1)), (.g 88 true (some 91) (.fa 91 (.t 3) 9)), (.g 88 true (some 92) (.ld 92 (.t 91) false 1)), (.g 88 true (some 93) (.bin 93 .eql (.t 90) (.t 92))), (.pick 94 (.t 88) (.t 93) (.c (.bool false))), (.mv 95 (.t 94)), (.g 95 true (some 96) (.fa 96 (.t 2) 10)), (.g 95 true (some 97) (.ld 97 (.t 96) false 1)), (.g 95 true (some 98) (.fa 98 (.t 3) 10)), (.g 95 true (some 99) (.ld 99 (.t 98) false 1)), (.g 95 true (some 100) (.bin 100 .eql (.t 97) (.t 99))), (.pick 101 (.t 95) (.t 100) (.c (.bool false))), (.mv 102 (.t 101)), (.g 102 true (some 103) (.fa 103 (.t 2) 11)), (.g 102 true (some 104) (.ld 104 (.t 103) false 1)), (.g 102 true (some 105) (.fa 105 (.t 3) 11)), (.g 102 true (some 106) (.ld 106 (.t 105) false 1)), (.g 102 true (some 107) (.bin 107 .eql (.t 104) (.t 106))), (.pick 108 (.t 102) (.t 107) (.c (.bool false))), (.mv 109 (.t 108)), (.g 109 true (some 110) (.fa 110 (.t 2) 12)), (.g 109 true (some 111) (.ld 111 (.t 110) false 1)), (.g 109 true (some 112) (.fa 112 (.t 3) 12)), (.g 109 true (some 113) (.ld 113 (.t 112) false 1)), (.g 109 true (some 114) (.bin 114 .eql (.t 111) (.t 113))), (.pick 115 (.t 109) (.t 114) (.c (.bool false))), (.mv 116 (.t 115)), (.g 116 true (some 117) (.fa 117 (.t 2) 13)), (.g 116 true (some 118) (.ld 118 (.t 117) false 1)), (.g 116 true (some 119) (.fa 119 (.t 3) 13)), (.g 116 true (some 120) (.ld 120 (.t 119) false 1)), (.g 116 true (some 121) (.bin 121 .eql (.t 118) (.t 120))), (.pick 122 (.t 116) (.t 121) (.c (.bool false))), (.mv 4 (.t 122))]) .ret)))))
theorem e24 : compC prog f24.ntmps (f24.body.getD .skip) = c24 := by kernel_rfl
theorem bytes_refl (s : ByteArray) : decide (s = s) = true := by simp
theorem int_refl (n : Int) : decide (n = n) = true := by simp
theorem bool_refl (b : Bool) : (b == b) = true := by simp
theorem l109 (l : List TCell) (hL : (l).length < 2 ^ 62) (k' : List It) (hk : ∀ zs, V prog f109.ntmps 0 (Ret [(.t 4)] 0 (.bool true) []) k' zs []) : ∀ (rest done : List TCell), l = done ++ rest →
    Lp prog f109.ntmps 0 (Ret [(.t 4)] 0 (.bool true) []) c109L1 (.blk 0 :: k') [(0, .sl 6 (l.map TCell.enc)), (1, .sl 6 (l.map TCell.enc)), (5, .int .i64 done.length)] [] := by
  intro rest
  induction rest with
  | nil =>
    intro done hd
    refine Lp.of_eq hmx c109L1.eq_1 ?_
    have h1 := rg_end hd
    simp only [go_sem, seval, h1, List.length_map]
    exact hk _
  | cons c rest ih =>
    intro done hd
    refine Lp.of_eq hmx c109L1.eq_1 ?_
    obtain ⟨h1, h2, h3, h4⟩ := rg_hd TCell.enc hd hL
    have ih' := ih _ h4
    rcases List.eq_nil_or_concat done with h0 | ⟨ds, p, h0⟩
    · obtain ⟨p1, hp⟩ := rg_first' h0
      repeat' first | (refine Lp.bkE0 ih' (by rfl) ?_) | (refine Rt_pure ?_ rfl; simp only [retO, retO1, retOs, S, get_cons, Nat.reduceEqDiff, reduceIte, obj, getO_cons_zero, getO_cons_succ, List.getElem?_cons_zero, List.getElem?_cons_succ, List.drop_zero, List.drop_succ_cons, loadFrom_cell, loadFrom_agg, List.length_cons, List.length_nil, Nat.reduceAdd, Nat.reduceLeDiff, List.take_succ_cons, List.take_zero, List.take_nil]) | (with_reducible intro h; try simp only [h]) | (with_reducible refine And.intro ?_ ?_) | (change chk _ _ = true; rfl) | simp only [go_sem, seval, Vc_bool, h1, h2, h3, Int.toNat_natCast, Int.natCast_nonneg, List.length_map, int_refl, bool_refl, p1] | refine (GX_split rfl).2 ?_
      all_goals (clear hk ih ih' h1 h2 h3 h4 hd hL)
      all_goals clear p1 h0
      all_goals rfl
    · rw [List.concat_eq_append] at h0
      obtain ⟨p1, p2, p3, hp⟩ := rg_prev' TCell.enc hd h0 hL
      repeat' first | (refine Lp.bkE0 ih' (by rfl) ?_) | (refine Rt_pure ?_ rfl; simp only [retO, retO1, retOs, S, get_cons, Nat.reduceEqDiff, reduceIte, obj, getO_cons_zero, getO_cons_succ, List.getElem?_cons_zero, List.getElem?_cons_succ, List.drop_zero, List.drop_succ_cons, loadFrom_cell, loadFrom_agg, List.length_cons, List.length_nil, Nat.reduceAdd, Nat.reduceLeDiff, List.take_succ_cons, List.take_zero, List.take_nil]) | (with_reducible intro h; try simp only [h]) | (with_reducible refine And.intro ?_ ?_) | (change chk _ _ = true; rfl) | simp only [go_sem, seval, Vc_bool, h1, h2, h3, Int.toNat_natCast, Int.natCast_nonneg, List.length_map, int_refl, bool_refl, p1, p2, p3] | refine (GX_split rfl).2 ?_
      all_goals (clear hk ih ih' h1 h2 h3 h4 hd hL)
      all_goals clear p1 p2 p3 h0
      all_goals rfl

theorem c109_ok {l : List TCell} (hL : l.length < 2 ^ 62) : ACalls prog 109 [.sl 6 (l.map TCell.enc), .sl 6 (l.map TCell.enc)] [] (.bool true) [] := by
  refine calls_of hmx func109 (by kernel_rfl) (c := f109.body.getD .skip) rfl e109 (rs := [(.t 4)]) (by kernel_rfl) (by simp [ntmps109]) ?_
  simp only [c109, argS]
  simp only [go_sem, seval, int_refl]
  refine Lp.bkE0 (l109 l hL _ (fun s => ?_) l [] rfl) (by rfl) rfl
  simp only [go_sem, seval]
  (refine Rt_pure ?_ rfl; simp only [retO, retO1, retOs, S, get_cons, Nat.reduceEqDiff, reduceIte, obj, getO_cons_zero, getO_cons_succ, List.getElem?_cons_zero, List.getElem?_cons_succ, List.drop_zero, List.drop_succ_cons, loadFrom_cell, loadFrom_agg, List.length_cons, List.length_nil, Nat.reduceAdd, Nat.reduceLeDiff, List.take_succ_cons, List.take_zero, List.take_nil])
theorem c30_ok {t : Table} (hL : t.cells.length < 2 ^ 62) : ACalls prog 30 [.agg t.enc, .agg t.enc] [] (.bool true) [] := by
  refine calls_of hmx func30 (by kernel_rfl) (c := f30.body.getD .skip) rfl e30 (rs := [(.t 4)]) (by kernel_rfl) (by simp [ntmps30]) ?_
  simp only [c30, argS]
  simp only [go_sem, seval, int_refl]
  refine CX_pure (c109_ok hL) rfl rfl rfl rfl ?_
  simp only [go_sem, seval]
  (refine Rt_pure ?_ rfl; simp only [retO, retO1, retOs, S, get_cons, Nat.reduceEqDiff, reduceIte, obj, getO_cons_zero, getO_cons_succ, List.getElem?_cons_zero, List.getElem?_cons_succ, List.drop_zero, List.drop_succ_cons, loadFrom_cell, loadFrom_agg, List.length_cons, List.length_nil, Nat.reduceAdd, Nat.reduceLeDiff, List.take_succ_cons, List.take_zero, List.take_nil])
theorem l49 (l : List Packet) (hL : (l).length < 2 ^ 62) (k' : List It) (hk : ∀ zs, V prog f49.ntmps 0 (Ret [(.t 4)] 0 (.bool true) []) k' zs []) : ∀ (rest done : List Packet), l = done ++ rest →
    Lp prog f49.ntmps 0 (Ret [(.t 4)] 0 (.bool true) []) c49L1 (.blk 0 :: k') [(0, .sl 6 (l.map Packet.enc)), (1, .sl 6 (l.map Packet.enc)), (5, .int .i64 done.length)] [] := by
  intro rest
  induction rest with
  | nil =>
    intro done hd
    refine Lp.of_eq hmx c49L1.eq_1 ?_
    have h1 := rg_end hd
    simp only [go_sem, seval, h1, List.length_map]
    exact hk _
  | cons c rest ih =>
    intro done hd
    refine Lp.of_eq hmx c49L1.eq_1 ?_
    obtain ⟨h1, h2, h3, h4⟩ := rg_hd Packet.enc hd hL
    have ih' := ih _ h4
    rcases List.eq_nil_or_concat done with h0 | ⟨ds, p, h0⟩
    · obtain ⟨p1, hp⟩ := rg_first' h0
      repeat' first | (refine Lp.bkE0 ih' (by rfl) ?_) | (refine Rt_pure ?_ rfl; simp only [retO, retO1, retOs, S, get_cons, Nat.reduceEqDiff, reduceIte, obj, getO_cons_zero, getO_cons_succ, List.getElem?_cons_zero, List.getElem?_cons_succ, List.drop_zero, List.drop_succ_cons, loadFrom_cell, loadFrom_agg, List.length_cons, List.length_nil, Nat.reduceAdd, Nat.reduceLeDiff, List.take_succ_cons, List.take_zero, List.take_nil]) | (with_reducible intro h; try simp only [h]) | (with_reducible refine And.intro ?_ ?_) | (change chk _ _ = true; rfl) | simp only [go_sem, seval, Vc_bool, h1, h2, h3, Int.toNat_natCast, Int.natCast_nonneg, List.length_map, int_refl, bool_refl, bytes_refl, p1] | refine (GX_split rfl).2 ?_
      all_goals (clear hk ih ih' h1 h2 h3 h4 hd hL)
      all_goals clear p1 h0
      all_goals rfl
    · rw [List.concat_eq_append] at h0
      obtain ⟨p1, p2, p3, hp⟩ := rg_prev' Packet.enc hd h0 hL
      repeat' first | (refine Lp.bkE0 ih' (by rfl) ?_) | (refine Rt_pure ?_ rfl; simp only [retO, retO1, retOs, S, get_cons, Nat.reduceEqDiff, reduceIte, obj, getO_cons_zero, getO_cons_succ, List.getElem?_cons_zero, List.getElem?_cons_succ, List.drop_zero, List.drop_succ_cons, loadFrom_cell, loadFrom_agg, List.length_cons, List.length_nil, Nat.reduceAdd, Nat.reduceLeDiff, List.take_succ_cons, List.take_zero, List.take_nil]) | (with_reducible intro h; try simp only [h]) | (with_reducible refine And.intro ?_ ?_) | (change chk _ _ = true; rfl) | simp only [go_sem, seval, Vc_bool, h1, h2, h3, Int.toNat_natCast, Int.natCast_nonneg, List.length_map, int_refl, bool_refl, bytes_refl, p1, p2, p3] | refine (GX_split rfl).2 ?_
      all_goals (clear hk ih ih' h1 h2 h3 h4 hd hL)
      all_goals clear p1 p2 p3 h0
      all_goals rfl

theorem c49_ok {l : List Packet} (hL : l.length < 2 ^ 62) : ACalls prog 49 [.sl 6 (l.map Packet.enc), .sl 6 (l.map Packet.enc)] [] (.bool true) [] := by
  refine calls_of hmx func49 (by kernel_rfl) (c := f49.body.getD .skip) rfl e49 (rs := [(.t 4)]) (by kernel_rfl) (by simp [ntmps49]) ?_
  simp only [c49, argS]
  simp only [go_sem, seval, int_refl]
  refine Lp.bkE0 (l49 l hL _ (fun s => ?_) l [] rfl) (by rfl) rfl
  simp only [go_sem, seval]
  (refine Rt_pure ?_ rfl; simp only [retO, retO1, retOs, S, get_cons, Nat.reduceEqDiff, reduceIte, obj, getO_cons_zero, getO_cons_succ, List.getElem?_cons_zero, List.getElem?_cons_succ, List.drop_zero, List.drop_succ_cons, loadFrom_cell, loadFrom_agg, List.length_cons, List.length_nil, Nat.reduceAdd, Nat.reduceLeDiff, List.take_succ_cons, List.take_zero, List.take_nil])
theorem c94_ok {q : Queue} (hL : q.pk.length < 2 ^ 62) : ACalls prog 94 [.agg q.enc, .agg q.enc] [] (.bool true) [] := by
  refine calls_of hmx func94 (by kernel_rfl) (c := f94.body.getD .skip) rfl e94 (rs := [(.t 4)]) (by kernel_rfl) (by simp [ntmps94]) ?_
  simp only [c94, argS]
  simp only [go_sem, seval, int_refl]
  refine CX_pure (c49_ok hL) rfl rfl rfl rfl ?_
  simp only [go_sem, seval]
  (refine Rt_pure ?_ rfl; simp only [retO, retO1, retOs, S, get_cons, Nat.reduceEqDiff, reduceIte, obj, getO_cons_zero, getO_cons_succ, List.getElem?_cons_zero, List.getElem?_cons_succ, List.drop_zero, List.drop_succ_cons, loadFrom_cell, loadFrom_agg, List.length_cons, List.length_nil, Nat.reduceAdd, Nat.reduceLeDiff, List.take_succ_cons, List.take_zero, List.take_nil])
theorem l95 (h : Held) (hL : (h.acked).length < 2 ^ 62) (k' : List It) (hk : ∀ zs, V prog f95.ntmps 0 (Ret [(.t 4)] 0 (.bool true) []) k' zs [.cells 0 5 100 true [h.enc], .cells 0 5 100 true [h.enc]]) : ∀ (rest done : List Int), h.acked = done ++ rest →
    Lp prog f95.ntmps 0 (Ret [(.t 4)] 0 (.bool true) []) c95L1 (.blk 0 :: k') [(2, .ptr 0 0 0 0), (3, .ptr 1 0 0 0), (5, .int .i64 done.length)] [.cells 0 5 100 true [h.enc], .cells 0 5 100 true [h.enc]] := by
  intro rest
  induction rest with
  | nil =>
    intro done hd
    refine Lp.of_eq hmx c95L1.eq_1 ?_
    have h1 := rg_end hd
    simp only [go_sem, seval, h1, List.length_map]
    exact hk _
  | cons c rest ih =>
    intro done hd
    refine Lp.of_eq hmx c95L1.eq_1 ?_
    obtain ⟨h1, h2, h3, h4⟩ := rg_hd eI hd hL
    have ih' := ih _ h4
    rcases List.eq_nil_or_concat done with h0 | ⟨ds, p, h0⟩
    · obtain ⟨p1, hp⟩ := rg_first' h0
      repeat' first | (refine Lp.bkE0 ih' (by rfl) ?_) | (refine Rt_pure ?_ rfl; simp only [retO, retO1, retOs, S, get_cons, Nat.reduceEqDiff, reduceIte, obj, getO_cons_zero, getO_cons_succ, List.getElem?_cons_zero, List.getElem?_cons_succ, List.drop_zero, List.drop_succ_cons, loadFrom_cell, loadFrom_agg, List.length_cons, List.length_nil, Nat.reduceAdd, Nat.reduceLeDiff, List.take_succ_cons, List.take_zero, List.take_nil]) | (with_reducible intro h; try simp only [h]) | (with_reducible refine And.intro ?_ ?_) | (change chk _ _ = true; rfl) | simp only [go_sem, seval, Vc_bool, h1, h2, h3, Int.toNat_natCast, Int.natCast_nonneg, List.length_map, int_refl, bool_refl, bytes_refl, p1] | refine (GX_split rfl).2 ?_
      all_goals (clear hk ih ih' h1 h2 h3 h4 hd hL)
      all_goals clear p1 h0
      all_goals rfl
    · rw [List.concat_eq_append] at h0
      obtain ⟨p1, p2, p3, hp⟩ := rg_prev' eI hd h0 hL
      repeat' first | (refine Lp.bkE0 ih' (by rfl) ?_) | (refine Rt_pure ?_ rfl; simp only [retO, retO1, retOs, S, get_cons, Nat.reduceEqDiff, reduceIte, obj, getO_cons_zero, getO_cons_succ, List.getElem?_cons_zero, List.getElem?_cons_succ, List.drop_zero, List.drop_succ_cons, loadFrom_cell, loadFrom_agg, List.length_cons, List.length_nil, Nat.reduceAdd, Nat.reduceLeDiff, List.take_succ_cons, List.take_zero, List.take_nil]) | (with_reducible intro h; try simp only [h]) | (with_reducible refine And.intro ?_ ?_) | (change chk _ _ = true; rfl) | simp only [go_sem, seval, Vc_bool, h1, h2, h3, Int.toNat_natCast, Int.natCast_nonneg, List.length_map, int_refl, bool_refl, bytes_refl, p1, p2, p3] | refine (GX_split rfl).2 ?_
      all_goals (clear hk ih ih' h1 h2 h3 h4 hd hL)
      all_goals clear p1 p2 p3 h0
      all_goals rfl

theorem c95_ok {h : Held} (hL : h.acked.length < 2 ^ 62) : ACalls prog 95 [.agg h.enc, .agg h.enc] [] (.bool true) [] := by
  refine calls_of hmx func95 (by kernel_rfl) (c := f95.body.getD .skip) rfl e95 (rs := [(.t 4)]) (by kernel_rfl) (by simp [ntmps95]) ?_
  simp only [c95, argS]
  simp only [go_sem, seval, int_refl, bytes_refl, List.length_map]
  refine Lp.bkE0 (l95 h hL _ (fun s => ?_) h.acked [] rfl) (by rfl) rfl
  simp only [go_sem, seval]
  (refine Rt_pure ?_ rfl; simp only [retO, retO1, retOs, S, get_cons, Nat.reduceEqDiff, reduceIte, obj, getO_cons_zero, getO_cons_succ, List.getElem?_cons_zero, List.getElem?_cons_succ, List.drop_zero, List.drop_succ_cons, loadFrom_cell, loadFrom_agg, List.length_cons, List.length_nil, Nat.reduceAdd, Nat.reduceLeDiff, List.take_succ_cons, List.take_zero, List.take_nil])
theorem l24a (s : Station) (hA : ∀ x ∈ s.held, x.acked.length < 2 ^ 62) (hL : (s.held).length < 2 ^ 62) (k' : List It) (hk : ∀ zs, get zs 2 = .ptr 0 0 0 0 → get zs 3 = .ptr 1 0 0 0 → V prog f24.ntmps 0 (Ret [(.t 4)] 0 (.bool true) []) k' zs [.cells 0 14 31 true [s.enc], .cells 0 14 31 true [s.enc]]) : ∀ (rest done : List Held), s.held = done ++ rest →
    Lp prog f24.ntmps 0 (Ret [(.t 4)] 0 (.bool true) []) c24L1 (.blk 0 :: k') [(2, .ptr 0 0 0 0), (3, .ptr 1 0 0 0), (5, .int .i64 done.length)] [.cells 0 14 31 true [s.enc], .cells 0 14 31 true [s.enc]] := by
  intro rest
  induction rest with
  | nil =>
    intro done hd
    refine Lp.of_eq hmx c24L1.eq_1 ?_
    have h1 := rg_end hd
    simp only [go_sem, seval, h1, List.length_map]
    exact hk _ (by rfl) (by rfl)
  | cons c rest ih =>
    intro done hd
    refine Lp.of_eq hmx c24L1.eq_1 ?_
    obtain ⟨h1, h2, h3, h4⟩ := rg_hd Held.enc hd hL
    have ih' := ih _ h4
    have hAc := hA c (by rw [hd]; simp)
    rcases List.eq_nil_or_concat done with h0 | ⟨ds, p, h0⟩
    · obtain ⟨p1, hp⟩ := rg_first' h0
      repeat' first | (refine Lp.bkE0 ih' (by rfl) ?_) | (refine Rt_pure ?_ rfl; simp only [retO, retO1, retOs, S, get_cons, Nat.reduceEqDiff, reduceIte, obj, getO_cons_zero, getO_cons_succ, List.getElem?_cons_zero, List.getElem?_cons_succ, List.drop_zero, List.drop_succ_cons, loadFrom_cell, loadFrom_agg, List.length_cons, List.length_nil, Nat.reduceAdd, Nat.reduceLeDiff, List.take_succ_cons, List.take_zero, List.take_nil]) | refine CX_pure (c95_ok hAc) rfl rfl rfl rfl ?_ | refine GX_call (fun _ => (c95_ok hAc)) (by rfl) (by intro h; simp only [h]; rfl) (by rfl) (by rfl) ?_ | (with_reducible intro h; try simp only [h]) | (with_reducible refine And.intro ?_ ?_) | (change chk _ _ = true; rfl) | simp only [go_sem, seval, Vc_bool, h1, h2, h3, Int.toNat_natCast, Int.natCast_nonneg, List.length_map, p1] | refine (GX_split rfl).2 ?_
      all_goals (clear hk ih ih' h1 h2 h3 h4 hd hL hA hAc)
      all_goals clear p1 h0
      all_goals rfl
    · rw [List.concat_eq_append] at h0
      obtain ⟨p1, p2, p3, hp⟩ := rg_prev' Held.enc hd h0 hL
      repeat' first | (refine Lp.bkE0 ih' (by rfl) ?_) | (refine Rt_pure ?_ rfl; simp only [retO, retO1, retOs, S, get_cons, Nat.reduceEqDiff, reduceIte, obj, getO_cons_zero, getO_cons_succ, List.getElem?_cons_zero, List.getElem?_cons_succ, List.drop_zero, List.drop_succ_cons, loadFrom_cell, loadFrom_agg, List.length_cons, List.length_nil, Nat.reduceAdd, Nat.reduceLeDiff, List.take_succ_cons, List.take_zero, List.take_nil]) | refine CX_pure (c95_ok hAc) rfl rfl rfl rfl ?_ | refine GX_call (fun _ => (c95_ok hAc)) (by rfl) (by intro h; simp only [h]; rfl) (by rfl) (by rfl) ?_ | (with_reducible intro h; try simp only [h]) | (with_reducible refine And.intro ?_ ?_) | (change chk _ _ = true; rfl) | simp only [go_sem, seval, Vc_bool, h1, h2, h3, Int.toNat_natCast, Int.natCast_nonneg, List.length_map, p1, p2, p3] | refine (GX_split rfl).2 ?_
      all_goals (clear hk ih ih' h1 h2 h3 h4 hd hL hA hAc)
      all_goals clear p1 p2 p3 h0
      all_goals rfl

theorem l24b (s : Station) (hL : (s.seen).length < 2 ^ 62) (k' : List It) (hk : ∀ zs, get zs 2 = .ptr 0 0 0 0 → get zs 3 = .ptr 1 0 0 0 → V prog f24.ntmps 0 (Ret [(.t 4)] 0 (.bool true) []) k' zs [.cells 0 14 31 true [s.enc], .cells 0 14 31 true [s.enc]]) : ∀ (rest done : List Seen), s.seen = done ++ rest →
    Lp prog f24.ntmps 0 (Ret [(.t 4)] 0 (.bool true) []) c24L2 (.blk 2 :: k') [(2, .ptr 0 0 0 0), (3, .ptr 1 0 0 0), (6, .int .i64 done.length)] [.cells 0 14 31 true [s.enc], .cells 0 14 31 true [s.enc]] := by
  intro rest
  induction rest with
  | nil =>
    intro done hd
    refine Lp.of_eq hmx c24L2.eq_1 ?_
    have h1 := rg_end hd
    simp only [go_sem, seval, h1, List.length_map]
    exact hk _ (by rfl) (by rfl)
  | cons c rest ih =>
    intro done hd
    refine Lp.of_eq hmx c24L2.eq_1 ?_
    obtain ⟨h1, h2, h3, h4⟩ := rg_hd Seen.enc hd hL
    have ih' := ih _ h4
    rcases List.eq_nil_or_concat done with h0 | ⟨ds, p, h0⟩
    · obtain ⟨p1, hp⟩ := rg_first' h0
      repeat' first | (refine Lp.bkE0 ih' (by rfl) ?_) | (refine Rt_pure ?_ rfl; simp only [retO, retO1, retOs, S, get_cons, Nat.reduceEqDiff, reduceIte, obj, getO_cons_zero, getO_cons_succ, List.getElem?_cons_zero, List.getElem?_cons_succ, List.drop_zero, List.drop_succ_cons, loadFrom_cell, loadFrom_agg, List.length_cons, List.length_nil, Nat.reduceAdd, Nat.reduceLeDiff, List.take_succ_cons, List.take_zero, List.take_nil]) | (with_reducible intro h; try simp only [h]) | (with_reducible refine And.intro ?_ ?_) | (change chk _ _ = true; rfl) | simp only [go_sem, seval, Vc_bool, h1, h2, h3, Int.toNat_natCast, Int.natCast_nonneg, List.length_map, int_refl, p1] | refine (GX_split rfl).2 ?_
      all_goals (clear hk ih ih' h1 h2 h3 h4 hd hL)
      all_goals clear p1 h0
      all_goals rfl
    · rw [List.concat_eq_append] at h0
      obtain ⟨p1, p2, p3, hp⟩ := rg_prev' Seen.enc hd h0 hL
      repeat' first | (refine Lp.bkE0 ih' (by rfl) ?_) | (refine Rt_pure ?_ rfl; simp only [retO, retO1, retOs, S, get_cons, Nat.reduceEqDiff, reduceIte, obj, getO_cons_zero, getO_cons_succ, List.getElem?_cons_zero, List.getElem?_cons_succ, List.drop_zero, List.drop_succ_cons, loadFrom_cell, loadFrom_agg, List.length_cons, List.length_nil, Nat.reduceAdd, Nat.reduceLeDiff, List.take_succ_cons, List.take_zero, List.take_nil]) | (with_reducible intro h; try simp only [h]) | (with_reducible refine And.intro ?_ ?_) | (change chk _ _ = true; rfl) | simp only [go_sem, seval, Vc_bool, h1, h2, h3, Int.toNat_natCast, Int.natCast_nonneg, List.length_map, int_refl, p1, p2, p3] | refine (GX_split rfl).2 ?_
      all_goals (clear hk ih ih' h1 h2 h3 h4 hd hL)
      all_goals clear p1 p2 p3 h0
      all_goals rfl

theorem c24_ok {s : Station} (hB : StBd s) : ACalls prog 24 [.agg s.enc, .agg s.enc] [] (.bool true) [] := by
  obtain ⟨hB1, hB2, hB3, hB4, hB5⟩ := hB
  refine calls_of hmx func24 (by kernel_rfl) (c := f24.body.getD .skip) rfl e24 (rs := [(.t 4)]) (by kernel_rfl) (by simp [ntmps24]) ?_
  simp only [c24, argS]
  simp only [go_sem, seval]
  refine CX_pure (c30_ok (t := s.tab) hB1) rfl rfl rfl rfl ?_
  simp only [go_sem, seval]
  refine CX_pure (c94_ok (q := s.q) hB2) rfl rfl rfl rfl ?_
  simp only [go_sem, seval, int_refl, List.length_map]
  refine Lp.bkE0 (l24a s hB4 hB3 _ (fun s' h1 h2 => ?_) s.held [] rfl) (by rfl) rfl
  simp only [go_sem, seval]
  refine Lp.gs (Gs_slots (s' := [(2, .ptr 0 0 0 0), (3, .ptr 1 0 0 0), (6, .int .i64 0)]) ?_) (l24b s hB5 _ (fun s'' h3 h4 => ?_) s.seen [] rfl)
  · simp only [List.forall_mem_cons, go_sem, seval, h1, h2]
    exact ⟨.refl _, .refl _, .refl _, by simp⟩
  · simp only [go_sem, seval, h3, h4, int_refl]
    (refine Rt_pure ?_ rfl; simp only [retO, retO1, retOs, S, get_cons, Nat.reduceEqDiff, reduceIte, obj, getO_cons_zero, getO_cons_succ, List.getElem?_cons_zero, List.getElem?_cons_succ, List.drop_zero, List.drop_succ_cons, loadFrom_cell, loadFrom_agg, List.length_cons, List.length_nil, Nat.reduceAdd, Nat.reduceLeDiff, List.take_succ_cons, List.take_zero, List.take_nil])

def c27 : SC := (.seq (.reg [(.mv 2 (.c (.bool false)))]) (.seq (.reg [(.mv 3 (.t 0)), (.call (some 4) (.c (.func 99 [] [])) [(.t 3), (.c (.func 100 [] []))]), (.not 5 (.t 4)), (.mv 2 (.t 5))]) .ret))
theorem e27 : compC prog f27.ntmps (f27.body.getD .skip) = c27 := by kernel_rfl
def c99 : SC := (.seq (.reg [(.mv 4 (.c (.bool false)))]) (.seq (.reg [(.mv 5 (.t 0)), (.mv 6 (.t 1)), (.call (some 7) (.c (.func 199 [] [])) [(.t 5), (.t 6)]), (.bin 8 .geq (.t 7) (.c (.int .i64 0))), (.mv 4 (.t 8))]) .ret))
theorem e99 : compC prog f99.ntmps (f99.body.getD .skip) = c99 := by kernel_rfl
def c100 : SC := (.seq (.reg [(.mv 2 (.c (.bool false)))]) (.seq (.reg [(.mv 3 (.t 0)), (.len 4 true (.t 3)), (.bin 5 .gtr (.t 4) (.c (.int .i64 200))), (.mv 2 (.t 5))]) .ret))
theorem e100 : compC prog f100.ntmps (f100.body.getD .skip) = c100 := by kernel_rfl
def c199L1 : SC := (.seq (.reg [(.bin 9 .lss (.t 8) (.t 7))]) (.seq (.cond (.t 9) .skip (.exit 0)) (.seq (.block 1 (.seq (.reg [(.mv 10 (.t 8)), (.mv 5 (.t 10))]) (.seq (.reg [(.mv 11 (.t 1)), (.mv 12 (.t 0)), (.mv 13 (.t 5)), (.ia 14 (.t 12) (.t 13) 1), (.ld 15 (.t 14) false 1), (.call (some 16) (.t 11) [(.t 15)])]) (.cond (.t 16) (.seq (.reg [(.mv 17 (.t 5)), (.mv 4 (.t 17))]) .ret) .skip)))) (.reg [(.bin 18 .add (.t 8) (.c (.int .i64 1))), (.mv 8 (.t 18))]))))
def c199 : SC := (.seq (.reg [(.mv 4 (.c (.int .i64 0)))]) (.seq (.seq (.reg [(.mv 6 (.t 0)), (.len 7 false (.t 6)), (.mv 8 (.c (.int .i64 0)))]) (.block 0 (.loop c199L1))) (.seq (.reg [(.mv 4 (.c (.int .i64 (-1))))]) .ret)))
theorem e199 : compC prog f199.ntmps (f199.body.getD .skip) = c199 := by kernel_rfl
theorem c100_pf (d : ByteArray)  : ACalls prog 100 [.str d] [] (.bool (decide (200 < (d.size : Int)))) [] := by
  refine calls_of hmx func100 (by kernel_rfl) (c := f100.body.getD .skip) rfl e100 (rs := [(.t 2)]) (by kernel_rfl) (by simp [ntmps100]) ?_
  simp only [c100, argS]
  simp only [go_sem, seval]
  (refine Rt_pure ?_ rfl; simp only [retO, retO1, retOs, S, get_cons, Nat.reduceEqDiff, reduceIte, obj, getO_cons_zero, getO_cons_succ, List.getElem?_cons_zero, List.getElem?_cons_succ, List.drop_zero, List.drop_succ_cons, loadFrom_cell, loadFrom_agg, List.length_cons, List.length_nil, Nat.reduceAdd, Nat.reduceLeDiff, List.take_succ_cons, List.take_zero, List.take_nil])
theorem c100_ok {d : ByteArray}  : ACalls prog 100 [.str d] [] (.bool (decide (200 < (d.size : Int)))) [] := c100_pf d 

theorem l199 (l : List ByteArray) (hL : (l).length < 2 ^ 62) (k' : List It) (hk : ∀ zs, V prog f199.ntmps 0 (Ret [(.t 4)] 0 (.int .i64 (-1)) []) k' zs []) : ∀ (rest done : List ByteArray), l = done ++ rest →
    Lp prog f199.ntmps 0 (Ret [(.t 4)] 0 (.int .i64 (idxFrom (fun d => decide (200 < (d.size : Int))) done.length rest)) []) c199L1 (.blk 0 :: k') [(0, .sl 1 (l.map eS)), (1, .func 100 [] []), (7, .int .i64 l.length), (8, .int .i64 done.length)] [] := by
  intro rest
  induction rest with
  | nil =>
    intro done hd
    refine Lp.of_eq hmx c199L1.eq_1 ?_
    have h1 := rg_end hd
    simp only [go_sem, seval, h1, List.length_map]
    exact hk _
  | cons c rest ih =>
    intro done hd
    refine Lp.of_eq hmx c199L1.eq_1 ?_
    obtain ⟨h1, h2, h3, h4⟩ := rg_hd eS hd hL
    have ih' := ih _ h4
    rcases List.eq_nil_or_concat done with h0 | ⟨ds, p, h0⟩
    · obtain ⟨p1, hp⟩ := rg_first' h0
      repeat' first | (refine Lp.bkE0 ih' (by rfl) ?_) | (refine Rt_pure ?_ rfl; simp only [retO, retO1, retOs, S, get_cons, Nat.reduceEqDiff, reduceIte, obj, getO_cons_zero, getO_cons_succ, List.getElem?_cons_zero, List.getElem?_cons_succ, List.drop_zero, List.drop_succ_cons, loadFrom_cell, loadFrom_agg, List.length_cons, List.length_nil, Nat.reduceAdd, Nat.reduceLeDiff, List.take_succ_cons, List.take_zero, List.take_nil]) | refine CX_pure (c100_ok) rfl rfl rfl rfl ?_ | refine GX_call (fun _ => (c100_ok)) (by rfl) (by intro h; simp only [h]; rfl) (by rfl) (by rfl) ?_ | (with_reducible intro h; try simp only [h]) | (with_reducible refine And.intro ?_ ?_) | (change chk _ _ = true; rfl) | simp only [go_sem, seval, Vc_bool, h1, h2, h3, Int.toNat_natCast, Int.natCast_nonneg, List.length_map, p1] | refine (GX_split rfl).2 ?_
      all_goals (clear hk ih ih' h1 h2 h3 h4 hd hL)
      all_goals clear p1 h0
      all_goals (simp only [idxFrom]; grind)
    · rw [List.concat_eq_append] at h0
      obtain ⟨p1, p2, p3, hp⟩ := rg_prev' eS hd h0 hL
      repeat' first | (refine Lp.bkE0 ih' (by rfl) ?_) | (refine Rt_pure ?_ rfl; simp only [retO, retO1, retOs, S, get_cons, Nat.reduceEqDiff, reduceIte, obj, getO_cons_zero, getO_cons_succ, List.getElem?_cons_zero, List.getElem?_cons_succ, List.drop_zero, List.drop_succ_cons, loadFrom_cell, loadFrom_agg, List.length_cons, List.length_nil, Nat.reduceAdd, Nat.reduceLeDiff, List.take_succ_cons, List.take_zero, List.take_nil]) | refine CX_pure (c100_ok) rfl rfl rfl rfl ?_ | refine GX_call (fun _ => (c100_ok)) (by rfl) (by intro h; simp only [h]; rfl) (by rfl) (by rfl) ?_ | (with_reducible intro h; try simp only [h]) | (with_reducible refine And.intro ?_ ?_) | (change chk _ _ = true; rfl) | simp only [go_sem, seval, Vc_bool, h1, h2, h3, Int.toNat_natCast, Int.natCast_nonneg, List.length_map, p1, p2, p3] | refine (GX_split rfl).2 ?_
      all_goals (clear hk ih ih' h1 h2 h3 h4 hd hL)
      all_goals clear p1 p2 p3 h0
      all_goals (simp only [idxFrom]; grind)

def strFew (l : List ByteArray) : Bool := !(l.any fun d => decide (200 < (d.size : Int)))
theorem c199_ok {l : List ByteArray} (hL : l.length < 2 ^ 62) : ACalls prog 199 [.sl 1 (l.map eS), .func 100 [] []] [] (.int .i64 (idxFrom (fun d => decide (200 < (d.size : Int))) 0 l)) [] := by
  refine calls_of hmx func199 (by kernel_rfl) (c := f199.body.getD .skip) rfl e199 (rs := [(.t 4)]) (by kernel_rfl) (by simp [ntmps199]) ?_
  simp only [c199, argS]
  simp only [go_sem, seval, List.length_map]
  refine Lp.bkE0 (l199 l hL _ (fun s => ?_) l [] rfl) (by rfl) rfl
  simp only [go_sem, seval]
  (refine Rt_pure ?_ rfl; simp only [retO, retO1, retOs, S, get_cons, Nat.reduceEqDiff, reduceIte, obj, getO_cons_zero, getO_cons_succ, List.getElem?_cons_zero, List.getElem?_cons_succ, List.drop_zero, List.drop_succ_cons, loadFrom_cell, loadFrom_agg, List.length_cons, List.length_nil, Nat.reduceAdd, Nat.reduceLeDiff, List.take_succ_cons, List.take_zero, List.take_nil])
theorem c99_ok {l : List ByteArray} (hL : l.length < 2 ^ 62) : ACalls prog 99 [.sl 1 (l.map eS), .func 100 [] []] [] (.bool (l.any fun d => decide (200 < (d.size : Int)))) [] := by
  refine calls_of hmx func99 (by kernel_rfl) (c := f99.body.getD .skip) rfl e99 (rs := [(.t 4)]) (by kernel_rfl) (by simp [ntmps99]) ?_
  simp only [c99, argS]
  simp only [go_sem, seval]
  repeat' first | (refine Rt_pure ?_ rfl; simp only [retO, retO1, retOs, S, get_cons, Nat.reduceEqDiff, reduceIte, obj, getO_cons_zero, getO_cons_succ, List.getElem?_cons_zero, List.getElem?_cons_succ, List.drop_zero, List.drop_succ_cons, loadFrom_cell, loadFrom_agg, List.length_cons, List.length_nil, Nat.reduceAdd, Nat.reduceLeDiff, List.take_succ_cons, List.take_zero, List.take_nil]) | refine CX_pure (c199_ok hL) rfl rfl rfl rfl ?_ | refine GX_call (fun _ => (c199_ok hL)) (by rfl) (by intro h; simp only [h]; rfl) (by rfl) (by rfl) ?_ | (with_reducible intro h; try simp only [h]) | (with_reducible refine And.intro ?_ ?_) | (change chk _ _ = true; rfl) | simp only [go_sem, seval, Vc_bool, idxFrom_any] | refine (GX_split rfl).2 ?_
theorem c27_ok {l : List ByteArray} (hL : l.length < 2 ^ 62) : ACalls prog 27 [.sl 1 (l.map eS)] [] (.bool (strFew l)) [] := by
  refine calls_of hmx func27 (by kernel_rfl) (c := f27.body.getD .skip) rfl e27 (rs := [(.t 2)]) (by kernel_rfl) (by simp [ntmps27]) ?_
  simp only [c27, argS]
  simp only [go_sem, seval]
  repeat' first | (refine Rt_pure ?_ rfl; simp only [retO, retO1, retOs, S, get_cons, Nat.reduceEqDiff, reduceIte, obj, getO_cons_zero, getO_cons_succ, List.getElem?_cons_zero, List.getElem?_cons_succ, List.drop_zero, List.drop_succ_cons, loadFrom_cell, loadFrom_agg, List.length_cons, List.length_nil, Nat.reduceAdd, Nat.reduceLeDiff, List.take_succ_cons, List.take_zero, List.take_nil]) | refine CX_pure (c99_ok hL) rfl rfl rfl rfl ?_ | refine GX_call (fun _ => (c99_ok hL)) (by rfl) (by intro h; simp only [h]; rfl) (by rfl) (by rfl) ?_ | (with_reducible intro h; try simp only [h]) | (with_reducible refine And.intro ?_ ?_) | (change chk _ _ = true; rfl) | simp only [go_sem, seval, Vc_bool] | refine (GX_split rfl).2 ?_
  rfl

def c10 : SC := (.seq (.reg [(.box 4 31 (.t 0)), (.box 5 100 (.t 1)), (.box 6 104 (.t 2)), (.mv 8 (.c (.bool false)))]) (.seq (.seq (.reg [(.call (some 17) (.c (.func 18 [] [])) []), (.not 18 (.t 17))]) (.cond (.t 18) (.seq (.reg [(.mv 8 (.c (.bool false)))]) .ret) .skip)) (.seq (.seq (.reg [(.ld 19 (.t 4) true 14), (.call (some 20) (.c (.func 19 [] [])) [(.t 19)]), (.not 21 (.t 20)), (.mv 22 (.t 21)), (.g 22 false (some 23) (.fa 23 (.t 5) 3)), (.g 22 false (some 24) (.ld 24 (.t 23) false 1)), (.g 22 false (some 25) (.fa 25 (.t 6) 5)), (.g 22 false (some 26) (.ld 26 (.t 25) false 1)), (.g 22 false (some 27) (.bsl 27 9 1 [(.str (ByteArray.mk #[]))] 2 [(0, (.t 24)), (1, (.t 26))])), (.g 22 false (some 28) (.call (some 28) (.c (.func 27 [] [])) [(.t 27)])), (.g 22 false (some 29) (.not 29 (.t 28))), (.pick 30 (.t 22) (.c (.bool true)) (.t 29)), (.mv 31 (.t 30)), (.g 31 false (some 32) (.fa 32 (.t 5) 4)), (.g 31 false (some 33) (.ld 33 (.t 32) false 1)), (.g 31 false (some 34) (.len 34 false (.t 33))), (.g 31 false (some 35) (.bin 35 .gtr (.t 34) (.c (.int .i64 40)))), (.pick 36 (.t 31) (.c (.bool true)) (.t 35))]) (.cond (.t 36) (.seq (.reg [(.mv 8 (.c (.bool true)))]) .ret) .skip)) (.seq (.reg [(.ld 38 (.t 4) true 14), (.ld 39 (.t 5) true 5), (.call (some 40) (.c (.func 45 [] [])) [(.t 38), (.t 39)]), (.mv 37 (.t 40)), (.ext 41 (.t 37) 0), (.ext 42 (.t 37) 1), (.alc 9 31 [(.int .i64 0), (.int .i64 0), .nil, (.int .i64 0), .nil, .nil, .nil, (.int .i64 0), (.int .i64 0), (.int .i64 0), (.int .i64 0), (.int .i64 0), (.int .i64 0), (.int .i64 0)]), (.st (.t 9) (.t 41) 14), (.mv 10 (.t 42))]) (.seq (.reg [(.ld 44 (.t 4) true 14), (.ld 45 (.t 5) true 5), (.call (some 46) (.c (.func 46 [] [])) [(.t 44), (.t 45)]), (.mv 43 (.t 46)), (.ext 47 (.t 43) 0), (.ext 48 (.t 43) 1), (.alc 11 31 [(.int .i64 0), (.int .i64 0), .nil, (.int .i64 0), .nil, .nil, .nil, (.int .i64 0), (.int .i64 0), (.int .i64 0), (.int .i64 0), (.int .i64 0), (.int .i64 0), (.int .i64 0)]), (.st (.t 11) (.t 47) 14), (.mv 12 (.t 48))]) (.seq (.seq (.reg [(.mv 49 (.t 10)), (.mv 50 (.t 12)), (.bin 51 .neq (.t 49) (.t 50)), (.mv 52 (.t 51)), (.g 52 false (some 53) (.ld 53 (.t 9) true 14)), (.g 52 false (some 54) (.ld 54 (.t 11) true 14)), (.g 52 false (some 55) (.call (some 55) (.c (.func 24 [] [])) [(.t 53), (.t 54)])), (.g 52 false (some 56) (.not 56 (.t 55))), (.pick 57 (.t 52) (.c (.bool true)) (.t 56))]) (.cond (.t 57) (.seq (.reg [(.mv 8 (.c (.bool false)))]) .ret) .skip)) (.seq (.reg [(.ld 59 (.t 4) true 14), (.ld 60 (.t 6) true 6), (.call (some 61) (.c (.func 47 [] [])) [(.t 59), (.t 60)]), (.mv 58 (.t 61)), (.ext 62 (.t 58) 0), (.ext 63 (.t 58) 1), (.ext 64 (.t 58) 2), (.alc 13 31 [(.int .i64 0), (.int .i64 0), .nil, (.int .i64 0), .nil, .nil, .nil, (.int .i64 0), (.int .i64 0), (.int .i64 0), (.int .i64 0), (.int .i64 0), (.int .i64 0), (.int .i64 0)]), (.st (.t 13) (.t 62) 14), (.mv 14 (.t 63)), (.mv 10 (.t 64))]) (.seq (.reg [(.ld 66 (.t 4) true 14), (.ld 67 (.t 6) true 6), (.call (some 68) (.c (.func 48 [] [])) [(.t 66), (.t 67)]), (.mv 65 (.t 68)), (.ext 69 (.t 65) 0), (.ext 70 (.t 65) 1), (.ext 71 (.t 65) 2), (.alc 15 31 [(.int .i64 0), (.int .i64 0), .nil, (.int .i64 0), .nil, .nil, .nil, (.int .i64 0), (.int .i64 0), (.int .i64 0), (.int .i64 0), (.int .i64 0), (.int .i64 0), (.int .i64 0)]), (.st (.t 15) (.t 69) 14), (.mv 16 (.t 70)), (.mv 12 (.t 71))]) (.seq (.seq (.reg [(.mv 72 (.t 10)), (.mv 73 (.t 12)), (.bin 74 .neq (.t 72) (.t 73)), (.mv 75 (.t 74)), (.g 75 false (some 76) (.ld 76 (.t 13) true 14)), (.g 75 false (some 77) (.ld 77 (.t 15) true 14)), (.g 75 false (some 78) (.call (some 78) (.c (.func 24 [] [])) [(.t 76), (.t 77)])), (.g 75 false (some 79) (.not 79 (.t 78))), (.pick 80 (.t 75) (.c (.bool true)) (.t 79)), (.mv 81 (.t 80)), (.g 81 false (some 82) (.mv 82 (.t 14))), (.g 81 false (some 83) (.mv 83 (.t 16))), (.g 81 false (some 84) (.call (some 84) (.c (.func 49 [] [])) [(.t 82), (.t 83)])), (.g 81 false (some 85) (.not 85 (.t 84))), (.pick 86 (.t 81) (.c (.bool true)) (.t 85))]) (.cond (.t 86) (.seq (.reg [(.mv 8 (.c (.bool false)))]) .ret) .skip)) (.seq (.reg [(.ld 88 (.t 4) true 14), (.mv 89 (.t 3)), (.call (some 90) (.c (.func 50 [] [])) [(.t 88), (.t 89)]), (.mv 87 (.t 90)), (.ext 91 (.t 87) 0), (.ext 92 (.t 87) 1), (.ext 93 (.t 87) 2), (.st (.t 13) (.t 91) 14), (.mv 14 (.t 92)), (.mv 10 (.t 93))]) (.seq (.reg [(.ld 95 (.t 4) true 14), (.mv 96 (.t 3)), (.call (some 97) (.c (.func 51 [] [])) [(.t 95), (.t 96)]), (.mv 94 (.t 97)), (.ext 98 (.t 94) 0), (.ext 99 (.t 94) 1), (.ext 100 (.t 94) 2), (.st (.t 15) (.t 98) 14), (.mv 16 (.t 99)), (.mv 12 (.t 100))]) (.seq (.reg [(.mv 101 (.t 10)), (.mv 102 (.t 12)), (.bin 103 .eql (.t 101) (.t 102)), (.mv 104 (.t 103)), (.g 104 true (some 105) (.ld 105 (.t 13) true 14)), (.g 104 true (some 106) (.ld 106 (.t 15) true 14)), (.g 104 true (some 107) (.call (some 107) (.c (.func 24 [] [])) [(.t 105), (.t 106)])), (.pick 108 (.t 104) (.t 107) (.c (.bool false))), (.mv 109 (.t 108)), (.g 109 true (some 110) (.mv 110 (.t 14))), (.g 109 true (some 111) (.mv 111 (.t 16))), (.g 109 true (some 112) (.call (some 112) (.c (.func 49 [] [])) [(.t 110), (.t 111)])), (.pick 113 (.t 109) (.t 112) (.c (.bool false))), (.mv 8 (.t 113))]) .ret))))))))))))
theorem e10 : compC prog f10.ntmps (f10.body.getD .skip) = c10 := by kernel_rfl
theorem settleG_bd {s : Station} (h : StBd s) : StBd (settleG s) := by
  unfold settleG
  split
  · exact h
  · exact h
theorem settle_bd {s : Station} (h : StBd s) : StBd (Sp.settle s) := by
  unfold Sp.settle
  split
  · exact h
  · exact h
theorem zero_bd : StBd Station.zero := ⟨by decide, by decide, by decide, (by intro h hh; cases hh), by decide⟩
theorem hold_bd {s : Station} {h : Held} (hb : StBd s) (h1 : s.held.length < 2 ^ 60) (h2 : h.acked.length < 2 ^ 62) : StBd (holdE s h).1 := by
  obtain ⟨b1, b2, b3, b4, b5⟩ := hb
  unfold holdE
  repeat' split
  all_goals first | exact zero_bd | skip
  refine ⟨b1, b2, ?_, ?_, b5⟩
  · show (putSrt (fun y : Held => y.flow) s.held h).length < 2 ^ 62
    rw [putSrt_len]; split <;> omega
  · intro x hx
    have hx' : x ∈ putSrt (fun y : Held => y.flow) s.held h := hx
    unfold putSrt at hx'
    split at hx'
    · rcases List.mem_or_eq_of_mem_set hx' with h3 | h3
      · exact b4 x h3
      · rw [h3]; exact h2
    · rcases List.mem_append.1 hx' with h3 | h3
      · exact b4 x (List.mem_of_mem_take h3)
      · rcases List.mem_cons.1 h3 with h3 | h3
        · rw [h3]; exact h2
        · exact b4 x (List.mem_of_mem_drop h3)
theorem put_bd {s : Station} {p : Packet} (hb : StBd s) (h1 : s.q.pk.length < 2 ^ 60) : StBd (putE s p).1 ∧ (putE s p).2.1.length < 2 ^ 62 := by
  obtain ⟨hq, ho⟩ := qPut_len s.q p
  unfold putE
  repeat' split
  all_goals first | exact ⟨zero_bd, by show (0:Nat) < _; decide⟩ | skip
  exact ⟨settleG_bd ⟨hb.1, by show (qPutE s.q p).1.pk.length < _; omega, hb.2.2.1, hb.2.2.2.1, hb.2.2.2.2⟩, by show (qPutE s.q p).2.1.length < _; omega⟩
theorem exp_bd {s : Station} {slot : Int} (hb : StBd s) : StBd (expE s slot).1 ∧ (expE s slot).2.1.length < 2 ^ 62 := by
  unfold expE
  split
  · exact ⟨zero_bd, by show (0:Nat) < _; decide⟩
  · have f1 := List.length_filter_le (fun p => !stale p slot) s.q.pk
    have f2 := List.length_filter_le (fun p => stale p slot) s.q.pk
    have f3 := List.length_filter_le (fun h : Held => !decide (h.upto < slot)) s.held
    have h2 := hb.2.1
    have h3 := hb.2.2.1
    exact ⟨settle_bd ⟨hb.1, by show (s.q.pk.filter fun p => !stale p slot).length < _; omega, by show (s.held.filter fun h => !decide (h.upto < slot)).length < _; omega, fun x hx => hb.2.2.2.1 x ((List.mem_filter.1 hx).1), hb.2.2.2.2⟩, by show (s.q.pk.filter fun p => stale p slot).length < _; omega⟩
theorem c10_ok {s : Station} {h : Held} {p : Packet} {slot : Int} (hB2 : s.q.pk.length < 2 ^ 63) (hB3 : s.held.length < 2 ^ 63) : ACalls prog 10 [.agg s.enc, .agg h.enc, .agg p.enc, .int .i64 slot] [] (.bool true) [] := by
  refine calls_of hmx func10 (by kernel_rfl) (c := f10.body.getD .skip) rfl e10 (rs := [(.t 8)]) (by kernel_rfl) (by simp [ntmps10]) ?_
  simp only [c10, argS]
  cases hf : stFew s
  · repeat' first | (refine Rt_pure ?_ rfl; simp only [retO, retO1, retOs, S, get_cons, Nat.reduceEqDiff, reduceIte, obj, getO_cons_zero, getO_cons_succ, List.getElem?_cons_zero, List.getElem?_cons_succ, List.drop_zero, List.drop_succ_cons, loadFrom_cell, loadFrom_agg, List.length_cons, List.length_nil, Nat.reduceAdd, Nat.reduceLeDiff, List.take_succ_cons, List.take_zero, List.take_nil]) | refine CX_pure (c18_ok) rfl rfl rfl rfl ?_ | refine CX_pure (c19w_pf s hB2 hB3) rfl rfl rfl rfl ?_ | refine GX_call (fun _ => (c18_ok)) (by rfl) (by intro h; simp only [h]; rfl) (by rfl) (by rfl) ?_ | refine GX_call (fun _ => (c19w_pf s hB2 hB3)) (by rfl) (by intro h; simp only [h]; rfl) (by rfl) (by rfl) ?_ | (with_reducible intro h; try simp only [h]) | (with_reducible refine And.intro ?_ ?_) | (change chk _ _ = true; rfl) | simp only [go_sem, seval, Vc_bool, hf] | refine (GX_split rfl).2 ?_
  · have hcl := few_cl hf
    have hst := hcl.st
    have hfew := hf
    simp only [stFew, qFew, heldFew, Bool.and_eq_true, decide_eq_true_eq] at hfew
    obtain ⟨⟨⟨_, hq, _⟩, hh, _⟩, _⟩ := hfew
    repeat' first | refine CX_pure (c18_ok) rfl rfl rfl rfl ?_ | refine CX_pure (c19w_pf s hB2 hB3) rfl rfl rfl rfl ?_ | refine GX_call (fun _ => (c18_ok)) (by rfl) (by intro h; simp only [h]; rfl) (by rfl) (by rfl) ?_ | refine GX_call (fun _ => (c19w_pf s hB2 hB3)) (by rfl) (by intro h; simp only [h]; rfl) (by rfl) (by rfl) ?_ | (with_reducible intro h; try simp only [h]) | (with_reducible refine And.intro ?_ ?_) | (change chk _ _ = true; rfl) | simp only [go_sem, seval, Vc_bool, hf] | refine (GX_split rfl).2 ?_
    refine CX.gs (Gs_freeze 3 (s' := [(27, .sl 1 ([h.data, p.data].map eS)), (22, .bool false), (3, .int .i64 slot), (4, .ptr 0 0 0 0), (5, .ptr 1 0 0 0), (6, .ptr 2 0 0 0)]) (H' := [.cells 0 14 31 true [s.enc], .cells 0 5 100 true [h.enc], .cells 0 6 104 true [p.enc], .dead]) rfl ?_ ?_) ?_
    · repeat' (first | exact FzL.nil | refine FzL.cons ?_ ?_ | exact Fz.wk (Wk.refl _) | exact Fz.wk (Wk.nil _) | exact Fz.wk (Wk.emp _) | exact Fz.row0 _ _ _ _ | exact FzH.nil _ | exact FzO.refl _ | refine FzO.one ?_ | refine FzH.cons (by decide) ?_ ?_ | refine FzH.this rfl ?_ | exact FzO.dead (by simp) | (simp only [List.forall_mem_cons, List.not_mem_nil, false_implies, implies_true, and_true, go_sem, seval]) | refine And.intro ?_ ?_)
      exact Fz.row 0 2 rfl (cloE_map (f := eS) (xs := [h.data, p.data]) fun _ => by rfl)
    · repeat' (first | exact FzL.nil | refine FzL.cons ?_ ?_ | exact Fz.wk (Wk.refl _) | exact Fz.wk (Wk.nil _) | exact Fz.wk (Wk.emp _) | exact Fz.row0 _ _ _ _ | exact FzH.nil _ | exact FzO.refl _ | refine FzO.one ?_ | refine FzH.cons (by decide) ?_ ?_ | refine FzH.this rfl ?_ | exact FzO.dead (by simp) | (simp only [List.forall_mem_cons, List.not_mem_nil, false_implies, implies_true, and_true, go_sem, seval]) | refine And.intro ?_ ?_)
    refine CX_pure (c27_ok (l := [h.data, p.data]) (show 2 < 2 ^ 62 by decide)) rfl rfl rfl rfl ?_
    cases hr : strFew [h.data, p.data]
    · repeat' first | (with_reducible intro h; try simp only [h]) | (with_reducible refine And.intro ?_ ?_) | (change chk _ _ = true; rfl) | simp only [go_sem, seval, Vc_bool] | refine (GX_split rfl).2 ?_
      exact Rt_pure (by rfl) (by rfl)
    · cases ha : decide ((40 : Int) < (h.acked.length : Int)) with
      | true =>
        repeat' first | (with_reducible intro h; try simp only [h]) | (with_reducible refine And.intro ?_ ?_) | (change chk _ _ = true; rfl) | simp only [go_sem, seval, Vc_bool, ha, List.length_map] | refine (GX_split rfl).2 ?_
        exact Rt_pure (by rfl) (by rfl)
      | false =>
        have hal : h.acked.length ≤ 40 := by have := of_decide_eq_false ha; omega
        have h45 := c45_ok (s := s) (h := h) hcl (by omega) (by omega)
        have h46 := c46_ok (s := s) (h := h) hst (by omega) (by omega)
        rw [← hold_eq] at h46
        have h24a := c24_ok (s := (holdE s h).1) (hold_bd hst (by omega) (by omega))
        have h47 := c47_ok (s := s) (p := p) hcl (by omega)
        have h48 := c48_ok (s := s) (p := p) hst (by omega)
        obtain ⟨hp1, hp2⟩ := put_bd (p := p) hst (by omega)
        have h24b := c24_ok (s := (putE s p).1) hp1
        have h49b := c49_ok (l := (putE s p).2.1) hp2
        have h50 := c50_ok (s := s) (slot := slot) hcl
        have h51 := c51_ok (s := s) (slot := slot) hst
        obtain ⟨he1, he2⟩ := exp_bd (slot := slot) hst
        have h24c := c24_ok (s := (expE s slot).1) he1
        have h49c := c49_ok (l := (expE s slot).2.1) he2
        repeat' first | refine CX_pure (h45) rfl rfl rfl rfl ?_ | refine CX_pure (h46) rfl rfl rfl rfl ?_ | refine CX_pure (h24a) rfl rfl rfl rfl ?_ | refine CX_pure (h47) rfl rfl rfl rfl ?_ | refine CX_pure (h48) rfl rfl rfl rfl ?_ | refine CX_pure (h24b) rfl rfl rfl rfl ?_ | refine CX_pure (h49b) rfl rfl rfl rfl ?_ | refine CX_pure (h50) rfl rfl rfl rfl ?_ | refine CX_pure (h51) rfl rfl rfl rfl ?_ | refine CX_pure (h24c) rfl rfl rfl rfl ?_ | refine CX_pure (h49c) rfl rfl rfl rfl ?_ | refine GX_call (fun _ => (h45)) (by rfl) (by intro h; simp only [h]; rfl) (by rfl) (by rfl) ?_ | refine GX_call (fun _ => (h46)) (by rfl) (by intro h; simp only [h]; rfl) (by rfl) (by rfl) ?_ | refine GX_call (fun _ => (h24a)) (by rfl) (by intro h; simp only [h]; rfl) (by rfl) (by rfl) ?_ | refine GX_call (fun _ => (h47)) (by rfl) (by intro h; simp only [h]; rfl) (by rfl) (by rfl) ?_ | refine GX_call (fun _ => (h48)) (by rfl) (by intro h; simp only [h]; rfl) (by rfl) (by rfl) ?_ | refine GX_call (fun _ => (h24b)) (by rfl) (by intro h; simp only [h]; rfl) (by rfl) (by rfl) ?_ | refine GX_call (fun _ => (h49b)) (by rfl) (by intro h; simp only [h]; rfl) (by rfl) (by rfl) ?_ | refine GX_call (fun _ => (h50)) (by rfl) (by intro h; simp only [h]; rfl) (by rfl) (by rfl) ?_ | refine GX_call (fun _ => (h51)) (by rfl) (by intro h; simp only [h]; rfl) (by rfl) (by rfl) ?_ | refine GX_call (fun _ => (h24c)) (by rfl) (by intro h; simp only [h]; rfl) (by rfl) (by rfl) ?_ | refine GX_call (fun _ => (h49c)) (by rfl) (by intro h; simp only [h]; rfl) (by rfl) (by rfl) ?_ | (with_reducible intro h; try simp only [h]) | (with_reducible refine And.intro ?_ ?_) | (change chk _ _ = true; rfl) | simp only [go_sem, seval, Vc_bool, ha, List.length_map, dec_self] | refine (GX_split rfl).2 ?_
        exact Rt_pure (by rfl) (by rfl)

end Go.Av.T
