/- The seat: part Dn11. -/
import Derived.Test.YtmhchaedhmnofaaGreatDn10
import Derived.KernelRfl
import Derived.Test.YtmhchaedhmnofaaGreatDn5
import Derived.Test.YtmhchaedhmnofaaGreatDn7
set_option maxRecDepth 100000
set_option maxHeartbeats 1000000
set_option linter.unusedSimpArgs false
set_option linter.unusedVariables false
namespace Go.Av.T
open Go Go.Av Go.Av.Sp Go.Proofs.Tryz
theorem c204_3 {s : Station} {slot : Int} {c : TCell} {p : Packet} (hC : s.tab.cells.length < 2 ^ 62) (hL : s.q.pk.length < 2 ^ 62) (hk : c.kind = 3) (hq : candidate s = some p) : ACalls prog 204 [.ptr 0 0 0 0] [.cells 0 21 176 true [wEnc s slot c]] (.agg p.enc) [.cells 0 21 176 true [wEnc s slot c]] := by
  have h104 := c104_ok (s := s) (slot := slot) (c := c) hC hL
  rw [hq, oPk_some] at h104
  rcases c with ⟨cs, co, ck, cd, cp, cf⟩
  obtain rfl : ck = 3 := hk
  refine calls_of hmx func204 (by kernel_rfl) (c := f204.body.getD .skip) rfl e204 (rs := [(.cell 2 true 6)]) (by kernel_rfl) (by simp [ntmps204]) ?_
  simp only [c204, argS]
  repeat' first | refine CX_rd [0] (h104) (by rfl) (by rfl) (by rfl) (by rfl) (by rfl) (by decide) (by rfl) (by rfl) (by rfl) ?_ | (with_reducible intro h; try simp only [h]) | (with_reducible refine And.intro ?_ ?_) | (change chk _ _ = true; rfl) | simp only [go_sem, seval, Vc_bool] | refine (GX_split rfl).2 ?_
  exact Rt_T (H := [_]) _ (by rfl) (by rfl) (by rfl) (Nat.le_refl _)
theorem chain_mem {α : Type} {ok : α → Bool} {lt : α → α → Bool} : ∀ (xs : List α) (p : Option α), chain ok lt p xs = true → ∀ x ∈ xs, ok x = true
  | [], _, _, x, hx => by cases hx
  | y :: ys, p, h, x, hx => by
    simp only [chain, Bool.and_eq_true] at h
    rcases List.mem_cons.1 hx with rfl | hx
    · exact h.1.1
    · exact chain_mem ys (some y) h.2 x hx
theorem acked_srt {s : Station} {x : Held} (h : stOk s = true) (hx : x ∈ s.held) : x.acked.Pairwise (fun a b => a < b) := by
  simp only [stOk, heldOk, Bool.and_eq_true, decide_eq_true_eq] at h
  have h1 := chain_mem _ _ h.1.1.1.1.1.1.1.2.1 x hx
  simp only [hOk, hRange, rising, Bool.and_eq_true] at h1
  exact (chain_pair (f := fun n : Int => n) (fun a b h => of_decide_eq_true h) _ _ h1.1.2).1
/-- heard, whatever was heard. -/
theorem c105_got {s : Station} {slot : Int} {c : TCell} {f : Sp.Frame} (hL : s.held.length < 2 ^ 62) (hS : s.seen.length < 2 ^ 40) (hs : s.seen.Pairwise (fun a b => a.node < b.node)) :
    ACalls prog 105 [.ptr 0 0 0 0, .agg f.enc] [.cells 0 21 176 true [wEncN s 1 slot c], .cells 1 2 160 false (s.seen.map Seen.enc)] (.agg (gotFr s f).2.enc) [.cells 0 21 176 true [wEnc (gotFr s f).1 slot c], .dead] := by
  cases hF : frFor f s.tab.node with
  | false =>
    have e : gotFr s f = (s, Up.zero) := by simp [gotFr, hF]
    rw [e]
    exact c105_no (by rw [hF]; rfl)
  | true =>
    by_cases h2 : f.kind = 2
    · have e : gotFr s f = (s, Up.zero) := by simp [gotFr, h2]
      rw [e]
      exact c105_no (by simp [h2])
    · by_cases h1 : f.kind = 1
      · have e : gotFr s f = (s, ⟨true, upNew s f, f⟩) := by simp [gotFr, hF, h1, upNew]; cases heldOf s.held f.flow <;> rfl
        rw [e]
        exact c105_1 hL hF h1 rfl
      · by_cases h4 : f.kind = 4 ∧ f.tgt = s.tab.node
        · have h := c105_4 (s := s) (slot := slot) (c := c) (f := f) hS (hs.imp fun h => Int.le_of_lt h) hF h4.1 h4.2
          have e1 : (s.seen.any fun y => decide ((⟨f.src, f.seq⟩ : Seen) = y)) = s.seen.any fun y => decide (y = (⟨f.src, f.seq⟩ : Seen)) := by
            congr 1; funext y; rw [decide_eq_decide]; exact eq_comm
          have e2 : seeAt s.seen ⟨f.src, f.seq⟩ = see s.seen ⟨f.src, f.seq⟩ := put_srt (f := fun y : Seen => y.node) hs
          rw [e1, e2] at h
          have e : gotFr s f = ({ s with seen := see s.seen ⟨f.src, f.seq⟩ }, ⟨true, !(s.seen.any fun y => decide (y = ⟨f.src, f.seq⟩)), f⟩) := by simp [gotFr, hF, h4.1, h4.2]
          rw [e]
          exact h
        · have e : gotFr s f = (s, ⟨true, true, f⟩) := by simp [gotFr, hF, h1, h2, h4]
          rw [e]
          refine c105_3 hF (by simpa using h1) (by simpa using h2) ?_
          rw [Bool.and_eq_false_iff, decide_eq_false_iff_not, decide_eq_false_iff_not]
          by_cases h5 : f.kind = 4
          · exact .inr fun h => h4 ⟨h5, h⟩
          · exact .inl h5
structure DnBd (s : Station) : Prop where
  cl : ClBd s
  seen : s.seen.length < 2 ^ 40
  ack : ∀ h ∈ s.held, h.acked.length < 2 ^ 40
theorem sent_28 {s : Station} {slot : Int} {r : Sp.Result} {a : Action} {c : TCell} {p : Packet} (hB : ClBd s) (hE : slotErr s slot = 0) (hc : cellAt s slot = c) (hA : ACalls prog 97 [.ptr 0 0 0 0] [.cells 0 21 176 true [wEnc s slot c]] (.agg a.enc) [.cells 0 21 176 true [wEnc s slot c]]) (ha : a.kind = 1) (hf : a.fr.kind = 4)
    (hp : p ∈ s.q.pk) (h204 : ACalls prog 204 [.ptr 0 0 0 0] [.cells 0 21 176 true [wEnc s slot c]] (.agg p.enc) [.cells 0 21 176 true [wEnc s slot c]]) :
    ACalls prog 28 [.agg s.enc, .int .i64 slot, .agg r.enc] [] (.tup [.agg (sentPk s (decide (c.kind = 3)) p r.acked).enc, .agg Up.zero.enc, .int .i64 0]) [] := by
  obtain ⟨g1, g2, g3, g4, g5⟩ := slot0 hE
  obtain ⟨b1, b2, b3, b4, b5⟩ := st_bd g1
  obtain ⟨i, hi⟩ := List.mem_iff_getElem?.1 hp
  have hx : pkIdx s.q.pk p.id = i := by
    rcases idxFrom_range (fun y : Packet => decide (y.id = p.id)) s.q.pk 0 with ⟨h1, h2⟩ | ⟨k, y, h1, h2, h3, h4⟩
    · have := h2 p hp; simp at this
    · have hy : y.id = p.id := of_decide_eq_true h2
      have hik : k = i := by
        rcases Nat.lt_trichotomy k i with h | h | h
        · have hnd := q_nodup g5
          rw [List.pairwise_iff_getElem] at hnd
          obtain ⟨hk', ek⟩ := List.getElem?_eq_some_iff.1 h1
          obtain ⟨hi', ei⟩ := List.getElem?_eq_some_iff.1 hi
          exact absurd (by rw [ek, ei]; exact hy) (hnd k i hk' hi' h)
        · exact h
        · have := h4 i p h hi; simp at this
      rw [pkIdx, h3, hik, Nat.zero_add]
  have h103 := c103_ok (acked := r.acked) hB.q g5 hi hx b1 b2 b3 b5 h204
  rw [sent_at g5 hi]
  refine c28_sent hB hE (by rw [hc]; exact hA) ha hf ?_
  rw [hc]
  exact h103
theorem listen_28 {s : Station} {slot : Int} {r : Sp.Result} {c : TCell} (hB : DnBd s) (hE : slotErr s slot = 0) (hc : cellAt s slot = c)
    (hA : ACalls prog 97 [.ptr 0 0 0 0] [.cells 0 21 176 true [wEnc s slot c]] (.agg (Action.enc ⟨2, c.off, Frame.zero⟩)) [.cells 0 21 176 true [wEnc s slot c]])
    (hN : ACalls prog 97 [.ptr 0 0 0 0] [.cells 0 21 176 true [wEncN s 1 slot c], .cells 1 2 160 false (s.seen.map Seen.enc)] (.agg (Action.enc ⟨2, c.off, Frame.zero⟩)) [.cells 0 21 176 true [wEncN s 1 slot c], .cells 1 2 160 false (s.seen.map Seen.enc)]) :
    ACalls prog 28 [.agg s.enc, .int .i64 slot, .agg r.enc] [] (.tup [.agg (if r.heard = true then gotFr (waited s c) r.fr else (waited s c, Up.zero)).1.enc, .agg (if r.heard = true then gotFr (waited s c) r.fr else (waited s c, Up.zero)).2.enc, .int .i64 0]) [] := by
  obtain ⟨g1, g2, g3, g4, g5⟩ := slot0 hE
  obtain ⟨b1, b2, b3, b4, b5⟩ := st_bd g1
  have hst := hB.cl.st
  cases hh : r.heard with
  | false =>
    have h := c28_lis (r := r) (a := ⟨2, c.off, Frame.zero⟩) hB.cl hE b4 (by rw [hc]; exact hA) rfl hh
    rw [hc] at h
    exact h
  | true =>
    have hs := seen_srt g1
    by_cases h3 : c.kind = 3 ∧ (candidate s).isSome = true
    · obtain ⟨p, hp⟩ := Option.isSome_iff_exists.1 h3.2
      have e : waited s c = { s with wait := s.wait - 1 } := by rw [waited, if_pos h3]
      rw [e]
      refine c28_heard3 (a := ⟨2, c.off, Frame.zero⟩) hB.cl hE b4 (by rw [hc]; exact hN) rfl (by rw [hc]; exact h3.1) hp hh ?_
      rw [hc]
      exact c105_got (s := { s with wait := s.wait - 1 }) hst.2.2.1 hB.seen hs
    · have e : waited s c = s := by rw [waited, if_neg h3]
      rw [e]
      refine c28_heard (a := ⟨2, c.off, Frame.zero⟩) hB.cl hE (by rw [hc]; exact hN) rfl ?_ hh ?_
      · rw [hc]
        by_cases h4 : c.kind = 3
        · right
          cases hq : candidate s with
          | none => rfl
          | some p => exact absurd ⟨h4, by rw [hq]; rfl⟩ h3
        · exact .inl h4
      · rw [hc]
        exact c105_got hst.2.2.1 hB.seen hs

end Go.Av.T
set_option maxRecDepth 100000
set_option maxHeartbeats 1000000
set_option linter.unusedSimpArgs false
set_option linter.unusedVariables false
namespace Go.Av.T
open Go Go.Av Go.Av.Sp Go.Proofs.Tryz
theorem done_lis {s : Station} {slot : Int} {r : Sp.Result} {c : TCell} {pk : Option Packet} (hp : plan s slot = ⟨⟨2, c.off, Frame.zero⟩, c, pk⟩) (hw : waited s c = if pk.isSome = true then { s with wait := s.wait - 1 } else s) :
    doneP s slot r = if r.heard = true then gotFr (waited s c) r.fr else (waited s c, Up.zero) := by
  cases pk <;> simp [doneP, hp, hw]
theorem done_sleep {s : Station} {slot : Int} {r : Sp.Result} {c : TCell} {pk : Option Packet} (hp : plan s slot = ⟨Action.zero, c, pk⟩) : doneP s slot r = (s, Up.zero) := by
  simp only [doneP, hp]
  rfl
theorem done_sent {s : Station} {slot : Int} {r : Sp.Result} {c : TCell} {a : Action} {p : Packet} (hp : plan s slot = ⟨a, c, some p⟩) (ha : a.kind = 1) : doneP s slot r = (sentPk s (decide (c.kind = 3)) p r.acked, Up.zero) := by
  simp only [doneP, hp, ha, if_true]
theorem done_data {s : Station} {slot : Int} {r : Sp.Result} {c : TCell} {a : Action} (hp : plan s slot = ⟨a, c, none⟩) (ha : a.kind = 1) : doneP s slot r = (if r.acked = true then { s with held := ackH s.held c.flow c.peer } else s, Up.zero) := by
  simp only [doneP, hp, ha, if_true]
/-- Done returns what it should. -/
theorem c28_ok {s : Station} {slot : Int} {r : Sp.Result} (hB : DnBd s) : ACalls prog 28 [.agg s.enc, .int .i64 slot, .agg r.enc] [] (.tup [.agg (doneE s slot r).1.enc, .agg (doneE s slot r).2.1.enc, .int .i64 (doneE s slot r).2.2]) [] := by
  have hst := hB.cl.st
  by_cases hE : slotErr s slot = 0
  · have e0 : doneE s slot r = ((doneP s slot r).1, (doneP s slot r).2, 0) := by simp [doneE, hE]
    rw [e0]
    obtain ⟨g1, g2, g3, g4, g5⟩ := slot0 hE
    cases hc : tabAt s.tab slot with
    | none =>
      have e1 : cellAt s slot = TCell.zero := by rw [cellAt, hc]; rfl
      have e2 : plan s slot = ⟨Action.zero, TCell.zero, none⟩ := by simp only [plan, hc]
      rw [done_sleep e2]
      exact c28_sleep (a := Action.zero) hB.cl hE (by rw [e1]; exact c97_0 rfl) rfl
    | some c =>
      have e1 : cellAt s slot = c := by rw [cellAt, hc]; rfl
      have hm : ∀ (l : List Int), (l.any fun y => decide (c.peer = y)) = true ↔ c.peer ∈ l := by intro l; simp [List.any_eq_true]
      rcases cell_kind g4 (tabAt_mem hc) with hk | hk | hk
      · have hA := c97_1 (slot := slot) hk (c192_ok (s := s) (slot := slot) hst.2.2.1 hst.2.2.2.1)
        by_cases hs : c.send = true
        · cases hh : heldOf s.held c.flow with
          | none =>
            have e2 : plan s slot = ⟨Action.zero, c, none⟩ := by simp [plan, hc, hk, hs, hh]
            have e3 : offd (ctlSt s slot c) c = Action.zero := by simp [ctlSt, hs, hh, offd, Action.zero]
            rw [e3] at hA
            rw [done_sleep e2]
            exact c28_sleep (a := Action.zero) hB.cl hE (by rw [e1]; exact hA) rfl
          | some x =>
            by_cases hx : x.upto < slot ∨ c.peer ∈ x.acked
            · have e2 : plan s slot = ⟨Action.zero, c, none⟩ := by simp [plan, hc, hk, hs, hh, hx]
              have e3 : offd (ctlSt s slot c) c = Action.zero := by simp [ctlSt, hs, hh, hm, hx, offd, Action.zero]
              rw [e3] at hA
              rw [done_sleep e2]
              exact c28_sleep (a := Action.zero) hB.cl hE (by rw [e1]; exact hA) rfl
            · have e2 : plan s slot = ⟨⟨1, c.off, dataOf s x c.peer⟩, c, none⟩ := by simp [plan, hc, hk, hs, hh, hx]
              have e3 : offd (ctlSt s slot c) c = ⟨1, c.off, dataOf s x c.peer⟩ := by simp [ctlSt, hs, hh, hm, hx, offd]
              rw [e3] at hA
              rw [done_data e2 rfl]
              cases hr : r.acked with
              | false =>
                exact c28_data0 (a := ⟨1, c.off, dataOf s x c.peer⟩) hB.cl hE (by rw [e1]; exact hA) rfl rfl hr
              | true =>
                rcases idxFrom_find (fun h : Held => decide (h.flow = c.flow)) s.held with ⟨h1, h2⟩ | ⟨j, y, h1, h2, h3, h4, h5⟩
                · have : heldOf s.held c.flow = none := h2
                  rw [this] at hh; cases hh
                · have h4' : heldOf s.held c.flow = some y := h4
                  rw [hh] at h4'
                  injection h4' with h4'
                  subst h4'
                  have hi : heldIdx s.held c.flow = j := h3
                  have hxm : x ∈ s.held := List.mem_of_getElem? h1
                  have e5 : ackH s.held c.flow c.peer = s.held.set j { x with acked := insertInt x.acked c.peer } := by
                    simp only [ackH, hh, hi, Int.toNat_natCast]
                  simp only [if_true]
                  rw [e5]
                  have hq := c28_ack (r := r) hB.cl hE h1 (by rw [e1]; exact hi) (by rw [e1]; exact of_decide_eq_true h2) hst.2.2.1 (by have := hB.ack x hxm; omega) (by rw [e1]; exact hk) (by rw [e1]; exact hs) (by simpa using fun h => hx (.inl h)) (by rw [e1]; exact Bool.eq_false_iff.2 fun h => hx (.inr ((hm _).1 h))) ((acked_srt g1 hxm).imp fun h => Int.le_of_lt h) hr
                  rw [e1] at hq
                  exact hq
        · have hs' : c.send = false := by simpa using hs
          have e2 : plan s slot = ⟨⟨2, c.off, Frame.zero⟩, c, none⟩ := by simp [plan, hc, hk, hs']
          have e3 : offd (ctlSt s slot c) c = ⟨2, c.off, Frame.zero⟩ := by simp [ctlSt, hs', offd]
          rw [e3] at hA
          rw [done_lis e2 (by simp [waited, hk])]
          exact listen_28 hB hE e1 hA (c97n_1 hk hs')
      · have hA := c97_2 (slot := slot) hk (c193_ok (s := s) (slot := slot) hst.2.1)
        by_cases hs : c.send = true
        · cases hh : qFirst s.q c.peer with
          | none =>
            have e2 : plan s slot = ⟨Action.zero, c, none⟩ := by simp [plan, hc, hk, hs, hh]
            have e3 : offd (agSt s c) c = Action.zero := by simp [agSt, hs, hh, offd, Action.zero]
            rw [e3] at hA
            rw [done_sleep e2]
            exact c28_sleep (a := Action.zero) hB.cl hE (by rw [e1]; exact hA) rfl
          | some p =>
            have e2 : plan s slot = ⟨⟨1, c.off, msgOf s p⟩, c, some p⟩ := by simp [plan, hc, hk, hs, hh]
            have e3 : offd (agSt s c) c = ⟨1, c.off, msgOf s p⟩ := by simp [agSt, hs, hh, offd]
            rw [e3] at hA
            rw [done_sent e2 rfl]
            have hp : p ∈ s.q.pk := by
              have h := hh
              rw [qFirst, if_neg (by simpa using g5)] at h
              exact List.mem_of_find?_eq_some h
            exact sent_28 (a := ⟨1, c.off, msgOf s p⟩) hB.cl hE e1 hA rfl rfl hp (c204_2 hst.2.1 hk hh)
        · have hs' : c.send = false := by simpa using hs
          have e2 : plan s slot = ⟨⟨2, c.off, Frame.zero⟩, c, none⟩ := by simp [plan, hc, hk, hs']
          have e3 : offd (agSt s c) c = ⟨2, c.off, Frame.zero⟩ := by simp [agSt, hs', offd]
          rw [e3] at hA
          rw [done_lis e2 (by simp [waited, hk])]
          exact listen_28 hB hE e1 hA (c97n_2 hk hs')
      · have hA := c97_3 (slot := slot) hk (c194_ok (s := s) (slot := slot) hst.1 hst.2.1)
        cases hh : candidate s with
        | none =>
          have e2 : plan s slot = ⟨⟨2, c.off, Frame.zero⟩, c, none⟩ := by simp [plan, hc, hk, hh]
          have e3 : offd (shSt s) c = ⟨2, c.off, Frame.zero⟩ := by simp [shSt, hh, offd]
          rw [e3] at hA
          rw [done_lis e2 (by simp [waited, hh])]
          exact listen_28 hB hE e1 hA (c97n_3 hst.1 hst.2.1 hk (.inl hh))
        | some p =>
          by_cases hw : s.wait = 0
          · have e2 : plan s slot = ⟨⟨1, c.off, msgOf s p⟩, c, some p⟩ := by simp [plan, hc, hk, hh, hw]
            have e3 : offd (shSt s) c = ⟨1, c.off, msgOf s p⟩ := by simp [shSt, hh, hw, offd]
            rw [e3] at hA
            rw [done_sent e2 rfl]
            have hp : p ∈ s.q.pk := List.mem_of_find?_eq_some hh
            exact sent_28 (a := ⟨1, c.off, msgOf s p⟩) hB.cl hE e1 hA rfl rfl hp (c204_3 hst.1 hst.2.1 hk hh)
          · have e2 : plan s slot = ⟨⟨2, c.off, Frame.zero⟩, c, some p⟩ := by simp [plan, hc, hk, hh, hw]
            have e3 : offd (shSt s) c = ⟨2, c.off, Frame.zero⟩ := by simp [shSt, hh, hw, offd]
            rw [e3] at hA
            rw [done_lis e2 (by simp [waited, hk, hh])]
            exact listen_28 hB hE e1 hA (c97n_3 hst.1 hst.2.1 hk (.inr hw))
  · have e0 : doneE s slot r = (Station.zero, Up.zero, slotErr s slot) := by simp [doneE, hE]
    rw [e0]
    exact c28_err hB.cl hE

end Go.Av.T
set_option maxRecDepth 100000
set_option maxHeartbeats 1000000
set_option linter.unusedSimpArgs false
set_option linter.unusedVariables false
namespace Go.Av.T
open Go Go.Av Go.Av.Sp Go.Proofs.Tryz
def c314L1 : SC := (.seq (.seq (.reg [(.mv 10 (.t 6)), (.fa 11 (.t 2) 1), (.ld 12 (.t 11) false 1), (.len 13 false (.t 12)), (.bin 14 .lss (.t 10) (.t 13))]) (.cond (.t 14) .skip (.exit 0))) (.seq (.block 1 (.seq (.reg [(.fa 17 (.t 2) 1), (.ld 18 (.t 17) false 1), (.mv 19 (.t 6)), (.ia 20 (.t 18) (.t 19) 6), (.fa 21 (.t 20) 0), (.ld 22 (.t 21) false 1), (.mv 23 (.t 1)), (.bin 24 .neq (.t 22) (.t 23))]) (.cond (.t 24) (.regD [(.fa 25 (.t 5) 1), (.ld 26 (.t 25) false 1), (.fa 27 (.t 2) 1), (.ld 28 (.t 27) false 1), (.mv 29 (.t 6)), (.ia 30 (.t 28) (.t 29) 6), (.ld 31 (.t 30) true 6), (.bsl 32 104 6 [(.int .i64 0), (.int .i64 0), (.int .i64 0), (.int .i64 0), (.int .i64 0), (.str (ByteArray.mk #[]))] 1 [(0, (.t 31))]), (.app 33 104 6 56 (.t 26) (.t 32)), (.fa 34 (.t 5) 1), (.st (.t 34) (.t 33) 1)] [(1, 7)]) .skip))) (.reg [(.mv 15 (.t 6)), (.bin 16 .add (.t 15) (.c (.int .i64 1))), (.mv 6 (.t 16))])))
def c314 : SC := (.seq (.reg [(.box 2 27 (.t 0)), (.alc 4 27 [(.int .i64 0), .nil])]) (.seq (.reg [(.fa 7 (.t 2) 0), (.ld 8 (.t 7) false 1), (.bld 9 [(.int .i64 0), .nil] [(0, 1, (.t 8))]), (.alc 5 27 [(.int .i64 0), .nil]), (.st (.t 5) (.t 9) 2)]) (.seq (.seq (.reg [(.mv 6 (.c (.int .i64 0)))]) (.block 0 (.loop c314L1))) (.seq (.reg [(.ld 35 (.t 5) true 2), (.st (.t 4) (.t 35) 2)]) .ret))))
theorem e314 : compC prog f314.ntmps (f314.body.getD .skip) = c314 := by kernel_rfl
def c215 : SC := (.seq (.reg [(.box 2 31 (.t 0)), (.alc 4 31 [(.int .i64 0), (.int .i64 0), .nil, (.int .i64 0), .nil, .nil, .nil, (.int .i64 0), (.int .i64 0), (.int .i64 0), (.int .i64 0), (.int .i64 0), (.int .i64 0), (.int .i64 0)])]) (.seq (.reg [(.fa 5 (.t 2) 3), (.ld 6 (.t 5) true 2), (.mv 7 (.t 1)), (.call (some 8) (.c (.func 314 [] [])) [(.t 6), (.t 7)]), (.fa 9 (.t 2) 3), (.st (.t 9) (.t 8) 2)]) (.seq (.reg [(.fa 10 (.t 2) 8), (.ld 11 (.t 10) false 1), (.bin 12 .add (.t 11) (.c (.int .i64 1))), (.bin 13 .rem (.t 12) (.c (.int .i64 256))), (.fa 14 (.t 2) 8), (.st (.t 14) (.t 13) 1), (.fa 15 (.t 2) 9), (.st (.t 15) (.c (.int .i64 (-1))) 1), (.fa 16 (.t 2) 10), (.st (.t 16) (.c (.int .i64 0)) 1)]) (.seq (.reg [(.ld 17 (.t 2) true 14), (.st (.t 4) (.t 17) 14)]) .ret))))
theorem e215 : compC prog f215.ntmps (f215.body.getD .skip) = c215 := by kernel_rfl
def c106 : SC := (.seq (.reg [(.box 3 31 (.t 0)), (.box 4 170 (.t 1)), (.alc 6 31 [(.int .i64 0), (.int .i64 0), .nil, (.int .i64 0), .nil, .nil, .nil, (.int .i64 0), (.int .i64 0), (.int .i64 0), (.int .i64 0), (.int .i64 0), (.int .i64 0), (.int .i64 0)])]) (.seq (.seq (.reg [(.fa 9 (.t 4) 20), (.fa 10 (.t 9) 1), (.ld 11 (.t 10) false 1), (.bin 12 .eql (.t 11) (.c (.int .i64 (-1))))]) (.cond (.t 12) (.seq (.reg [(.ld 13 (.t 3) true 14), (.fa 14 (.t 4) 20), (.fa 15 (.t 14) 0), (.ld 16 (.t 15) false 1), (.call (some 17) (.c (.func 215 [] [])) [(.t 13), (.t 16)]), (.st (.t 6) (.t 17) 14)]) .ret) .skip)) (.seq (.reg [(.fa 18 (.t 4) 14), (.fa 19 (.t 18) 2), (.ld 20 (.t 19) false 1), (.bin 21 .eql (.t 20) (.c (.int .i64 3))), (.mv 7 (.t 21))]) (.seq (.reg [(.mv 8 (.c (.int .i64 1)))]) (.seq (.seq (.reg [(.fa 22 (.t 3) 9), (.ld 23 (.t 22) false 1), (.fa 24 (.t 4) 20), (.fa 25 (.t 24) 0), (.ld 26 (.t 25) false 1), (.bin 27 .eql (.t 23) (.t 26))]) (.cond (.t 27) (.reg [(.fa 28 (.t 3) 10), (.ld 29 (.t 28) false 1), (.bin 30 .add (.t 29) (.c (.int .i64 1))), (.mv 8 (.t 30))]) .skip)) (.seq (.seq (.reg [(.mv 31 (.t 2)), (.mv 32 (.t 31)), (.g 32 false (some 33) (.mv 33 (.t 8))), (.g 32 false (some 34) (.bin 34 .eql (.t 33) (.c (.int .i64 4)))), (.pick 35 (.t 32) (.c (.bool true)) (.t 34))]) (.cond (.t 35) (.seq (.reg [(.ld 36 (.t 3) true 14), (.fa 37 (.t 4) 20), (.fa 38 (.t 37) 0), (.ld 39 (.t 38) false 1), (.call (some 40) (.c (.func 215 [] [])) [(.t 36), (.t 39)]), (.st (.t 3) (.t 40) 14)]) (.seq (.seq (.reg [(.mv 41 (.t 7))]) (.cond (.t 41) (.reg [(.fa 42 (.t 3) 11), (.st (.t 42) (.c (.int .i64 0)) 1), (.fa 43 (.t 3) 12), (.st (.t 43) (.c (.int .i64 0)) 1)]) .skip)) (.seq (.reg [(.ld 44 (.t 3) true 14), (.st (.t 6) (.t 44) 14)]) .ret))) .skip)) (.seq (.reg [(.fa 45 (.t 4) 20), (.fa 46 (.t 45) 0), (.ld 47 (.t 46) false 1), (.mv 48 (.t 8)), (.fa 49 (.t 3) 9), (.st (.t 49) (.t 47) 1), (.fa 50 (.t 3) 10), (.st (.t 50) (.t 48) 1)]) (.seq (.seq (.reg [(.mv 51 (.t 7))]) (.cond (.t 51) (.seq (.reg [(.fa 52 (.t 3) 11), (.ld 53 (.t 52) false 1), (.bin 54 .add (.t 53) (.c (.int .i64 1))), (.mn 55 (.t 54) (.c (.int .i64 5))), (.fa 56 (.t 3) 11), (.st (.t 56) (.t 55) 1)]) (.seq (.reg [(.fa 57 (.t 3) 13), (.ld 58 (.t 57) false 1), (.bin 59 .mul (.c (.int .i64 1103515245)) (.t 58)), (.bin 60 .add (.t 59) (.c (.int .i64 12345))), (.bin 61 .rem (.t 60) (.c (.int .i64 2147483648))), (.fa 62 (.t 3) 13), (.st (.t 62) (.t 61) 1)]) (.regD [(.fa 63 (.t 3) 13), (.ld 64 (.t 63) false 1), (.bin 65 .quo (.t 64) (.c (.int .i64 65536))), (.fa 66 (.t 3) 11), (.ld 67 (.t 66) false 1), (.call (some 68) (.c (.func 92 [] [])) [(.t 67)]), (.bin 69 .rem (.t 65) (.t 68)), (.fa 70 (.t 3) 12), (.st (.t 70) (.t 69) 1)] [(1, 5)]))) .skip)) (.seq (.reg [(.ld 71 (.t 3) true 14), (.st (.t 6) (.t 71) 14)]) .ret)))))))))
theorem e106 : compC prog f106.ntmps (f106.body.getD .skip) = c106 := by kernel_rfl
theorem l314 (q : Queue) (id : Int) (hL : q.pk.length * 56 ≤ 140737488355328) (k' : List It) (hk : ∀ zs (st : Nat) (out : List Packet), get zs 4 = .ptr 1 0 0 0 → get zs 5 = .ptr 2 0 0 0 → V prog f314.ntmps 0 (Ret [.cell 4 true 2] 0 (.agg (Queue.enc ⟨q.limit, out⟩)) []) k' zs [.cells 0 2 27 true [q.enc], .cells 0 2 27 true [[.int .i64 0, .nil]], .cells 0 2 27 true [[.int .i64 q.limit, .row 3 st 0 out.length]], .cells st 6 104 false (out.map Packet.enc)]) :
    ∀ (rest done out : List Packet) (st : Nat), q.pk = done ++ rest → out.length ≤ done.length →
    Lp prog f314.ntmps 0 (Ret [.cell 4 true 2] 0 (.agg (Queue.enc ⟨q.limit, out ++ qWithout rest id⟩)) []) c314L1 (.blk 0 :: k') [(2, .ptr 0 0 0 0), (4, .ptr 1 0 0 0), (5, .ptr 2 0 0 0), (1, .int .i64 id), (6, .int .i64 done.length)] [.cells 0 2 27 true [q.enc], .cells 0 2 27 true [[.int .i64 0, .nil]], .cells 0 2 27 true [[.int .i64 q.limit, .row 3 st 0 out.length]], .cells st 6 104 false (out.map Packet.enc)] := by
  intro rest
  induction rest with
  | nil =>
    intro done out st hd ho
    refine Lp.of_eq hmx c314L1.eq_1 ?_
    have h1 := rg_end hd
    have e : out ++ qWithout [] id = out := by simp [qWithout]
    rw [e]
    simp only [go_sem, seval, h1, List.length_map]
    exact hk _ st out (by rfl) (by rfl)
  | cons c rest ih =>
    intro done out st hd ho
    refine Lp.of_eq hmx c314L1.eq_1 ?_
    obtain ⟨h1, h2, h3, h4⟩ := rg_hd Packet.enc hd (by omega)
    have hlen : done.length + 1 ≤ q.pk.length := by rw [hd]; simp
    cases hc : decide (c.id = id)
    · have ih' := ih (done ++ [c]) (out ++ [c]) (st + 1) h4 (by simp; omega)
      have e : out ++ [c] ++ qWithout rest id = out ++ qWithout (c :: rest) id := by
        have hne : ¬ c.id = id := of_decide_eq_false hc
        simp [qWithout, List.filter_cons, hne]
      rw [e] at ih'
      simp only [List.map_append, List.map_cons, List.map_nil, List.length_append, List.length_cons, List.length_nil, Nat.zero_add] at ih' h3
      repeat' first | (with_reducible intro h; try simp only [h]) | (with_reducible refine And.intro ?_ ?_) | (change chk _ _ = true; rfl) | simp only [go_sem, seval, Vc_bool, h1, h2, h3, hc, List.length_map, Nat.le_refl, Int.toNat_natCast, Int.natCast_nonneg] | refine (GX_split rfl).2 ?_
      · omega
      · refine Lp.bkE [_] ih' (by rfl) (by rfl) ?_ (Nat.zero_le _) rfl
        rw [List.all_cons, List.all_cons, List.all_cons, List.all_cons, List.all_nil, Bool.and_true]
        have h := lt_pk (l := out ++ [c]) (m := 4) (q := st + 1) (fu := false)
        rw [List.map_append, List.map_cons, List.map_nil] at h
        show (_ && (_ && (_ && ltO 4 _))) = true
        rw [h]
        rfl
    · have ih' := ih (done ++ [c]) out st h4 (by simp; omega)
      have e : out ++ qWithout rest id = out ++ qWithout (c :: rest) id := by
        have hne : c.id = id := of_decide_eq_true hc
        simp [qWithout, List.filter_cons, hne]
      rw [e] at ih'
      repeat' first | (with_reducible intro h; try simp only [h]) | (with_reducible refine And.intro ?_ ?_) | (change chk _ _ = true; rfl) | simp only [go_sem, seval, Vc_bool, h1, h2, h3, hc, List.length_map, Int.toNat_natCast, Int.natCast_nonneg] | refine (GX_split rfl).2 ?_
      exact Lp.bkE0 ih' (by rfl) rfl
theorem c314_pf (q : Queue) (id : Int) (hL : q.pk.length * 56 ≤ 140737488355328) : ACalls prog 314 [.agg [.int .i64 q.limit, .sl 6 (q.pk.map Packet.enc)], .int .i64 id] [] (.agg (Queue.enc ⟨q.limit, qWithout q.pk id⟩)) [] := by
  refine calls_of hmx func314 (by kernel_rfl) (c := f314.body.getD .skip) rfl e314 (rs := [(.cell 4 true 2)]) (by kernel_rfl) (by simp [ntmps314]) ?_
  simp only [c314, argS]
  repeat' first | (with_reducible intro h; try simp only [h]) | (with_reducible refine And.intro ?_ ?_) | (change chk _ _ = true; rfl) | simp only [go_sem, seval, Vc_bool] | refine (GX_split rfl).2 ?_
  refine Lp.gs (Gs_virtH 2 1 104 false (by decide : 0 < 6) (by rfl) (by rfl)) ?_
  refine Lp.bkE0 (l314 q id hL _ (fun zs st out z4 z5 => ?_) q.pk [] [] 1 rfl (Nat.le_refl _)) (by rfl) rfl
  simp only [go_sem, seval, z4, z5]
  refine Rt.gs (Gs_freeze 3 (s' := [(4, .ptr 1 0 0 0)]) (H' := [.dead, .cells 0 2 27 true [Queue.enc ⟨q.limit, out⟩], .dead, .dead]) rfl ?_ ?_) (Rt_pure (by rfl) (by rfl))
  · refine List.forall_mem_cons.2 ⟨?_, by simp⟩
    simp only [go_sem, seval, z4]
    exact Fz.wk (Wk.refl _)
  · repeat' (first | exact FzL.nil | refine FzL.cons ?_ ?_ | exact Fz.wk (Wk.refl _) | exact Fz.wk (Wk.nil _) | exact Fz.wk (Wk.emp _) | exact Fz.row0 _ _ _ _ | exact FzH.nil _ | exact FzO.refl _ | refine FzO.one ?_ | refine FzH.cons (by decide) ?_ ?_ | refine FzH.this rfl ?_ | exact FzO.dead (by simp) | (simp only [List.forall_mem_cons, List.not_mem_nil, false_implies, implies_true, and_true, go_sem, seval]) | refine And.intro ?_ ?_)
    all_goals first | exact Fz.wk (Wk.refl _) | exact Fz.row 0 _ (by rw [List.drop_zero]; exact List.take_of_length_le (by simp)) (cloE_map fun _ => by rfl)
theorem c314_ok {q_limit : Int} {q_pk : List Packet} {id : Int} (hL : q_pk.length * 56 ≤ 140737488355328) : ACalls prog 314 [.agg [.int .i64 q_limit, .sl 6 (q_pk.map Packet.enc)], .int .i64 id] [] (.agg (Queue.enc ⟨q_limit, qWithout q_pk id⟩)) [] := c314_pf (⟨q_limit, q_pk⟩ : Queue) id hL

theorem c215_pf (s : Station) (id : Int) (hL : s.q.pk.length * 56 ≤ 140737488355328) (hs : 0 ≤ s.seq ∧ s.seq ≤ 255) : ACalls prog 215 [.agg [.int .i64 s.tab.node, .int .i64 s.tab.len, .sl 6 (s.tab.cells.map TCell.enc), .int .i64 s.q.limit, .sl 6 (s.q.pk.map Packet.enc), .sl 5 (s.held.map Held.enc), .sl 2 (s.seen.map Seen.enc), .int .i64 s.list, .int .i64 s.seq, .int .i64 s.trying, .int .i64 s.tries, .int .i64 s.back, .int .i64 s.wait, .int .i64 s.seed], .int .i64 id] [] (.agg (leave s id).enc) [] := by
  have e4 : IntKind.i64.wrap (s.seq + 1) = s.seq + 1 := wrap_ok (by omega) (by omega)
  refine calls_of hmx func215 (by kernel_rfl) (c := f215.body.getD .skip) rfl e215 (rs := [(.cell 4 true 14)]) (by kernel_rfl) (by simp [ntmps215]) ?_
  simp only [c215, argS]
  repeat' first | refine CX_pure (c314_ok hL) rfl rfl rfl rfl ?_ | refine GX_call (fun _ => (c314_ok hL)) (by rfl) (by intro h; simp only [h]; rfl) (by rfl) (by rfl) ?_ | (with_reducible intro h; try simp only [h]) | (with_reducible refine And.intro ?_ ?_) | (change chk _ _ = true; rfl) | simp only [go_sem, seval, Vc_bool, e4] | refine (GX_split rfl).2 ?_
  exact Rt_pure (by rfl) (by rfl)
theorem c106_ok {s : Station} {a : Action} {c : TCell} {p : Packet} {acked : Bool} (hL : s.q.pk.length * 56 ≤ 140737488355328) (hs : 0 ≤ s.seq ∧ s.seq ≤ 255) (ht : 0 ≤ s.tries ∧ s.tries ≤ 3) (hk : 0 ≤ s.back ∧ s.back ≤ 5) (hd : 0 ≤ s.seed ∧ s.seed ≤ 2147483647) :
    ACalls prog 106 [.agg s.enc, .agg (plEnc ⟨a, c, some p⟩), .bool acked] [] (.agg (sentPk s (decide (c.kind = 3)) p acked).enc) [] := by
  have w1 : IntKind.i64.wrap (s.tries + 1) = s.tries + 1 := wrap_ok (by omega) (by omega)
  have w2 : IntKind.i64.wrap (s.back + 1) = s.back + 1 := wrap_ok (by omega) (by omega)
  have w3 : IntKind.i64.wrap (1103515245 * s.seed) = 1103515245 * s.seed := wrap_ok (by omega) (by omega)
  have w4 : IntKind.i64.wrap (1103515245 * s.seed + 12345) = 1103515245 * s.seed + 12345 := wrap_ok (by omega) (by omega)
  have w6 : IntKind.i64.wrap (((1103515245 * s.seed + 12345).tmod 2147483648).tdiv 65536) = ((1103515245 * s.seed + 12345).tmod 2147483648).tdiv 65536 := by
    rw [Int.tmod_eq_emod_of_nonneg (by omega), Int.tdiv_eq_ediv_of_nonneg (by omega)]
    exact wrap_ok (by omega) (by omega)
  have h92 := c92_ok (n := min (s.back + 1) 5) (by omega) (by omega)
  have h215 := c215_pf s p.id hL hs
  have cs : (decide (s.tries + 1 = 4) = true ∧ 4 ≤ s.tries + 1 ∧ 3 ≤ s.tries) ∨ (decide (s.tries + 1 = 4) = false ∧ ¬ 4 ≤ s.tries + 1 ∧ ¬ 3 ≤ s.tries) := by
    simp only [decide_eq_true_eq, decide_eq_false_iff_not]; omega
  refine calls_of hmx func106 (by kernel_rfl) (c := f106.body.getD .skip) rfl e106 (rs := [(.cell 6 true 14)]) (by kernel_rfl) (by simp [ntmps106]) ?_
  simp only [c106, argS]
  cases acked
  all_goals
    rcases cs with ⟨t1, t2, t3⟩ | ⟨t1, t2, t3⟩
    all_goals
      repeat' first | refine CX_pure (h215) rfl rfl rfl rfl ?_ | refine CX_pure (h92) rfl rfl rfl rfl ?_ | refine GX_call (fun _ => (h215)) (by rfl) (by intro h; simp only [h]; rfl) (by rfl) (by rfl) ?_ | refine GX_call (fun _ => (h92)) (by rfl) (by intro h; simp only [h]; rfl) (by rfl) (by rfl) ?_ | (with_reducible intro h; try simp only [h]) | (with_reducible refine And.intro ?_ ?_) | (change chk _ _ = true; rfl) | simp only [go_sem, seval, Vc_bool, w1, w2, w3, w4, w6, t1, Option.getD_some, Option.isSome_some] | refine (GX_split rfl).2 ?_
      all_goals first
        | (cases h; done)
        | decide
        | omega
        | exact Int.ne_of_gt (Int.pow_pos (by decide))
        | skip
  all_goals clear h215 h92 w1 w2 w3 w4 w6 hL hs ht hk hd t1
  all_goals simp only [decide_eq_true_eq, decide_eq_false_iff_not] at *
  all_goals first
    | (generalize hz : sentPk s (decide (c.kind = 3)) p true = z; simp [sentPk, *] at hz; subst hz; exact Rt_pure (by rfl) (by rfl))
    | (generalize hz : sentPk s (decide (c.kind = 3)) p false = z; simp [sentPk, *] at hz; subst hz; exact Rt_pure (by rfl) (by rfl))
    | (generalize hz : sentPk s true p true = z; simp [sentPk, *] at hz; subst hz; exact Rt_pure (by rfl) (by rfl))
    | (generalize hz : sentPk s true p false = z; simp [sentPk, *] at hz; subst hz; exact Rt_pure (by rfl) (by rfl))
    | (generalize hz : sentPk s false p true = z; simp [sentPk, *] at hz; subst hz; exact Rt_pure (by rfl) (by rfl))
    | (generalize hz : sentPk s false p false = z; simp [sentPk, *] at hz; subst hz; exact Rt_pure (by rfl) (by rfl))

end Go.Av.T
set_option maxRecDepth 100000
set_option maxHeartbeats 1000000
set_option linter.unusedSimpArgs false
set_option linter.unusedVariables false
namespace Go.Av.T
open Go Go.Av Go.Av.Sp Go.Proofs.Tryz
def c118 : SC := (.seq (.reg [(.mv 4 (.c (.bool false)))]) (.seq (.reg [(.mv 5 (.t 0)), (.bin 6 .geq (.t 5) (.c (.int .i64 0))), (.mv 7 (.t 6)), (.g 7 true (some 8) (.mv 8 (.t 0))), (.g 7 true (some 9) (.mv 9 (.t 1))), (.g 7 true (some 10) (.bin 10 .leq (.t 8) (.t 9))), (.pick 11 (.t 7) (.t 10) (.c (.bool false))), (.mv 4 (.t 11))]) .ret))
theorem e118 : compC prog f118.ntmps (f118.body.getD .skip) = c118 := by kernel_rfl
def c110 : SC := (.seq (.reg [(.box 1 41 (.t 0)), (.mv 2 (.c (.int .i64 0)))]) (.seq (.regD [(.fa 7 (.t 1) 0), (.ld 8 (.t 7) false 1), (.bin 9 .eql (.t 8) (.c (.int .i64 1))), (.fa 10 (.t 1) 0), (.ld 11 (.t 10) false 1), (.bin 12 .eql (.t 11) (.c (.int .i64 2))), (.fa 13 (.t 1) 0), (.ld 14 (.t 13) false 1), (.bin 15 .eql (.t 14) (.c (.int .i64 3))), (.fa 16 (.t 1) 0), (.ld 17 (.t 16) false 1), (.bin 18 .eql (.t 17) (.c (.int .i64 4))), (.mv 3 (.t 9)), (.mv 4 (.t 12)), (.mv 5 (.t 15)), (.mv 6 (.t 18))] []) (.seq (.seq (.reg [(.mv 19 (.t 3)), (.not 20 (.t 19)), (.mv 21 (.t 20)), (.g 21 true (some 22) (.mv 22 (.t 4))), (.g 21 true (some 23) (.not 23 (.t 22))), (.pick 24 (.t 21) (.t 23) (.c (.bool false))), (.mv 25 (.t 24)), (.g 25 true (some 26) (.mv 26 (.t 5))), (.g 25 true (some 27) (.not 27 (.t 26))), (.pick 28 (.t 25) (.t 27) (.c (.bool false))), (.mv 29 (.t 28)), (.g 29 true (some 30) (.mv 30 (.t 6))), (.g 29 true (some 31) (.not 31 (.t 30))), (.pick 32 (.t 29) (.t 31) (.c (.bool false))), (.mv 33 (.t 32)), (.g 33 false (some 34) (.fa 34 (.t 1) 1)), (.g 33 false (some 35) (.ld 35 (.t 34) false 1)), (.g 33 false (some 36) (.call (some 36) (.c (.func 118 [] [])) [(.t 35), (.c (.int .i64 31))])), (.g 33 false (some 37) (.not 37 (.t 36))), (.pick 38 (.t 33) (.c (.bool true)) (.t 37)), (.mv 39 (.t 38)), (.g 39 false (some 40) (.fa 40 (.t 1) 3)), (.g 39 false (some 41) (.ld 41 (.t 40) false 1)), (.g 39 false (some 42) (.call (some 42) (.c (.func 118 [] [])) [(.t 41), (.c (.int .i64 255))])), (.g 39 false (some 43) (.not 43 (.t 42))), (.pick 44 (.t 39) (.c (.bool true)) (.t 43)), (.mv 45 (.t 44)), (.g 45 false (some 46) (.fa 46 (.t 1) 4)), (.g 45 false (some 47) (.ld 47 (.t 46) false 1)), (.g 45 false (some 48) (.call (some 48) (.c (.func 118 [] [])) [(.t 47), (.c (.int .i64 255))])), (.g 45 false (some 49) (.not 49 (.t 48))), (.pick 50 (.t 45) (.c (.bool true)) (.t 49))]) (.cond (.t 50) (.seq (.reg [(.mv 2 (.c (.int .i64 1)))]) .ret) .skip)) (.seq (.block 0 (.seq (.seq (.reg [(.mv 52 (.t 5)), (.mv 53 (.t 52)), (.g 53 true (some 54) (.fa 54 (.t 1) 2)), (.g 53 true (some 55) (.ld 55 (.t 54) false 1)), (.g 53 true (some 56) (.bin 56 .neq (.t 55) (.c (.int .i64 (-1))))), (.pick 57 (.t 53) (.t 56) (.c (.bool false))), (.mv 51 (.t 57))]) (.cond (.t 51) .skip (.seq (.reg [(.fa 58 (.t 1) 2), (.ld 59 (.t 58) false 1), (.bin 60 .lss (.t 59) (.c (.int .i64 (-1)))), (.mv 61 (.t 60)), (.g 61 false (some 62) (.fa 62 (.t 1) 2)), (.g 61 false (some 63) (.ld 63 (.t 62) false 1)), (.g 61 false (some 64) (.bin 64 .gtr (.t 63) (.c (.int .i64 31)))), (.pick 65 (.t 61) (.c (.bool true)) (.t 64)), (.mv 66 (.t 65)), (.g 66 false (some 67) (.fa 67 (.t 1) 2)), (.g 66 false (some 68) (.ld 68 (.t 67) false 1)), (.g 66 false (some 69) (.fa 69 (.t 1) 1)), (.g 66 false (some 70) (.ld 70 (.t 69) false 1)), (.g 66 false (some 71) (.bin 71 .eql (.t 68) (.t 70))), (.pick 72 (.t 66) (.c (.bool true)) (.t 71)), (.mv 51 (.t 72))]) (.cond (.t 51) .skip (.reg [(.mv 73 (.t 3)), (.mv 74 (.t 73)), (.g 74 false (some 75) (.mv 75 (.t 4))), (.pick 76 (.t 74) (.c (.bool true)) (.t 75)), (.mv 77 (.t 76)), (.g 77 true (some 78) (.fa 78 (.t 1) 2)), (.g 77 true (some 79) (.ld 79 (.t 78) false 1)), (.g 77 true (some 80) (.bin 80 .eql (.t 79) (.c (.int .i64 (-1))))), (.pick 81 (.t 77) (.t 80) (.c (.bool false))), (.mv 51 (.t 81))]))))) (.cond (.t 51) (.seq (.reg [(.mv 2 (.c (.int .i64 1)))]) .ret) (.seq (.seq (.reg [(.mv 83 (.t 3)), (.not 84 (.t 83)), (.mv 85 (.t 84)), (.g 85 true (some 86) (.fa 86 (.t 1) 5)), (.g 85 true (some 87) (.ld 87 (.t 86) false 1)), (.g 85 true (some 88) (.bin 88 .neq (.t 87) (.c (.int .i64 0)))), (.g 85 true (some 89) (.mv 89 (.t 88))), (.g 89 false (some 90) (.fa 90 (.t 1) 6)), (.g 89 false (some 91) (.ld 91 (.t 90) false 1)), (.g 89 false (some 92) (.bin 92 .neq (.t 91) (.c (.int .i64 0)))), (.g 85 true (some 93) (.pick 93 (.t 89) (.c (.bool true)) (.t 92))), (.pick 94 (.t 85) (.t 93) (.c (.bool false))), (.mv 82 (.t 94))]) (.cond (.t 82) .skip (.seq (.reg [(.mv 95 (.t 4)), (.not 96 (.t 95)), (.mv 97 (.t 96)), (.g 97 true (some 98) (.fa 98 (.t 1) 7)), (.g 97 true (some 99) (.ld 99 (.t 98) false 1)), (.g 97 true (some 100) (.bin 100 .neq (.t 99) (.c (.int .i64 0)))), (.pick 101 (.t 97) (.t 100) (.c (.bool false))), (.mv 82 (.t 101))]) (.cond (.t 82) .skip (.seq (.reg [(.mv 102 (.t 5)), (.not 103 (.t 102)), (.mv 104 (.t 103)), (.g 104 true (some 105) (.fa 105 (.t 1) 8)), (.g 104 true (some 106) (.ld 106 (.t 105) false 1)), (.g 104 true (some 107) (.bin 107 .neq (.t 106) (.c (.int .i64 0)))), (.g 104 true (some 108) (.mv 108 (.t 107))), (.g 108 false (some 109) (.fa 109 (.t 1) 9)), (.g 108 false (some 110) (.ld 110 (.t 109) false 1)), (.g 108 false (some 111) (.bin 111 .neq (.t 110) (.c (.int .i64 0)))), (.g 104 true (some 112) (.pick 112 (.t 108) (.c (.bool true)) (.t 111))), (.g 104 true (some 113) (.mv 113 (.t 112))), (.g 113 false (some 114) (.fa 114 (.t 1) 10)), (.g 113 false (some 115) (.ld 115 (.t 114) false 1)), (.g 113 false (some 116) (.bin 116 .neq (.t 115) (.c (.int .i64 0)))), (.g 104 true (some 117) (.pick 117 (.t 113) (.c (.bool true)) (.t 116))), (.pick 118 (.t 104) (.t 117) (.c (.bool false))), (.mv 82 (.t 118))]) (.cond (.t 82) .skip (.reg [(.mv 119 (.t 4)), (.mv 120 (.t 119)), (.g 120 true (some 121) (.fa 121 (.t 1) 11)), (.g 120 true (some 122) (.ld 122 (.t 121) false 1)), (.g 120 true (some 123) (.binS 123 .neq (.t 122) (.c (.str (ByteArray.mk #[]))))), (.pick 124 (.t 120) (.t 123) (.c (.bool false))), (.mv 82 (.t 124))]))))))) (.cond (.t 82) (.seq (.reg [(.mv 2 (.c (.int .i64 1)))]) .ret) (.seq (.reg [(.fa 126 (.t 1) 5), (.ld 127 (.t 126) false 1), (.call (some 128) (.c (.func 118 [] [])) [(.t 127), (.c (.int .i64 255))]), (.not 129 (.t 128)), (.mv 130 (.t 129)), (.g 130 false (some 131) (.fa 131 (.t 1) 6)), (.g 130 false (some 132) (.ld 132 (.t 131) false 1)), (.g 130 false (some 133) (.call (some 133) (.c (.func 118 [] [])) [(.t 132), (.c (.int .i64 65535))])), (.g 130 false (some 134) (.not 134 (.t 133))), (.pick 135 (.t 130) (.c (.bool true)) (.t 134)), (.mv 136 (.t 135)), (.g 136 false (some 137) (.fa 137 (.t 1) 7)), (.g 136 false (some 138) (.ld 138 (.t 137) false 1)), (.g 136 false (some 139) (.bin 139 .lss (.t 138) (.c (.int .i64 (-32768))))), (.pick 140 (.t 136) (.c (.bool true)) (.t 139)), (.mv 141 (.t 140)), (.g 141 false (some 142) (.fa 142 (.t 1) 7)), (.g 141 false (some 143) (.ld 143 (.t 142) false 1)), (.g 141 false (some 144) (.bin 144 .gtr (.t 143) (.c (.int .i64 32767)))), (.pick 145 (.t 141) (.c (.bool true)) (.t 144)), (.mv 146 (.t 145)), (.g 146 false (some 147) (.fa 147 (.t 1) 8)), (.g 146 false (some 148) (.ld 148 (.t 147) false 1)), (.g 146 false (some 149) (.call (some 149) (.c (.func 118 [] [])) [(.t 148), (.c (.int .i64 109951162))])), (.g 146 false (some 150) (.not 150 (.t 149))), (.pick 151 (.t 146) (.c (.bool true)) (.t 150)), (.mv 152 (.t 151)), (.g 152 false (some 153) (.fa 153 (.t 1) 9)), (.g 152 false (some 154) (.ld 154 (.t 153) false 1)), (.g 152 false (some 155) (.call (some 155) (.c (.func 118 [] [])) [(.t 154), (.c (.int .i64 65535))])), (.g 152 false (some 156) (.not 156 (.t 155))), (.pick 157 (.t 152) (.c (.bool true)) (.t 156)), (.mv 158 (.t 157)), (.g 158 false (some 159) (.fa 159 (.t 1) 10)), (.g 158 false (some 160) (.ld 160 (.t 159) false 1)), (.g 158 false (some 161) (.call (some 161) (.c (.func 118 [] [])) [(.t 160), (.c (.int .i64 65535))])), (.g 158 false (some 162) (.not 162 (.t 161))), (.pick 163 (.t 158) (.c (.bool true)) (.t 162)), (.mv 125 (.t 163))]) (.cond (.t 125) (.seq (.reg [(.mv 2 (.c (.int .i64 1)))]) .ret) .skip))))))) (.seq (.reg [(.mv 2 (.c (.int .i64 0)))]) .ret)))))
theorem e110 : compC prog f110.ntmps (f110.body.getD .skip) = c110 := by kernel_rfl
def c33 : SC := (.seq (.reg [(.box 2 41 (.t 0)), (.mv 4 (.c (.bool false)))]) (.seq (.reg [(.ld 5 (.t 2) true 12), (.call (some 6) (.c (.func 110 [] [])) [(.t 5)]), (.bin 7 .eql (.t 6) (.c (.int .i64 0))), (.mv 8 (.t 7)), (.g 8 true (some 9) (.fa 9 (.t 2) 2)), (.g 8 true (some 10) (.ld 10 (.t 9) false 1)), (.g 8 true (some 11) (.mv 11 (.t 1))), (.g 8 true (some 12) (.bin 12 .eql (.t 10) (.t 11))), (.g 8 true (some 13) (.mv 13 (.t 12))), (.g 13 true (some 14) (.mv 14 (.t 1))), (.g 13 true (some 15) (.bin 15 .geq (.t 14) (.c (.int .i64 0)))), (.g 8 true (some 16) (.pick 16 (.t 13) (.t 15) (.c (.bool false)))), (.g 8 true (some 17) (.mv 17 (.t 16))), (.g 17 false (some 18) (.fa 18 (.t 2) 2)), (.g 17 false (some 19) (.ld 19 (.t 18) false 1)), (.g 17 false (some 20) (.bin 20 .eql (.t 19) (.c (.int .i64 (-1))))), (.g 17 false (some 21) (.mv 21 (.t 20))), (.g 21 true (some 22) (.fa 22 (.t 2) 1)), (.g 21 true (some 23) (.ld 23 (.t 22) false 1)), (.g 21 true (some 24) (.mv 24 (.t 1))), (.g 21 true (some 25) (.bin 25 .neq (.t 23) (.t 24))), (.g 17 false (some 26) (.pick 26 (.t 21) (.t 25) (.c (.bool false)))), (.g 17 false (some 27) (.mv 27 (.t 26))), (.g 27 true (some 28) (.mv 28 (.t 1))), (.g 27 true (some 29) (.call (some 29) (.c (.func 118 [] [])) [(.t 28), (.c (.int .i64 31))])), (.g 17 false (some 30) (.pick 30 (.t 27) (.t 29) (.c (.bool false)))), (.g 8 true (some 31) (.pick 31 (.t 17) (.c (.bool true)) (.t 30))), (.pick 32 (.t 8) (.t 31) (.c (.bool false))), (.mv 4 (.t 32))]) .ret))
theorem e33 : compC prog f33.ntmps (f33.body.getD .skip) = c33 := by kernel_rfl
theorem c118_pf (n : Int) (m : Int)  : ACalls prog 118 [.int .i64 n, .int .i64 m] [] (.bool (wi n m)) [] := by
  refine calls_of hmx func118 (by kernel_rfl) (c := f118.body.getD .skip) rfl e118 (rs := [(.t 4)]) (by kernel_rfl) (by simp [ntmps118]) ?_
  simp only [c118, argS]
  simp only [go_sem, seval]
  (refine Rt_pure ?_ rfl; simp only [retO, retO1, retOs, S, get_cons, Nat.reduceEqDiff, reduceIte, obj, getO_cons_zero, getO_cons_succ, List.getElem?_cons_zero, List.getElem?_cons_succ, List.drop_zero, List.drop_succ_cons, loadFrom_cell, loadFrom_agg, List.length_cons, List.length_nil, Nat.reduceAdd, Nat.reduceLeDiff, List.take_succ_cons, List.take_zero, List.take_nil])
  simp [wi]
theorem c118_ok {n : Int} {m : Int}  : ACalls prog 118 [.int .i64 n, .int .i64 m] [] (.bool (wi n m)) [] := c118_pf n m 

theorem c110_ok {f : Sp.Frame} : ACalls prog 110 [.agg f.enc] [] (.int .i64 (frErr f)) [] := by
  rcases f with ⟨k, src, tgt, list, seq, flow, num, err, slot, rank, epoch, data⟩
  have key : (k = 1 ∨ k = 2 ∨ k = 3 ∨ k = 4) ∨ (decide (k = 1) = false ∧ decide (k = 2) = false ∧ decide (k = 3) = false ∧ decide (k = 4) = false) := by
    simp only [decide_eq_false_iff_not]; omega
  rcases key with (rfl | rfl | rfl | rfl) | ⟨k1, k2, k3, k4⟩
  · refine calls_of hmx func110 (by kernel_rfl) (c := f110.body.getD .skip) rfl e110 (rs := [(.t 2)]) (by kernel_rfl) (by simp [ntmps110]) ?_
    simp only [c110, argS]
    repeat' first | (refine Rt_pure ?_ rfl; simp only [retO, retO1, retOs, S, get_cons, Nat.reduceEqDiff, reduceIte, obj, getO_cons_zero, getO_cons_succ, List.getElem?_cons_zero, List.getElem?_cons_succ, List.drop_zero, List.drop_succ_cons, loadFrom_cell, loadFrom_agg, List.length_cons, List.length_nil, Nat.reduceAdd, Nat.reduceLeDiff, List.take_succ_cons, List.take_zero, List.take_nil]) | refine CX_pure c118_ok rfl rfl rfl rfl ?_ | refine GX_call (fun _ => c118_ok) (by rfl) (by intro h; simp only [h]; rfl) (by rfl) (by rfl) ?_ | (with_reducible intro h; try simp only [h]) | (with_reducible refine And.intro ?_ ?_) | (change chk _ _ = true; rfl) | simp only [go_sem, seval, Vc_bool] | refine (GX_split rfl).2 ?_
    all_goals (simp only [bnorm, AVal.int.injEq, AVal.bool.injEq, true_and, frErr, isTgt, wi] at *; grind)
  · refine calls_of hmx func110 (by kernel_rfl) (c := f110.body.getD .skip) rfl e110 (rs := [(.t 2)]) (by kernel_rfl) (by simp [ntmps110]) ?_
    simp only [c110, argS]
    repeat' first | (refine Rt_pure ?_ rfl; simp only [retO, retO1, retOs, S, get_cons, Nat.reduceEqDiff, reduceIte, obj, getO_cons_zero, getO_cons_succ, List.getElem?_cons_zero, List.getElem?_cons_succ, List.drop_zero, List.drop_succ_cons, loadFrom_cell, loadFrom_agg, List.length_cons, List.length_nil, Nat.reduceAdd, Nat.reduceLeDiff, List.take_succ_cons, List.take_zero, List.take_nil]) | refine CX_pure c118_ok rfl rfl rfl rfl ?_ | refine GX_call (fun _ => c118_ok) (by rfl) (by intro h; simp only [h]; rfl) (by rfl) (by rfl) ?_ | (with_reducible intro h; try simp only [h]) | (with_reducible refine And.intro ?_ ?_) | (change chk _ _ = true; rfl) | simp only [go_sem, seval, Vc_bool] | refine (GX_split rfl).2 ?_
    all_goals (simp only [bnorm, AVal.int.injEq, AVal.bool.injEq, true_and, frErr, isTgt, wi, wi3, bytes_mk] at *; grind)
  · refine calls_of hmx func110 (by kernel_rfl) (c := f110.body.getD .skip) rfl e110 (rs := [(.t 2)]) (by kernel_rfl) (by simp [ntmps110]) ?_
    simp only [c110, argS]
    repeat' first | (refine Rt_pure ?_ rfl; simp only [retO, retO1, retOs, S, get_cons, Nat.reduceEqDiff, reduceIte, obj, getO_cons_zero, getO_cons_succ, List.getElem?_cons_zero, List.getElem?_cons_succ, List.drop_zero, List.drop_succ_cons, loadFrom_cell, loadFrom_agg, List.length_cons, List.length_nil, Nat.reduceAdd, Nat.reduceLeDiff, List.take_succ_cons, List.take_zero, List.take_nil]) | refine CX_pure c118_ok rfl rfl rfl rfl ?_ | refine GX_call (fun _ => c118_ok) (by rfl) (by intro h; simp only [h]; rfl) (by rfl) (by rfl) ?_ | (with_reducible intro h; try simp only [h]) | (with_reducible refine And.intro ?_ ?_) | (change chk _ _ = true; rfl) | simp only [go_sem, seval, Vc_bool] | refine (GX_split rfl).2 ?_
    all_goals (simp only [bnorm, AVal.int.injEq, AVal.bool.injEq, true_and, frErr, isTgt, wi] at *; grind)
  · refine calls_of hmx func110 (by kernel_rfl) (c := f110.body.getD .skip) rfl e110 (rs := [(.t 2)]) (by kernel_rfl) (by simp [ntmps110]) ?_
    simp only [c110, argS]
    repeat' first | (refine Rt_pure ?_ rfl; simp only [retO, retO1, retOs, S, get_cons, Nat.reduceEqDiff, reduceIte, obj, getO_cons_zero, getO_cons_succ, List.getElem?_cons_zero, List.getElem?_cons_succ, List.drop_zero, List.drop_succ_cons, loadFrom_cell, loadFrom_agg, List.length_cons, List.length_nil, Nat.reduceAdd, Nat.reduceLeDiff, List.take_succ_cons, List.take_zero, List.take_nil]) | refine CX_pure c118_ok rfl rfl rfl rfl ?_ | refine GX_call (fun _ => c118_ok) (by rfl) (by intro h; simp only [h]; rfl) (by rfl) (by rfl) ?_ | (with_reducible intro h; try simp only [h]) | (with_reducible refine And.intro ?_ ?_) | (change chk _ _ = true; rfl) | simp only [go_sem, seval, Vc_bool] | refine (GX_split rfl).2 ?_
    all_goals (simp only [bnorm, AVal.int.injEq, AVal.bool.injEq, true_and, frErr, isTgt, wi] at *; grind)
  · refine calls_of hmx func110 (by kernel_rfl) (c := f110.body.getD .skip) rfl e110 (rs := [(.t 2)]) (by kernel_rfl) (by simp [ntmps110]) ?_
    simp only [c110, argS]
    repeat' first | (refine Rt_pure ?_ rfl; simp only [retO, retO1, retOs, S, get_cons, Nat.reduceEqDiff, reduceIte, obj, getO_cons_zero, getO_cons_succ, List.getElem?_cons_zero, List.getElem?_cons_succ, List.drop_zero, List.drop_succ_cons, loadFrom_cell, loadFrom_agg, List.length_cons, List.length_nil, Nat.reduceAdd, Nat.reduceLeDiff, List.take_succ_cons, List.take_zero, List.take_nil]) | refine CX_pure c118_ok rfl rfl rfl rfl ?_ | refine GX_call (fun _ => c118_ok) (by rfl) (by intro h; simp only [h]; rfl) (by rfl) (by rfl) ?_ | (with_reducible intro h; try simp only [h]) | (with_reducible refine And.intro ?_ ?_) | (change chk _ _ = true; rfl) | simp only [go_sem, seval, Vc_bool, k1, k2, k3, k4] | refine (GX_split rfl).2 ?_
    all_goals (simp only [bnorm, AVal.int.injEq, AVal.bool.injEq, true_and, frErr, isTgt, wi] at *; grind)

end Go.Av.T
set_option maxRecDepth 100000
set_option maxHeartbeats 1000000
set_option linter.unusedSimpArgs false
set_option linter.unusedVariables false
namespace Go.Av.T
open Go Go.Av Go.Av.Sp Go.Proofs.Tryz
theorem frErr_tgt {f : Sp.Frame} (h : frErr f = 0) : f.tgt ≤ 31 := by
  by_cases ht : f.tgt ≤ 31
  · exact ht
  · exfalso
    have h1 : isTgt f = false := by simp [isTgt, wi, ht]
    have h2 : decide (f.tgt = -1) = false := by simp; omega
    simp only [frErr, h1, h2, Bool.false_and, Bool.and_false, Bool.or_self, ite_self, Bool.false_eq_true, if_false] at h
    cases h
theorem c33_pf (f : Sp.Frame) (node : Int)  : ACalls prog 33 [.agg [.int .i64 f.kind, .int .i64 f.src, .int .i64 f.tgt, .int .i64 f.list, .int .i64 f.seq, .int .i64 f.flow, .int .i64 f.num, .int .i64 f.err, .int .i64 f.slot, .int .i64 f.rank, .int .i64 f.epoch, .str f.data], .int .i64 node] [] (.bool (frFor f node)) [] := by
  refine calls_of hmx func33 (by kernel_rfl) (c := f33.body.getD .skip) rfl e33 (rs := [(.t 4)]) (by kernel_rfl) (by simp [ntmps33]) ?_
  simp only [c33, argS]
  have ht := frErr_tgt (f := f)
  simp only [go_sem, seval]
  repeat' first | (refine Rt_pure ?_ rfl; simp only [retO, retO1, retOs, S, get_cons, Nat.reduceEqDiff, reduceIte, obj, getO_cons_zero, getO_cons_succ, List.getElem?_cons_zero, List.getElem?_cons_succ, List.drop_zero, List.drop_succ_cons, loadFrom_cell, loadFrom_agg, List.length_cons, List.length_nil, Nat.reduceAdd, Nat.reduceLeDiff, List.take_succ_cons, List.take_zero, List.take_nil]) | refine CX_pure (c110_ok) rfl rfl rfl rfl ?_ | refine CX_pure c118_ok rfl rfl rfl rfl ?_ | refine GX_call (fun _ => (c110_ok)) (by rfl) (by intro h; simp only [h]; rfl) (by rfl) (by rfl) ?_ | refine GX_call (fun _ => c118_ok) (by rfl) (by intro h; simp only [h]; rfl) (by rfl) (by rfl) ?_ | (with_reducible intro h; try simp only [h]) | (with_reducible refine And.intro ?_ ?_) | (change chk _ _ = true; rfl) | simp only [go_sem, seval, Vc_bool] | refine (GX_split rfl).2 ?_
  all_goals (simp only [bnorm, AVal.int.injEq, AVal.bool.injEq, true_and, frFor, wi] at *; grind)
theorem c33_ok {f_kind : Int} {f_src : Int} {f_tgt : Int} {f_list : Int} {f_seq : Int} {f_flow : Int} {f_num : Int} {f_err : Int} {f_slot : Int} {f_rank : Int} {f_epoch : Int} {f_data : ByteArray} {node : Int}  : ACalls prog 33 [.agg [.int .i64 f_kind, .int .i64 f_src, .int .i64 f_tgt, .int .i64 f_list, .int .i64 f_seq, .int .i64 f_flow, .int .i64 f_num, .int .i64 f_err, .int .i64 f_slot, .int .i64 f_rank, .int .i64 f_epoch, .str f_data], .int .i64 node] [] (.bool (frFor (⟨f_kind, f_src, f_tgt, f_list, f_seq, f_flow, f_num, f_err, f_slot, f_rank, f_epoch, f_data⟩ : Sp.Frame) node)) [] := c33_pf (⟨f_kind, f_src, f_tgt, f_list, f_seq, f_flow, f_num, f_err, f_slot, f_rank, f_epoch, f_data⟩ : Sp.Frame) node 


end Go.Av.T
set_option maxRecDepth 100000
set_option maxHeartbeats 1000000
set_option linter.unusedSimpArgs false
set_option linter.unusedVariables false
namespace Go.Av.T
open Go Go.Av Go.Av.Sp Go.Proofs.Tryz
def c216L1 : SC := (.seq (.seq (.regD [(.mv 7 (.t 6)), (.mv 8 (.t 0)), (.len 9 false (.t 8)), (.bin 10 .lss (.t 7) (.t 9)), (.mv 11 (.t 10)), (.g 11 true (some 12) (.mv 12 (.t 0))), (.g 11 true (some 13) (.mv 13 (.t 6))), (.g 11 true (some 14) (.ia 14 (.t 12) (.t 13) 2)), (.g 11 true (some 15) (.fa 15 (.t 14) 0)), (.g 11 true (some 16) (.ld 16 (.t 15) false 1)), (.g 11 true (some 17) (.fa 17 (.t 3) 0)), (.g 11 true (some 18) (.ld 18 (.t 17) false 1)), (.g 11 true (some 19) (.bin 19 .lss (.t 16) (.t 18))), (.pick 20 (.t 11) (.t 19) (.c (.bool false)))] []) (.cond (.t 20) .skip (.exit 0))) (.seq (.block 1 (.reg [(.mv 23 (.t 5)), (.mv 24 (.t 0)), (.mv 25 (.t 6)), (.ia 26 (.t 24) (.t 25) 2), (.ld 27 (.t 26) true 2), (.bsl 28 160 2 [(.int .i64 0), (.int .i64 0)] 1 [(0, (.t 27))]), (.app 29 160 2 16 (.t 23) (.t 28)), (.mv 5 (.t 29))])) (.reg [(.mv 21 (.t 6)), (.bin 22 .add (.t 21) (.c (.int .i64 1))), (.mv 6 (.t 22))])))
def c216L2 : SC := (.seq (.seq (.reg [(.mv 34 (.t 6)), (.mv 35 (.t 0)), (.len 36 false (.t 35)), (.bin 37 .lss (.t 34) (.t 36))]) (.cond (.t 37) .skip (.exit 2))) (.seq (.block 3 (.seq (.regD [(.mv 40 (.t 0)), (.mv 41 (.t 6)), (.ia 42 (.t 40) (.t 41) 2), (.fa 43 (.t 42) 0), (.ld 44 (.t 43) false 1), (.fa 45 (.t 3) 0), (.ld 46 (.t 45) false 1), (.bin 47 .neq (.t 44) (.t 46))] []) (.cond (.t 47) (.reg [(.mv 48 (.t 5)), (.mv 49 (.t 0)), (.mv 50 (.t 6)), (.ia 51 (.t 49) (.t 50) 2), (.ld 52 (.t 51) true 2), (.bsl 53 160 2 [(.int .i64 0), (.int .i64 0)] 1 [(0, (.t 52))]), (.app 54 160 2 16 (.t 48) (.t 53)), (.mv 5 (.t 54))]) .skip))) (.reg [(.mv 38 (.t 6)), (.bin 39 .add (.t 38) (.c (.int .i64 1))), (.mv 6 (.t 39))])))
def c216 : SC := (.seq (.reg [(.box 3 160 (.t 1)), (.mv 4 (.c .nil))]) (.seq (.reg [(.mv 5 (.c .nil))]) (.seq (.reg [(.mv 6 (.c (.int .i64 0)))]) (.seq (.block 0 (.loop c216L1)) (.seq (.reg [(.mv 30 (.t 5)), (.ld 31 (.t 3) true 2), (.bsl 32 160 2 [(.int .i64 0), (.int .i64 0)] 1 [(0, (.t 31))]), (.app 33 160 2 16 (.t 30) (.t 32)), (.mv 5 (.t 33))]) (.seq (.block 2 (.loop c216L2)) (.seq (.reg [(.mv 55 (.t 5)), (.mv 4 (.t 55))]) .ret)))))))
theorem e216 : compC prog f216.ntmps (f216.body.getD .skip) = c216 := by kernel_rfl
def c108L1 : SC := (.seq (.seq (.reg [(.mv 62 (.t 9)), (.fa 63 (.t 2) 6), (.ld 64 (.t 63) false 1), (.len 65 false (.t 64)), (.bin 66 .lss (.t 62) (.t 65))]) (.cond (.t 66) .skip (.exit 0))) (.seq (.block 1 (.seq (.regD [(.fa 69 (.t 2) 6), (.ld 70 (.t 69) false 1), (.mv 71 (.t 9)), (.ia 72 (.t 70) (.t 71) 2), (.ld 73 (.t 72) true 2), (.ld 74 (.t 8) true 2), (.binA 75 false [1, 1] (.t 73) (.t 74))] []) (.cond (.t 75) (.reg [(.fa 76 (.t 6) 1), (.st (.t 76) (.c (.bool false)) 1)]) .skip))) (.reg [(.mv 67 (.t 9)), (.bin 68 .add (.t 67) (.c (.int .i64 1))), (.mv 9 (.t 68))])))
def c108 : SC := (.seq (.reg [(.box 2 31 (.t 0)), (.box 3 41 (.t 1)), (.alc 4 31 [(.int .i64 0), (.int .i64 0), .nil, (.int .i64 0), .nil, .nil, .nil, (.int .i64 0), (.int .i64 0), (.int .i64 0), (.int .i64 0), (.int .i64 0), (.int .i64 0), (.int .i64 0)]), (.alc 5 51 [(.bool false), (.bool false), (.int .i64 0), (.int .i64 0), (.int .i64 0), (.int .i64 0), (.int .i64 0), (.int .i64 0), (.int .i64 0), (.int .i64 0), (.int .i64 0), (.int .i64 0), (.int .i64 0), (.str (ByteArray.mk #[]))])]) (.seq (.seq (.reg [(.ld 10 (.t 3) true 12), (.fa 11 (.t 2) 0), (.fa 12 (.t 11) 0), (.ld 13 (.t 12) false 1), (.call (some 14) (.c (.func 33 [] [])) [(.t 10), (.t 13)]), (.not 15 (.t 14)), (.mv 16 (.t 15)), (.g 16 false (some 17) (.fa 17 (.t 3) 0)), (.g 16 false (some 18) (.ld 18 (.t 17) false 1)), (.g 16 false (some 19) (.bin 19 .eql (.t 18) (.c (.int .i64 2)))), (.pick 20 (.t 16) (.c (.bool true)) (.t 19))]) (.cond (.t 20) (.seq (.reg [(.ld 21 (.t 2) true 14), (.bld 22 [(.bool false), (.bool false), (.int .i64 0), (.int .i64 0), (.int .i64 0), (.int .i64 0), (.int .i64 0), (.int .i64 0), (.int .i64 0), (.int .i64 0), (.int .i64 0), (.int .i64 0), (.int .i64 0), (.str (ByteArray.mk #[]))] []), (.st (.t 4) (.t 21) 14), (.st (.t 5) (.t 22) 14)]) .ret) .skip)) (.seq (.reg [(.ld 23 (.t 3) true 12), (.bld 24 [(.bool false), (.bool false), (.int .i64 0), (.int .i64 0), (.int .i64 0), (.int .i64 0), (.int .i64 0), (.int .i64 0), (.int .i64 0), (.int .i64 0), (.int .i64 0), (.int .i64 0), (.int .i64 0), (.str (ByteArray.mk #[]))] [(0, 1, (.c (.bool true))), (1, 1, (.c (.bool true))), (2, 12, (.t 23))]), (.alc 6 51 [(.bool false), (.bool false), (.int .i64 0), (.int .i64 0), (.int .i64 0), (.int .i64 0), (.int .i64 0), (.int .i64 0), (.int .i64 0), (.int .i64 0), (.int .i64 0), (.int .i64 0), (.int .i64 0), (.str (ByteArray.mk #[]))]), (.st (.t 6) (.t 24) 14)]) (.seq (.seq (.reg [(.fa 25 (.t 3) 0), (.ld 26 (.t 25) false 1), (.bin 27 .eql (.t 26) (.c (.int .i64 1)))]) (.cond (.t 27) (.seq (.reg [(.ld 28 (.t 2) true 14), (.fa 29 (.t 3) 5), (.ld 30 (.t 29) false 1), (.call (some 31) (.c (.func 107 [] [])) [(.t 28), (.t 30)]), (.mv 7 (.t 31))]) (.regD [(.mv 32 (.t 7)), (.bin 33 .lss (.t 32) (.c (.int .i64 0))), (.mv 34 (.t 33)), (.g 34 false (some 35) (.fa 35 (.t 2) 5)), (.g 34 false (some 36) (.ld 36 (.t 35) false 1)), (.g 34 false (some 37) (.mv 37 (.t 7))), (.g 34 false (some 38) (.ia 38 (.t 36) (.t 37) 5)), (.g 34 false (some 39) (.fa 39 (.t 38) 1)), (.g 34 false (some 40) (.ld 40 (.t 39) false 1)), (.g 34 false (some 41) (.fa 41 (.t 3) 6)), (.g 34 false (some 42) (.ld 42 (.t 41) false 1)), (.g 34 false (some 43) (.bin 43 .neq (.t 40) (.t 42))), (.pick 44 (.t 34) (.c (.bool true)) (.t 43)), (.fa 45 (.t 6) 1), (.st (.t 45) (.t 44) 1)] [])) .skip)) (.seq (.seq (.reg [(.fa 46 (.t 3) 0), (.ld 47 (.t 46) false 1), (.bin 48 .eql (.t 47) (.c (.int .i64 4))), (.mv 49 (.t 48)), (.g 49 true (some 50) (.fa 50 (.t 3) 2)), (.g 49 true (some 51) (.ld 51 (.t 50) false 1)), (.g 49 true (some 52) (.fa 52 (.t 2) 0)), (.g 49 true (some 53) (.fa 53 (.t 52) 0)), (.g 49 true (some 54) (.ld 54 (.t 53) false 1)), (.g 49 true (some 55) (.bin 55 .eql (.t 51) (.t 54))), (.pick 56 (.t 49) (.t 55) (.c (.bool false)))]) (.cond (.t 56) (.seq (.reg [(.fa 57 (.t 3) 1), (.ld 58 (.t 57) false 1), (.fa 59 (.t 3) 4), (.ld 60 (.t 59) false 1), (.bld 61 [(.int .i64 0), (.int .i64 0)] [(0, 1, (.t 58)), (1, 1, (.t 60))]), (.alc 8 160 [(.int .i64 0), (.int .i64 0)]), (.st (.t 8) (.t 61) 2)]) (.seq (.seq (.reg [(.mv 9 (.c (.int .i64 0)))]) (.block 0 (.loop c108L1))) (.reg [(.fa 77 (.t 2) 6), (.ld 78 (.t 77) false 1), (.ld 79 (.t 8) true 2), (.call (some 80) (.c (.func 216 [] [])) [(.t 78), (.t 79)]), (.fa 81 (.t 2) 6), (.st (.t 81) (.t 80) 1)]))) .skip)) (.seq (.regD [(.ld 82 (.t 2) true 14), (.ld 83 (.t 6) true 14), (.st (.t 4) (.t 82) 14), (.st (.t 5) (.t 83) 14)] [(1, 2)]) .ret))))))
theorem e108 : compC prog f108.ntmps (f108.body.getD .skip) = c108 := by kernel_rfl
theorem seen_snoc {l : List Seen} {x : Seen} {m q : Nat} {fu : Bool} : ltO m (.cells q 2 160 fu (l.map Seen.enc ++ [x.enc])) = true := by
  have h := lt_seen (l := l ++ [x]) (m := m) (q := q) (fu := fu)
  rwa [List.map_append, List.map_cons, List.map_nil] at h
section
variable {l : List Seen} {x : Seen}
def lows (x : Seen) (l : List Seen) : List Seen := l.takeWhile fun y => decide (y.node < x.node)
theorem l216a (hL : (l.length + 1) * 16 ≤ 140737488355328) (r : AVal) (k' : List It) (hk : ∀ zs (st : Nat), get zs 0 = .sl 2 (l.map Seen.enc) → get zs 3 = .ptr 0 0 0 0 → get zs 5 = .row 1 st 0 (lows x l).length → get zs 6 = .int .i64 (lows x l).length → V prog f216.ntmps 0 (Ret [.t 4] 0 r []) k' zs [.cells 0 2 160 true [x.enc], .cells st 2 160 false ((lows x l).map Seen.enc)]) :
    ∀ (rest done : List Seen) (st : Nat), l = done ++ rest → lows x l = done ++ lows x rest →
    Lp prog f216.ntmps 0 (Ret [.t 4] 0 r []) c216L1 (.blk 0 :: k') [(0, .sl 2 (l.map Seen.enc)), (3, .ptr 0 0 0 0), (5, .row 1 st 0 done.length), (6, .int .i64 done.length)] [.cells 0 2 160 true [x.enc], .cells st 2 160 false (done.map Seen.enc)] := by
  intro rest
  induction rest with
  | nil =>
    intro done st hd ht
    refine Lp.of_eq hmx c216L1.eq_1 ?_
    have h1 := rg_end hd
    have e : lows x l = done := by rw [ht]; simp [lows]
    rw [e] at hk
    simp only [go_sem, seval, h1, List.length_map]
    exact hk _ st (by rfl) (by rfl) (by rfl) (by rfl)
  | cons c rest ih =>
    intro done st hd ht
    refine Lp.of_eq hmx c216L1.eq_1 ?_
    obtain ⟨h1, h2, h3, h4⟩ := rg_hd Seen.enc hd (by omega)
    have hlen : done.length + 1 ≤ l.length := by rw [hd]; simp
    cases hc : decide (c.node < x.node)
    · have e : lows x l = done := by rw [ht]; simp [lows, List.takeWhile_cons, hc]
      rw [e] at hk
      repeat' first | (with_reducible intro h; try simp only [h]) | (with_reducible refine And.intro ?_ ?_) | (change chk _ _ = true; rfl) | simp only [go_sem, seval, Vc_bool, h1, h2, hc, List.length_map, Int.toNat_natCast, Int.natCast_nonneg] | refine (GX_split rfl).2 ?_
      exact hk _ st (by rfl) (by rfl) (by rfl) (by rfl)
    · have e : lows x l = done ++ [c] ++ lows x rest := by rw [ht]; simp [lows, List.takeWhile_cons, hc]
      have ih' := ih (done ++ [c]) (st + 1) h4 e
      simp only [List.map_append, List.map_cons, List.map_nil, List.length_append, List.length_cons, List.length_nil, Nat.zero_add] at ih' h3
      repeat' first | (with_reducible intro h; try simp only [h]) | (with_reducible refine And.intro ?_ ?_) | (change chk _ _ = true; rfl) | simp only [go_sem, seval, Vc_bool, h1, h2, h3, hc, List.length_map, Nat.le_refl, Int.toNat_natCast, Int.natCast_nonneg] | refine (GX_split rfl).2 ?_
      · omega
      · refine Lp.bkE [_] ih' (by rfl) (by rfl) ?_ (Nat.zero_le _) rfl
        rw [List.all_cons, List.all_cons, List.all_nil, Bool.and_true, seen_snoc]
        rfl
theorem l216b (hL : (l.length + 1) * 16 ≤ 140737488355328) (k' : List It) (hk : ∀ zs (st : Nat) (out : List Seen), get zs 5 = .row 1 st 0 out.length → V prog f216.ntmps 0 (Ret [.t 4] 0 (.sl 2 (out.map Seen.enc)) []) k' zs [.cells 0 2 160 true [x.enc], .cells st 2 160 false (out.map Seen.enc)]) :
    ∀ (rest done out : List Seen) (st : Nat), l = done ++ rest → out.length ≤ done.length + 1 →
    Lp prog f216.ntmps 0 (Ret [.t 4] 0 (.sl 2 ((out ++ rest.filter fun y => !decide (y.node = x.node)).map Seen.enc)) []) c216L2 (.blk 2 :: k') [(0, .sl 2 (l.map Seen.enc)), (3, .ptr 0 0 0 0), (5, .row 1 st 0 out.length), (6, .int .i64 done.length)] [.cells 0 2 160 true [x.enc], .cells st 2 160 false (out.map Seen.enc)] := by
  intro rest
  induction rest with
  | nil =>
    intro done out st hd ho
    refine Lp.of_eq hmx c216L2.eq_1 ?_
    have h1 := rg_end hd
    have e : (out ++ ([] : List Seen).filter fun y => !decide (y.node = x.node)) = out := by simp
    rw [e]
    simp only [go_sem, seval, h1, List.length_map]
    exact hk _ st out (by rfl)
  | cons c rest ih =>
    intro done out st hd ho
    refine Lp.of_eq hmx c216L2.eq_1 ?_
    obtain ⟨h1, h2, h3, h4⟩ := rg_hd Seen.enc hd (by omega)
    have hlen : done.length + 1 ≤ l.length := by rw [hd]; simp
    cases hc : decide (c.node = x.node)
    · have e : (out ++ (c :: rest).filter fun y => !decide (y.node = x.node)) = out ++ [c] ++ rest.filter fun y => !decide (y.node = x.node) := by simp [List.filter_cons, hc]
      have ih' := ih (done ++ [c]) (out ++ [c]) (st + 1) h4 (by simp; omega)
      rw [← e] at ih'
      simp only [List.map_append, List.map_cons, List.map_nil, List.length_append, List.length_cons, List.length_nil, Nat.zero_add] at ih' h3
      rw [List.map_append]
      repeat' first | (with_reducible intro h; try simp only [h]) | (with_reducible refine And.intro ?_ ?_) | (change chk _ _ = true; rfl) | simp only [go_sem, seval, Vc_bool, h1, h2, h3, hc, List.length_map, Nat.le_refl, Int.toNat_natCast, Int.natCast_nonneg] | refine (GX_split rfl).2 ?_
      · omega
      · refine Lp.bkE [_] ih' (by rfl) (by rfl) ?_ (Nat.zero_le _) rfl
        rw [List.all_cons, List.all_cons, List.all_nil, Bool.and_true, seen_snoc]
        rfl
    · have e : (out ++ (c :: rest).filter fun y => !decide (y.node = x.node)) = out ++ rest.filter fun y => !decide (y.node = x.node) := by simp [List.filter_cons, hc]
      have ih' := ih (done ++ [c]) out st h4 (by simp; omega)
      rw [← e] at ih'
      repeat' first | (with_reducible intro h; try simp only [h]) | (with_reducible refine And.intro ?_ ?_) | (change chk _ _ = true; rfl) | simp only [go_sem, seval, Vc_bool, h1, h2, h3, hc, List.length_map, Int.toNat_natCast, Int.natCast_nonneg] | refine (GX_split rfl).2 ?_
      exact Lp.bkE0 ih' (by rfl) rfl
end
theorem c216_ok {l : List Seen} {x : Seen} (hL : (l.length + 1) * 16 ≤ 140737488355328) : ACalls prog 216 [.sl 2 (l.map Seen.enc), .agg x.enc] [] (.sl 2 ((see l x).map Seen.enc)) [] := by
  obtain ⟨t1, t2⟩ := tw_len (fun y : Seen => decide (y.node < x.node)) l
  have hsplit : l = lows x l ++ l.dropWhile (fun y : Seen => decide (y.node < x.node)) := (List.takeWhile_append_dropWhile).symm
  have hle : (lows x l).length ≤ l.length := by
    have := congrArg List.length hsplit
    rw [List.length_append] at this; omega
  have e : see l x = lows x l ++ [x] ++ (l.dropWhile (fun y : Seen => decide (y.node < x.node))).filter fun y => !decide (y.node = x.node) := by simp [see, lows]
  rw [e]
  refine calls_of hmx func216 (by kernel_rfl) (c := f216.body.getD .skip) rfl e216 (rs := [(.t 4)]) (by kernel_rfl) (by simp [ntmps216]) ?_
  simp only [c216, argS]
  repeat' first | (with_reducible intro h; try simp only [h]) | (with_reducible refine And.intro ?_ ?_) | (change chk _ _ = true; rfl) | simp only [go_sem, seval, Vc_bool] | refine (GX_split rfl).2 ?_
  refine Lp.gs (Gs_virt 5 160 false (by decide : 0 < 2) (by rfl)) ?_
  refine Lp.bkE0 (l216a hL _ _ (fun zs st z0 z3 z5 z6 => ?_) l [] 1 rfl (by simp)) (by rfl) rfl
  repeat' first | (with_reducible intro h; try simp only [h]) | (with_reducible refine And.intro ?_ ?_) | (change chk _ _ = true; rfl) | simp only [go_sem, seval, Vc_bool, z0, z3, z5, z6, List.length_map, Nat.le_refl] | refine (GX_split rfl).2 ?_
  · omega
  · have h := l216b (l := l) (x := x) hL [.code (.seq (.reg [(.mv 55 (.t 5)), (.mv 4 (.t 55))]) .ret)] (fun zs st out z5 => ?_) (l.dropWhile (fun y : Seen => decide (y.node < x.node))) (lows x l) (lows x l ++ [x]) (st + 1) hsplit (by simp)
    · rw [show (lows x l ++ [x]).map Seen.enc = (lows x l).map Seen.enc ++ [x.enc] by simp, show (lows x l ++ [x]).length = (lows x l).length + 1 by simp] at h
      refine Lp.bkE [_] h ?_ (by rfl) ?_ (Nat.zero_le _) rfl
      · simp only [List.map_cons, List.map_nil, get_cons, Nat.reduceEqDiff, reduceIte, z0, z3, z5, z6]
      · rw [List.all_cons, List.all_cons, List.all_nil, Bool.and_true, seen_snoc]
        rfl
    · simp only [go_sem, seval, z5]
      refine Rt.gs (Gs_freeze 1 (s' := [(4, .sl 2 (out.map Seen.enc))]) (H' := [.dead, .dead]) rfl ?_ ?_) (Rt_pure (by rfl) (by rfl))
      · refine List.forall_mem_cons.2 ⟨?_, by simp⟩
        simp only [go_sem, seval, z5]
        exact Fz.row 0 _ (by rw [List.drop_zero]; exact List.take_of_length_le (by simp)) (cloE_map fun _ => by rfl)
      · repeat' (first | exact FzL.nil | refine FzL.cons ?_ ?_ | exact Fz.wk (Wk.refl _) | exact Fz.wk (Wk.nil _) | exact Fz.wk (Wk.emp _) | exact Fz.row0 _ _ _ _ | exact FzH.nil _ | exact FzO.refl _ | refine FzO.one ?_ | refine FzH.cons (by decide) ?_ ?_ | refine FzH.this rfl ?_ | exact FzO.dead (by simp) | (simp only [List.forall_mem_cons, List.not_mem_nil, false_implies, implies_true, and_true, go_sem, seval]) | refine And.intro ?_ ?_)
theorem l108 (s : Station) (f : Sp.Frame) (x : Seen) (hL : s.seen.length < 2 ^ 62) (R : Bool → AVal) (Z : List AVal) (U : List AVal) (k' : List It) (hk : ∀ zs (b : Bool), get zs 2 = .ptr 0 0 0 0 → get zs 3 = .ptr 1 0 0 0 → get zs 4 = .ptr 2 0 0 0 → get zs 5 = .ptr 3 0 0 0 → get zs 6 = .ptr 4 0 0 0 → get zs 8 = .ptr 5 0 0 0 → V prog f108.ntmps 0 (Ret [.cell 4 true 14, .cell 5 true 14] 0 (R b) []) k' zs [.cells 0 14 31 true [s.enc], .cells 0 12 41 true [f.enc], .cells 0 14 31 true [Z], .cells 0 14 51 true [U], .cells 0 14 51 true [Up.enc ⟨true, b, f⟩], .cells 0 2 160 true [x.enc]]) :
    ∀ (rest done : List Seen) (b : Bool), s.seen = done ++ rest →
    Lp prog f108.ntmps 0 (Ret [.cell 4 true 14, .cell 5 true 14] 0 (R (b && !(rest.any fun y => decide (y = x)))) []) c108L1 (.blk 0 :: k') [(2, .ptr 0 0 0 0), (3, .ptr 1 0 0 0), (4, .ptr 2 0 0 0), (5, .ptr 3 0 0 0), (6, .ptr 4 0 0 0), (8, .ptr 5 0 0 0), (9, .int .i64 done.length)] [.cells 0 14 31 true [s.enc], .cells 0 12 41 true [f.enc], .cells 0 14 31 true [Z], .cells 0 14 51 true [U], .cells 0 14 51 true [Up.enc ⟨true, b, f⟩], .cells 0 2 160 true [x.enc]] := by
  intro rest
  induction rest with
  | nil =>
    intro done b hd
    refine Lp.of_eq hmx c108L1.eq_1 ?_
    have h1 := rg_end hd
    have e : (b && !(([] : List Seen).any fun y => decide (y = x))) = b := by simp
    rw [e]
    simp only [go_sem, seval, h1, List.length_map]
    exact hk _ b (by rfl) (by rfl) (by rfl) (by rfl) (by rfl) (by rfl)
  | cons c rest ih =>
    intro done b hd
    refine Lp.of_eq hmx c108L1.eq_1 ?_
    obtain ⟨h1, h2, h3, h4⟩ := rg_hd Seen.enc hd hL
    cases hc : decide (c = x)
    · have ih' := ih (done ++ [c]) b h4
      have e : (b && !((c :: rest).any fun y => decide (y = x))) = (b && !(rest.any fun y => decide (y = x))) := by simp [List.any_cons, hc]
      rw [e]
      repeat' first | (with_reducible intro h; try simp only [h]) | (with_reducible refine And.intro ?_ ?_) | (change chk _ _ = true; rfl) | simp only [go_sem, seval, Vc_bool, h1, h2, h3, seen_eq, hc, List.length_map, Int.toNat_natCast, Int.natCast_nonneg] | refine (GX_split rfl).2 ?_
      exact Lp.bkE0 ih' (by rfl) rfl
    · have ih' := ih (done ++ [c]) false h4
      have e : (b && !((c :: rest).any fun y => decide (y = x))) = false := by simp [List.any_cons, hc]
      rw [Bool.false_and] at ih'
      rw [e]
      repeat' first | (with_reducible intro h; try simp only [h]) | (with_reducible refine And.intro ?_ ?_) | (change chk _ _ = true; rfl) | simp only [go_sem, seval, Vc_bool, h1, h2, h3, seen_eq, hc, List.length_map, Int.toNat_natCast, Int.natCast_nonneg] | refine (GX_split rfl).2 ?_
      exact Lp.bkE0 ih' (by rfl) rfl
theorem c108_ok {s : Station} {f : Sp.Frame} (hL : s.held.length < 2 ^ 62) (hS : (s.seen.length + 1) * 16 ≤ 140737488355328) : ACalls prog 108 [.agg s.enc, .agg f.enc] [] (.tup [.agg (gotFr s f).1.enc, .agg (gotFr s f).2.enc]) [] := by
  refine calls_of hmx func108 (by kernel_rfl) (c := f108.body.getD .skip) rfl e108 (rs := [(.cell 4 true 14), (.cell 5 true 14)]) (by kernel_rfl) (by simp [ntmps108]) ?_
  simp only [c108, argS]
  cases hF : frFor f s.tab.node with
  | false =>
    have e : gotFr s f = (s, Up.zero) := by simp [gotFr, hF]
    rw [e]
    repeat' first | refine CX_pure (c33_ok) rfl rfl rfl rfl ?_ | refine GX_call (fun _ => (c33_ok)) (by rfl) (by intro h; simp only [h]; rfl) (by rfl) (by rfl) ?_ | (with_reducible intro h; try simp only [h]) | (with_reducible refine And.intro ?_ ?_) | (change chk _ _ = true; rfl) | simp only [go_sem, seval, Vc_bool, hF] | refine (GX_split rfl).2 ?_
    exact Rt_pure (by rfl) (by rfl)
  | true =>
    cases h2 : decide (f.kind = 2) with
    | true =>
      have e : gotFr s f = (s, Up.zero) := by simp [gotFr, of_decide_eq_true h2]
      rw [e]
      repeat' first | refine CX_pure (c33_ok) rfl rfl rfl rfl ?_ | refine GX_call (fun _ => (c33_ok)) (by rfl) (by intro h; simp only [h]; rfl) (by rfl) (by rfl) ?_ | (with_reducible intro h; try simp only [h]) | (with_reducible refine And.intro ?_ ?_) | (change chk _ _ = true; rfl) | simp only [go_sem, seval, Vc_bool, hF, h2] | refine (GX_split rfl).2 ?_
      exact Rt_pure (by rfl) (by rfl)
    | false =>
      have g2 : ¬ f.kind = 2 := of_decide_eq_false h2
      cases h1 : decide (f.kind = 1) with
      | true =>
        have g1 : f.kind = 1 := of_decide_eq_true h1
        have h4 : decide (f.kind = 4) = false := by simp [g1]
        have h107 := c107_pf s f.flow hL
        have e : gotFr s f = (s, ⟨true, upNew s f, f⟩) := by simp [gotFr, hF, g1, upNew]; cases heldOf s.held f.flow <;> rfl
        rw [e]
        rcases idxFrom_find (fun h : Held => decide (h.flow = f.flow)) s.held with ⟨i1, i2⟩ | ⟨i, x, i1, i2, i3, i4, i5⟩
        · have e1 : heldIdx s.held f.flow = -1 := i1
          have e2 : upNew s f = true := by rw [upNew, show heldOf s.held f.flow = none from i2]
          rw [e1] at h107
          rw [e2]
          repeat' first | refine CX_pure (c33_ok) rfl rfl rfl rfl ?_ | refine CX_pure (h107) rfl rfl rfl rfl ?_ | refine GX_call (fun _ => (c33_ok)) (by rfl) (by intro h; simp only [h]; rfl) (by rfl) (by rfl) ?_ | refine GX_call (fun _ => (h107)) (by rfl) (by intro h; simp only [h]; rfl) (by rfl) (by rfl) ?_ | (with_reducible intro h; try simp only [h]) | (with_reducible refine And.intro ?_ ?_) | (change chk _ _ = true; rfl) | simp only [go_sem, seval, Vc_bool, hF, h1, h2, h4] | refine (GX_split rfl).2 ?_
          exact Rt_pure (by rfl) (by rfl)
        · have e1 : heldIdx s.held f.flow = i := i3
          have e2 : upNew s f = !decide (x.frame = f.num) := by rw [upNew, show heldOf s.held f.flow = some x from i4]
          have e3 : (s.held.map Held.enc)[i]? = some x.enc := by rw [List.getElem?_map, i1]; rfl
          have e4 : decide ((i : Int) < 0) = false := by simp
          rw [e1] at h107
          rw [e2]
          repeat' first | refine CX_pure (c33_ok) rfl rfl rfl rfl ?_ | refine CX_pure (h107) rfl rfl rfl rfl ?_ | refine GX_call (fun _ => (c33_ok)) (by rfl) (by intro h; simp only [h]; rfl) (by rfl) (by rfl) ?_ | refine GX_call (fun _ => (h107)) (by rfl) (by intro h; simp only [h]; rfl) (by rfl) (by rfl) ?_ | (with_reducible intro h; try simp only [h]) | (with_reducible refine And.intro ?_ ?_) | (change chk _ _ = true; rfl) | simp only [go_sem, seval, Vc_bool, hF, h1, h2, h4, e3, e4, Int.toNat_natCast, Int.natCast_nonneg] | refine (GX_split rfl).2 ?_
          exact Rt_pure (by rfl) (by rfl)
      | false =>
        have g1 : ¬ f.kind = 1 := of_decide_eq_false h1
        cases h4 : decide (f.kind = 4) with
        | false =>
          have e : gotFr s f = (s, ⟨true, true, f⟩) := by simp [gotFr, hF, g1, g2, of_decide_eq_false h4]
          rw [e]
          repeat' first | refine CX_pure (c33_ok) rfl rfl rfl rfl ?_ | refine GX_call (fun _ => (c33_ok)) (by rfl) (by intro h; simp only [h]; rfl) (by rfl) (by rfl) ?_ | (with_reducible intro h; try simp only [h]) | (with_reducible refine And.intro ?_ ?_) | (change chk _ _ = true; rfl) | simp only [go_sem, seval, Vc_bool, hF, h1, h2, h4] | refine (GX_split rfl).2 ?_
          exact Rt_pure (by rfl) (by rfl)
        | true =>
          have g4 : f.kind = 4 := of_decide_eq_true h4
          cases ht : decide (f.tgt = s.tab.node) with
          | false =>
            have e : gotFr s f = (s, ⟨true, true, f⟩) := by simp [gotFr, hF, g4, of_decide_eq_false ht]
            rw [e]
            repeat' first | refine CX_pure (c33_ok) rfl rfl rfl rfl ?_ | refine GX_call (fun _ => (c33_ok)) (by rfl) (by intro h; simp only [h]; rfl) (by rfl) (by rfl) ?_ | (with_reducible intro h; try simp only [h]) | (with_reducible refine And.intro ?_ ?_) | (change chk _ _ = true; rfl) | simp only [go_sem, seval, Vc_bool, hF, h1, h2, h4, ht] | refine (GX_split rfl).2 ?_
            exact Rt_pure (by rfl) (by rfl)
          | true =>
            have e : gotFr s f = ({ s with seen := see s.seen ⟨f.src, f.seq⟩ }, ⟨true, !(s.seen.any fun y => decide (y = ⟨f.src, f.seq⟩)), f⟩) := by simp [gotFr, hF, g4, of_decide_eq_true ht]
            rw [e]
            repeat' first | refine CX_pure (c33_ok) rfl rfl rfl rfl ?_ | refine GX_call (fun _ => (c33_ok)) (by rfl) (by intro h; simp only [h]; rfl) (by rfl) (by rfl) ?_ | (with_reducible intro h; try simp only [h]) | (with_reducible refine And.intro ?_ ?_) | (change chk _ _ = true; rfl) | simp only [go_sem, seval, Vc_bool, hF, h1, h2, h4, ht] | refine (GX_split rfl).2 ?_
            have hl := l108 s f ⟨f.src, f.seq⟩ (by omega) (fun b => .tup [.agg (Station.enc { s with seen := see s.seen ⟨f.src, f.seq⟩ }), .agg (Up.enc ⟨true, b, f⟩)]) zSt Up.zero.enc
            refine Lp.bkE0 (hl _ (fun zs b z2 z3 z4 z5 z6 z8 => ?_) s.seen [] true rfl) (by rfl) (by rfl)
            repeat' first | refine CX_pure (c216_ok (l := s.seen) (x := ⟨f.src, f.seq⟩) hS) rfl rfl rfl rfl ?_ | refine GX_call (fun _ => (c216_ok (l := s.seen) (x := ⟨f.src, f.seq⟩) hS)) (by rfl) (by intro h; simp only [h]; rfl) (by rfl) (by rfl) ?_ | (with_reducible intro h; try simp only [h]) | (with_reducible refine And.intro ?_ ?_) | (change chk _ _ = true; rfl) | simp only [go_sem, seval, Vc_bool, z2, z3, z4, z5, z6, z8, zSt] | refine (GX_split rfl).2 ?_
            refine Rt_pure ?_ (by rfl)
            simp only [retO, retOs, retO1, S, get_cons, Nat.reduceEqDiff, reduceIte, z4, z5]
            rfl

end Go.Av.T
set_option maxRecDepth 100000
set_option maxHeartbeats 1000000
set_option linter.unusedSimpArgs false
set_option linter.unusedVariables false
namespace Go.Av.T
open Go Go.Av Go.Av.Sp Go.Proofs.Tryz
def c29L1 : SC := (.seq (.seq (.regD [(.mv 56 (.t 15)), (.fa 57 (.t 13) 4), (.ld 58 (.t 57) false 1), (.len 59 false (.t 58)), (.bin 60 .lss (.t 56) (.t 59)), (.mv 61 (.t 60)), (.g 61 true (some 62) (.fa 62 (.t 13) 4)), (.g 61 true (some 63) (.ld 63 (.t 62) false 1)), (.g 61 true (some 64) (.mv 64 (.t 15))), (.g 61 true (some 65) (.ia 65 (.t 63) (.t 64) 1)), (.g 61 true (some 66) (.ld 66 (.t 65) false 1)), (.g 61 true (some 67) (.fa 67 (.t 11) 14)), (.g 61 true (some 68) (.fa 68 (.t 67) 4)), (.g 61 true (some 69) (.ld 69 (.t 68) false 1)), (.g 61 true (some 70) (.bin 70 .lss (.t 66) (.t 69))), (.pick 71 (.t 61) (.t 70) (.c (.bool false)))] []) (.cond (.t 71) .skip (.exit 0))) (.seq (.block 1 (.reg [(.mv 74 (.t 14)), (.fa 75 (.t 13) 4), (.ld 76 (.t 75) false 1), (.mv 77 (.t 15)), (.ia 78 (.t 76) (.t 77) 1), (.ld 79 (.t 78) false 1), (.bsl 80 3 1 [(.int .i64 0)] 1 [(0, (.t 79))]), (.app 81 3 1 8 (.t 74) (.t 80)), (.mv 14 (.t 81))])) (.reg [(.mv 72 (.t 15)), (.bin 73 .add (.t 72) (.c (.int .i64 1))), (.mv 15 (.t 73))])))
def c29 : SC := (.seq (.reg [(.box 3 31 (.t 0)), (.box 5 48 (.t 2)), (.alc 6 31 [(.int .i64 0), (.int .i64 0), .nil, (.int .i64 0), .nil, .nil, .nil, (.int .i64 0), (.int .i64 0), (.int .i64 0), (.int .i64 0), (.int .i64 0), (.int .i64 0), (.int .i64 0)]), (.alc 7 51 [(.bool false), (.bool false), (.int .i64 0), (.int .i64 0), (.int .i64 0), (.int .i64 0), (.int .i64 0), (.int .i64 0), (.int .i64 0), (.int .i64 0), (.int .i64 0), (.int .i64 0), (.int .i64 0), (.str (ByteArray.mk #[]))]), (.mv 8 (.c (.int .i64 0)))]) (.seq (.seq (.reg [(.ld 19 (.t 3) true 14), (.mv 20 (.t 1)), (.call (some 21) (.c (.func 26 [] [])) [(.t 19), (.t 20)]), (.mv 18 (.t 21)), (.ext 22 (.t 18) 0), (.ext 23 (.t 18) 1), (.alc 9 43 [(.int .i64 0), (.int .i64 0), (.int .i64 0), (.int .i64 0), (.int .i64 0), (.int .i64 0), (.int .i64 0), (.int .i64 0), (.int .i64 0), (.int .i64 0), (.int .i64 0), (.int .i64 0), (.int .i64 0), (.str (ByteArray.mk #[]))]), (.st (.t 9) (.t 22) 14), (.mv 10 (.t 23))]) (.seq (.reg [(.mv 24 (.t 10)), (.bin 25 .neq (.t 24) (.c (.int .i64 0)))]) (.cond (.t 25) (.seq (.reg [(.bld 26 [(.int .i64 0), (.int .i64 0), .nil, (.int .i64 0), .nil, .nil, .nil, (.int .i64 0), (.int .i64 0), (.int .i64 0), (.int .i64 0), (.int .i64 0), (.int .i64 0), (.int .i64 0)] []), (.bld 27 [(.bool false), (.bool false), (.int .i64 0), (.int .i64 0), (.int .i64 0), (.int .i64 0), (.int .i64 0), (.int .i64 0), (.int .i64 0), (.int .i64 0), (.int .i64 0), (.int .i64 0), (.int .i64 0), (.str (ByteArray.mk #[]))] []), (.mv 28 (.t 10)), (.st (.t 6) (.t 26) 14), (.st (.t 7) (.t 27) 14), (.mv 8 (.t 28))]) .ret) .skip))) (.seq (.reg [(.ld 29 (.t 3) true 14), (.mv 30 (.t 1)), (.call (some 31) (.c (.func 98 [] [])) [(.t 29), (.t 30)]), (.alc 11 170 [(.int .i64 0), (.int .i64 0), (.int .i64 0), (.int .i64 0), (.int .i64 0), (.int .i64 0), (.int .i64 0), (.int .i64 0), (.int .i64 0), (.int .i64 0), (.int .i64 0), (.int .i64 0), (.int .i64 0), (.str (ByteArray.mk #[])), (.int .i64 0), (.int .i64 0), (.int .i64 0), (.bool false), (.int .i64 0), (.int .i64 0), (.int .i64 0), (.int .i64 0), (.int .i64 0), (.int .i64 0), (.int .i64 0), (.str (ByteArray.mk #[])), (.bool false)]), (.st (.t 11) (.t 31) 27)]) (.seq (.seq (.reg [(.fa 32 (.t 11) 0), (.fa 33 (.t 32) 0), (.ld 34 (.t 33) false 1), (.bin 35 .eql (.t 34) (.c (.int .i64 1)))]) (.cond (.t 35) (.seq (.seq (.reg [(.fa 36 (.t 11) 26), (.ld 37 (.t 36) false 1)]) (.cond (.t 37) (.seq (.reg [(.ld 38 (.t 3) true 14), (.ld 39 (.t 11) true 27), (.fa 40 (.t 5) 0), (.ld 41 (.t 40) false 1), (.call (some 42) (.c (.func 106 [] [])) [(.t 38), (.t 39), (.t 41)]), (.bld 43 [(.bool false), (.bool false), (.int .i64 0), (.int .i64 0), (.int .i64 0), (.int .i64 0), (.int .i64 0), (.int .i64 0), (.int .i64 0), (.int .i64 0), (.int .i64 0), (.int .i64 0), (.int .i64 0), (.str (ByteArray.mk #[]))] []), (.st (.t 6) (.t 42) 14), (.st (.t 7) (.t 43) 14), (.mv 8 (.c (.int .i64 0)))]) .ret) .skip)) (.seq (.seq (.reg [(.fa 44 (.t 5) 0), (.ld 45 (.t 44) false 1)]) (.cond (.t 45) (.seq (.reg [(.ld 46 (.t 3) true 14), (.fa 47 (.t 11) 14), (.fa 48 (.t 47) 5), (.ld 49 (.t 48) false 1), (.call (some 50) (.c (.func 107 [] [])) [(.t 46), (.t 49)]), (.mv 12 (.t 50))]) (.seq (.reg [(.fa 51 (.t 3) 5), (.ld 52 (.t 51) false 1), (.mv 53 (.t 12)), (.ia 54 (.t 52) (.t 53) 5), (.ld 55 (.t 54) true 5), (.alc 13 100 [(.int .i64 0), (.int .i64 0), (.int .i64 0), (.str (ByteArray.mk #[])), .nil]), (.st (.t 13) (.t 55) 5)]) (.seq (.reg [(.mv 14 (.c .nil))]) (.seq (.reg [(.mv 15 (.c (.int .i64 0)))]) (.seq (.block 0 (.loop c29L1)) (.seq (.regD [(.mv 82 (.t 14)), (.fa 83 (.t 11) 14), (.fa 84 (.t 83) 4), (.ld 85 (.t 84) false 1), (.bsl 86 3 1 [(.int .i64 0)] 1 [(0, (.t 85))]), (.app 87 3 1 8 (.t 82) (.t 86)), (.fa 88 (.t 13) 4), (.ld 89 (.t 88) false 1), (.mv 90 (.t 15)), (.slc 91 1 (.t 89) (some (.t 90)) none none), (.app 92 3 1 8 (.t 87) (.t 91)), (.mv 14 (.t 92))] [(4, 7), (5, 7), (4, 9), (5, 9)]) (.seq (.reg [(.mv 93 (.t 14)), (.fa 94 (.t 13) 4), (.st (.t 94) (.t 93) 1)]) (.seq (.reg [(.bsl 95 100 5 [(.int .i64 0), (.int .i64 0), (.int .i64 0), (.str (ByteArray.mk #[])), .nil] 0 []), (.fa 96 (.t 3) 5), (.ld 97 (.t 96) false 1), (.app 98 100 5 64 (.t 95) (.t 97)), (.fa 99 (.t 3) 5), (.st (.t 99) (.t 98) 1)]) (.reg [(.fa 100 (.t 3) 5), (.ld 101 (.t 100) false 1), (.mv 102 (.t 12)), (.ld 103 (.t 13) true 5), (.ia 104 (.t 101) (.t 102) 5), (.st (.t 104) (.t 103) 5)]))))))))) .skip)) (.seq (.reg [(.ld 105 (.t 3) true 14), (.bld 106 [(.bool false), (.bool false), (.int .i64 0), (.int .i64 0), (.int .i64 0), (.int .i64 0), (.int .i64 0), (.int .i64 0), (.int .i64 0), (.int .i64 0), (.int .i64 0), (.int .i64 0), (.int .i64 0), (.str (ByteArray.mk #[]))] []), (.st (.t 6) (.t 105) 14), (.st (.t 7) (.t 106) 14), (.mv 8 (.c (.int .i64 0)))]) .ret))) .skip)) (.seq (.seq (.reg [(.fa 107 (.t 11) 0), (.fa 108 (.t 107) 0), (.ld 109 (.t 108) false 1), (.bin 110 .eql (.t 109) (.c (.int .i64 2)))]) (.cond (.t 110) (.seq (.seq (.reg [(.fa 111 (.t 11) 26), (.ld 112 (.t 111) false 1)]) (.cond (.t 112) (.reg [(.fa 113 (.t 3) 12), (.ld 114 (.t 113) false 1), (.bin 115 .sub (.t 114) (.c (.int .i64 1))), (.fa 116 (.t 3) 12), (.st (.t 116) (.t 115) 1)]) .skip)) (.seq (.reg [(.fa 117 (.t 5) 1), (.ld 118 (.t 117) false 1)]) (.cond (.t 118) (.seq (.reg [(.ld 120 (.t 3) true 14), (.fa 121 (.t 5) 2), (.ld 122 (.t 121) true 12), (.call (some 123) (.c (.func 108 [] [])) [(.t 120), (.t 122)]), (.mv 119 (.t 123)), (.ext 124 (.t 119) 0), (.ext 125 (.t 119) 1), (.alc 16 31 [(.int .i64 0), (.int .i64 0), .nil, (.int .i64 0), .nil, .nil, .nil, (.int .i64 0), (.int .i64 0), (.int .i64 0), (.int .i64 0), (.int .i64 0), (.int .i64 0), (.int .i64 0)]), (.alc 17 51 [(.bool false), (.bool false), (.int .i64 0), (.int .i64 0), (.int .i64 0), (.int .i64 0), (.int .i64 0), (.int .i64 0), (.int .i64 0), (.int .i64 0), (.int .i64 0), (.int .i64 0), (.int .i64 0), (.str (ByteArray.mk #[]))]), (.st (.t 16) (.t 124) 14), (.st (.t 17) (.t 125) 14)]) (.seq (.regD [(.ld 126 (.t 16) true 14), (.ld 127 (.t 17) true 14), (.st (.t 6) (.t 126) 14), (.st (.t 7) (.t 127) 14), (.mv 8 (.c (.int .i64 0)))] [(1, 2)]) .ret)) .skip))) .skip)) (.seq (.reg [(.ld 128 (.t 3) true 14), (.bld 129 [(.bool false), (.bool false), (.int .i64 0), (.int .i64 0), (.int .i64 0), (.int .i64 0), (.int .i64 0), (.int .i64 0), (.int .i64 0), (.int .i64 0), (.int .i64 0), (.int .i64 0), (.int .i64 0), (.str (ByteArray.mk #[]))] []), (.st (.t 6) (.t 128) 14), (.st (.t 7) (.t 129) 14), (.mv 8 (.c (.int .i64 0)))]) .ret))))))
theorem e29 : compC prog f29.ntmps (f29.body.getD .skip) = c29 := by kernel_rfl
theorem plan_data {s : Station} {slot : Int} {a : Action} {c : TCell} (h : plan s slot = ⟨a, c, none⟩) (ha : a.kind = 1) : ∃ x, heldOf s.held c.flow = some x := by
  unfold plan at h
  cases hc : tabAt s.tab slot with
  | none => rw [hc] at h; injection h with h1; subst h1; cases ha
  | some d =>
    simp only [hc] at h
    by_cases h1 : d.kind = 1 ∧ d.send = true
    · rw [if_pos h1] at h
      cases hh : heldOf s.held d.flow with
      | none => simp only [hh] at h; injection h with h1; subst h1; cases ha
      | some x =>
        simp only [hh] at h
        split at h
        · injection h with h1; subst h1; cases ha
        · injection h with h1 h2; subst h2; exact ⟨x, hh⟩
    · rw [if_neg h1] at h
      by_cases h2 : d.kind = 2 ∧ d.send = true
      · rw [if_pos h2] at h
        cases hh : qFirst s.q d.peer with
        | none => simp only [hh] at h; injection h with h1; subst h1; cases ha
        | some x => simp only [hh] at h; injection h with h1 h2 h3; cases h3
      · rw [if_neg h2] at h
        by_cases h3 : d.kind = 3
        · rw [if_pos h3] at h
          cases hh : candidate s with
          | none => simp only [hh] at h; injection h with h1; subst h1; cases ha
          | some x =>
            simp only [hh] at h
            split at h
            · injection h with h1 h2 h3; cases h3
            · injection h with h1 h2 h3; cases h3
        · rw [if_neg h3] at h
          injection h with h1; subst h1; cases ha
def h29 (s : Station) (r : Sp.Result) (a : Action) (c : TCell) (x : Held) : Heap := [.cells 0 14 31 true [s.enc], .cells 0 15 48 true [r.enc], .cells 0 14 31 true [zSt], .cells 0 14 51 true [Up.zero.enc], .cells 0 14 43 true [a.enc], .cells 0 27 170 true [plEnc ⟨a, c, none⟩], .cells 0 5 100 true [x.enc]]
theorem ack_snoc {l : List Int} {n : Int} {m q : Nat} {fu : Bool} : ltO m (.cells q 1 3 fu (l.map eI ++ [eI n])) = true := by
  have h := lt_ack (l := l ++ [n]) (m := m) (q := q) (fu := fu)
  rwa [List.map_append, List.map_cons, List.map_nil] at h
def lowI (n : Int) (l : List Int) : List Int := l.takeWhile fun y => decide (y < n)
theorem l29 (s : Station) (r : Sp.Result) (a : Action) (c : TCell) (x : Held) (i : Int) (hL : (x.acked.length + 1) * 8 ≤ 140737488355328) (R : AVal) (k' : List It)
    (hk : ∀ zs (st : Nat), get zs 3 = .ptr 0 0 0 0 → get zs 6 = .ptr 2 0 0 0 → get zs 7 = .ptr 3 0 0 0 → get zs 11 = .ptr 5 0 0 0 → get zs 12 = .int .i64 i → get zs 13 = .ptr 6 0 0 0 → get zs 14 = .row 7 st 0 (lowI c.peer x.acked).length → get zs 15 = .int .i64 (lowI c.peer x.acked).length → V prog f29.ntmps 0 (Ret [.cell 6 true 14, .cell 7 true 14, .t 8] 0 R []) k' zs (h29 s r a c x ++ [.cells st 1 3 false ((lowI c.peer x.acked).map eI)])) :
    ∀ (rest done : List Int) (st : Nat), x.acked = done ++ rest → lowI c.peer x.acked = done ++ lowI c.peer rest →
    Lp prog f29.ntmps 0 (Ret [.cell 6 true 14, .cell 7 true 14, .t 8] 0 R []) c29L1 (.blk 0 :: k') [(3, .ptr 0 0 0 0), (6, .ptr 2 0 0 0), (7, .ptr 3 0 0 0), (11, .ptr 5 0 0 0), (12, .int .i64 i), (13, .ptr 6 0 0 0), (14, .row 7 st 0 done.length), (15, .int .i64 done.length)] (h29 s r a c x ++ [.cells st 1 3 false (done.map eI)]) := by
  intro rest
  induction rest with
  | nil =>
    intro done st hd ht
    refine Lp.of_eq hmx c29L1.eq_1 ?_
    have h1 := rg_end hd
    have e : lowI c.peer x.acked = done := by rw [ht]; simp [lowI]
    rw [e] at hk
    simp only [go_sem, seval, h1, List.length_map, h29]
    exact hk _ st (by rfl) (by rfl) (by rfl) (by rfl) (by rfl) (by rfl) (by rfl) (by rfl)
  | cons n rest ih =>
    intro done st hd ht
    refine Lp.of_eq hmx c29L1.eq_1 ?_
    obtain ⟨h1, h2, h3, h4⟩ := rg_hd eI hd (by omega)
    have hlen : done.length + 1 ≤ x.acked.length := by rw [hd]; simp
    cases hc : decide (n < c.peer)
    · have e : lowI c.peer x.acked = done := by rw [ht]; simp [lowI, List.takeWhile_cons, hc]
      rw [e] at hk
      repeat' first | (with_reducible intro h; try simp only [h]) | (with_reducible refine And.intro ?_ ?_) | (change chk _ _ = true; rfl) | simp only [go_sem, seval, Vc_bool, h1, h2, hc, h29, List.length_map, Int.toNat_natCast, Int.natCast_nonneg] | refine (GX_split rfl).2 ?_
      exact hk _ st (by rfl) (by rfl) (by rfl) (by rfl) (by rfl) (by rfl) (by rfl) (by rfl)
    · have e : lowI c.peer x.acked = done ++ [n] ++ lowI c.peer rest := by rw [ht]; simp [lowI, List.takeWhile_cons, hc]
      have ih' := ih (done ++ [n]) (st + 1) h4 e
      simp only [List.map_append, List.map_cons, List.map_nil, List.length_append, List.length_cons, List.length_nil, Nat.zero_add] at ih' h3
      repeat' first | (with_reducible intro h; try simp only [h]) | (with_reducible refine And.intro ?_ ?_) | (change chk _ _ = true; rfl) | simp only [go_sem, seval, Vc_bool, h1, h2, h3, hc, h29, List.length_map, Nat.le_refl, Int.toNat_natCast, Int.natCast_nonneg] | refine (GX_split rfl).2 ?_
      · omega
      · refine Lp.bkE [_] ih' (by rfl) (by rfl) ?_ (Nat.zero_le _) rfl
        simp only [h29, List.cons_append, List.nil_append]
        rw [List.all_cons, List.all_cons, List.all_cons, List.all_cons, List.all_cons, List.all_cons, List.all_cons, List.all_cons, List.all_nil, Bool.and_true, ack_snoc]
        rfl
theorem insI_eq (l : List Int) (n : Int) : insertInt l n = lowI n l ++ [n] ++ l.drop (lowI n l).length := by
  obtain ⟨h1, h2⟩ := tw_len (fun y : Int => decide (y < n)) l
  simp only [insertInt, lowI, h2]; simp
theorem fz_held {id q k st : Nat} {fu : Bool} {es : List (List AVal)} {l : List Held} {j : Nat} {x : Held} {v : AVal} {a : List Int} (hx : l[j]? = some x) (h : Fz id q k es v (.sl 1 (a.map eI))) :
    FzO id q k es (.cells st 5 100 fu ((l.map Held.enc).set j [.int .i64 x.flow, .int .i64 x.frame, .int .i64 x.upto, .str x.data, v])) (.cells st 5 100 fu ((l.set j { x with acked := a }).map Held.enc)) := by
  refine FzO.cells (by simp) fun i e e' h1 h2 => ?_
  rw [List.map_set] at h2
  by_cases hi : i = j
  · subst hi
    have hj := (List.getElem?_eq_some_iff.1 hx).1
    rw [List.getElem?_set_self (by simpa using hj)] at h1 h2
    cases h1
    cases h2
    exact .cons (.wk (.refl _)) (.cons (.wk (.refl _)) (.cons (.wk (.refl _)) (.cons (.wk (.refl _)) (.cons h .nil))))
  · rw [List.getElem?_set_ne (fun e => hi e.symm)] at h1 h2
    rw [h1] at h2
    cases h2
    exact FzL.refl _
/-- The reference's Done. -/
theorem c29_ok {s : Station} {slot : Int} {r : Sp.Result} (hB : DnBd s) : ACalls prog 29 [.agg s.enc, .int .i64 slot, .agg r.enc] [] (.tup [.agg (doneE s slot r).1.enc, .agg (doneE s slot r).2.1.enc, .int .i64 (doneE s slot r).2.2]) [] := by
  have hst := hB.cl.st
  have hse := hB.seen
  have h26 := c26_ok (slot := slot) hst
  have h98 := c98_ok (slot := slot) hst
  by_cases hE : slotErr s slot = 0
  · have e0 : doneE s slot r = ((doneP s slot r).1, (doneP s slot r).2, 0) := by simp [doneE, hE]
    have e1 : actSt s slot = ((plan s slot).act, 0) := by simp [actSt, hE]
    rw [e0]
    rw [e1] at h26
    obtain ⟨g1, g2, g3, g4, g5⟩ := slot0 hE
    obtain ⟨b1, b2, b3, b4, b5⟩ := st_bd g1
    have w1 : IntKind.i64.wrap (s.wait - 1) = s.wait - 1 := wrap_ok (by omega) (by omega)
    cases hx : plan s slot with
    | mk a c pk =>
    rw [hx] at h26 h98
    rcases a with ⟨ak, ao, fr⟩
    by_cases k1 : ak = 1
    · subst k1
      cases pk with
      | some p =>
        have h106 := c106_ok (a := ⟨1, ao, fr⟩) (c := c) (p := p) (acked := r.acked) hB.cl.q b1 b2 b3 b5
        rw [done_sent hx rfl]
        refine calls_of hmx func29 (by kernel_rfl) (c := f29.body.getD .skip) rfl e29 (rs := [(.cell 6 true 14), (.cell 7 true 14), (.t 8)]) (by kernel_rfl) (by simp [ntmps29]) ?_
        simp only [c29, argS]
        repeat' first | refine CX_pure (h26) rfl rfl rfl rfl ?_ | refine CX_pure (h98) rfl rfl rfl rfl ?_ | refine CX_pure (h106) rfl rfl rfl rfl ?_ | refine GX_call (fun _ => (h26)) (by rfl) (by intro h; simp only [h]; rfl) (by rfl) (by rfl) ?_ | refine GX_call (fun _ => (h98)) (by rfl) (by intro h; simp only [h]; rfl) (by rfl) (by rfl) ?_ | refine GX_call (fun _ => (h106)) (by rfl) (by intro h; simp only [h]; rfl) (by rfl) (by rfl) ?_ | (with_reducible intro h; try simp only [h]) | (with_reducible refine And.intro ?_ ?_) | (change chk _ _ = true; rfl) | simp only [go_sem, seval, Vc_bool, Option.getD_some, Option.isSome_some] | refine (GX_split rfl).2 ?_
        exact Rt_pure (by rfl) (by rfl)
      | none =>
        rw [done_data hx rfl]
        cases hr : r.acked with
        | false =>
          refine calls_of hmx func29 (by kernel_rfl) (c := f29.body.getD .skip) rfl e29 (rs := [(.cell 6 true 14), (.cell 7 true 14), (.t 8)]) (by kernel_rfl) (by simp [ntmps29]) ?_
          simp only [c29, argS]
          repeat' first | refine CX_pure (h26) rfl rfl rfl rfl ?_ | refine CX_pure (h98) rfl rfl rfl rfl ?_ | refine GX_call (fun _ => (h26)) (by rfl) (by intro h; simp only [h]; rfl) (by rfl) (by rfl) ?_ | refine GX_call (fun _ => (h98)) (by rfl) (by intro h; simp only [h]; rfl) (by rfl) (by rfl) ?_ | (with_reducible intro h; try simp only [h]) | (with_reducible refine And.intro ?_ ?_) | (change chk _ _ = true; rfl) | simp only [go_sem, seval, Vc_bool, hr, Option.getD_none, Option.isSome_none] | refine (GX_split rfl).2 ?_
          exact Rt_pure (by rfl) (by rfl)
        | true =>
          obtain ⟨x, hh⟩ := plan_data hx rfl
          have h107 := c107_pf s c.flow hst.2.2.1
          rcases idxFrom_find (fun h : Held => decide (h.flow = c.flow)) s.held with ⟨i1, i2⟩ | ⟨j, y, i1, i2, i3, i4, i5⟩
          · rw [show heldOf s.held c.flow = none from i2] at hh; cases hh
          · have h4' : heldOf s.held c.flow = some y := i4
            rw [hh] at h4'
            injection h4' with h4'
            subst h4'
            have hi : heldIdx s.held c.flow = j := i3
            have e5 : ackH s.held c.flow c.peer = s.held.set j { x with acked := insertInt x.acked c.peer } := by simp only [ackH, hh, hi, Int.toNat_natCast]
            have hA := hB.ack x (List.mem_of_getElem? i1)
            have e3 : (s.held.map Held.enc)[j]? = some x.enc := by rw [List.getElem?_map, i1]; rfl
            rw [hi] at h107
            simp only [if_true]
            rw [e5, insI_eq]
            refine calls_of hmx func29 (by kernel_rfl) (c := f29.body.getD .skip) rfl e29 (rs := [(.cell 6 true 14), (.cell 7 true 14), (.t 8)]) (by kernel_rfl) (by simp [ntmps29]) ?_
            simp only [c29, argS]
            repeat' first | refine CX_pure (h26) rfl rfl rfl rfl ?_ | refine CX_pure (h98) rfl rfl rfl rfl ?_ | refine CX_pure (h107) rfl rfl rfl rfl ?_ | refine GX_call (fun _ => (h26)) (by rfl) (by intro h; simp only [h]; rfl) (by rfl) (by rfl) ?_ | refine GX_call (fun _ => (h98)) (by rfl) (by intro h; simp only [h]; rfl) (by rfl) (by rfl) ?_ | refine GX_call (fun _ => (h107)) (by rfl) (by intro h; simp only [h]; rfl) (by rfl) (by rfl) ?_ | (with_reducible intro h; try simp only [h]) | (with_reducible refine And.intro ?_ ?_) | (change chk _ _ = true; rfl) | simp only [go_sem, seval, Vc_bool, hr, e3, Option.getD_none, Option.isSome_none, Int.toNat_natCast, Int.natCast_nonneg] | refine (GX_split rfl).2 ?_
            refine Lp.gs (Gs_virt 14 3 false (by decide : 0 < 1) (by rfl)) ?_
            refine Lp.bkE0 (l29 s { r with acked := true } ⟨1, ao, fr⟩ c x j (by omega) _ _ (fun zs st z3 z6 z7 z11 z12 z13 z14 z15 => ?_) x.acked [] 1 rfl (by simp)) (by rfl) rfl
            have hjl := (List.getElem?_eq_some_iff.1 i1).1
            have hlow : (lowI c.peer x.acked).length ≤ x.acked.length := by
              have := congrArg List.length (List.takeWhile_append_dropWhile (p := fun y : Int => decide (y < c.peer)) (l := x.acked))
              rw [List.length_append] at this
              simp only [lowI]; omega
            have hdl : (List.drop (lowI c.peer x.acked).length x.acked).length = x.acked.length - (lowI c.peer x.acked).length := List.length_drop
            have htk : List.take x.acked.length (x.acked.map eI) = x.acked.map eI := List.take_of_length_le (by simp)
            generalize hlo : lowI c.peer x.acked = lo at *
            repeat' first | (with_reducible intro h; try simp only [h]) | (with_reducible refine And.intro ?_ ?_) | (change chk _ _ = true; rfl) | simp only [go_sem, seval, Vc_bool, h29, zSt, z3, z6, z7, z11, z12, z13, z14, z15, e3, htk, List.length_map, List.length_drop, List.length_append, Nat.le_refl, Int.toNat_natCast, Int.natCast_nonneg] | refine (GX_split rfl).2 ?_
            all_goals first | exact hB.cl.h | (clear z3 z6 z7 z11 z12 z13 z14 z15; omega) | skip
            have hes : (List.drop 0 (lo.map eI ++ [[.int .i64 c.peer]] ++ List.drop lo.length (x.acked.map eI))).take (lo.length + 1 + (x.acked.length - lo.length)) = (lo ++ [c.peer] ++ List.drop lo.length x.acked).map eI := by
              rw [List.drop_zero, List.take_of_length_le (by simp; omega)]
              simp [eI]
            refine Rt.gs (Gs_freeze 7 (s' := [(6, .ptr 2 0 0 0), (7, .ptr 3 0 0 0), (8, .int .i64 0)]) (H' := [.dead, .dead, .cells 0 14 31 true [Station.encH s 9 s.held.length], .cells 0 14 51 true [Up.zero.enc], .dead, .dead, .dead, .dead, .dead, .cells 1 5 100 false ((s.held.set j { x with acked := lo ++ [c.peer] ++ List.drop lo.length x.acked }).map Held.enc)]) rfl ?_ ?_) ?_
            · simp only [List.forall_mem_cons, List.not_mem_nil, false_implies, implies_true, and_true, go_sem, seval, z6, z7]
              exact ⟨.wk (.refl _), .wk (.refl _), .wk (.refl _)⟩
            · repeat' (first | exact FzL.nil | refine FzL.cons ?_ ?_ | exact Fz.wk (Wk.refl _) | exact Fz.wk (Wk.nil _) | exact Fz.wk (Wk.emp _) | exact Fz.row0 _ _ _ _ | exact FzH.nil _ | exact FzO.refl _ | refine FzO.one ?_ | refine FzH.cons (by decide) ?_ ?_ | refine FzH.this rfl ?_ | exact FzO.dead (by simp) | (simp only [List.forall_mem_cons, List.not_mem_nil, false_implies, implies_true, and_true, go_sem, seval]) | refine And.intro ?_ ?_)
              all_goals first | exact Fz.wk (Wk.refl _) | exact fz_held i1 (Fz.row 0 _ hes (cloE_map fun _ => by rfl))
            · refine Rt.gs (Gs_freeze 9 (s' := [(6, .ptr 2 0 0 0), (7, .ptr 3 0 0 0), (8, .int .i64 0)]) (H' := [.dead, .dead, .cells 0 14 31 true [Station.enc { s with held := s.held.set j { x with acked := lo ++ [c.peer] ++ List.drop lo.length x.acked } }], .cells 0 14 51 true [Up.zero.enc], .dead, .dead, .dead, .dead, .dead, .dead]) rfl ?_ ?_) (Rt_pure (by rfl) (by rfl))
              · repeat' (first | exact FzL.nil | refine FzL.cons ?_ ?_ | exact Fz.wk (Wk.refl _) | exact Fz.wk (Wk.nil _) | exact Fz.wk (Wk.emp _) | exact Fz.row0 _ _ _ _ | exact FzH.nil _ | exact FzO.refl _ | refine FzO.one ?_ | refine FzH.cons (by decide) ?_ ?_ | refine FzH.this rfl ?_ | exact FzO.dead (by simp) | (simp only [List.forall_mem_cons, List.not_mem_nil, false_implies, implies_true, and_true, go_sem, seval]) | refine And.intro ?_ ?_)
              · repeat' (first | exact FzL.nil | refine FzL.cons ?_ ?_ | exact Fz.wk (Wk.refl _) | exact Fz.wk (Wk.nil _) | exact Fz.wk (Wk.emp _) | exact Fz.row0 _ _ _ _ | exact FzH.nil _ | exact FzO.refl _ | refine FzO.one ?_ | refine FzH.cons (by decide) ?_ ?_ | refine FzH.this rfl ?_ | exact FzO.dead (by simp) | (simp only [List.forall_mem_cons, List.not_mem_nil, false_implies, implies_true, and_true, go_sem, seval]) | refine And.intro ?_ ?_)
                all_goals first | exact Fz.wk (Wk.refl _) | exact Fz.row 0 _ (by rw [List.drop_zero]; exact List.take_of_length_le (by simp)) (cloE_map fun _ => by rfl)
    · have k1' : decide (ak = 1) = false := by simpa using k1
      by_cases k2 : ak = 2
      · subst k2
        cases pk with
        | some p =>
          have e2 : doneP s slot r = if r.heard = true then gotFr { s with wait := s.wait - 1 } r.fr else ({ s with wait := s.wait - 1 }, Up.zero) := by simp [doneP, hx]
          have h108 := c108_ok (s := { s with wait := s.wait - 1 }) (f := r.fr) hst.2.2.1 (by show (s.seen.length + 1) * 16 ≤ _; omega)
          rw [e2]
          cases hh : r.heard with
          | false =>
            refine calls_of hmx func29 (by kernel_rfl) (c := f29.body.getD .skip) rfl e29 (rs := [(.cell 6 true 14), (.cell 7 true 14), (.t 8)]) (by kernel_rfl) (by simp [ntmps29]) ?_
            simp only [c29, argS]
            repeat' first | refine CX_pure (h26) rfl rfl rfl rfl ?_ | refine CX_pure (h98) rfl rfl rfl rfl ?_ | refine GX_call (fun _ => (h26)) (by rfl) (by intro h; simp only [h]; rfl) (by rfl) (by rfl) ?_ | refine GX_call (fun _ => (h98)) (by rfl) (by intro h; simp only [h]; rfl) (by rfl) (by rfl) ?_ | (with_reducible intro h; try simp only [h]) | (with_reducible refine And.intro ?_ ?_) | (change chk _ _ = true; rfl) | simp only [go_sem, seval, Vc_bool, hh, w1, Option.getD_some, Option.isSome_some] | refine (GX_split rfl).2 ?_
            exact Rt_pure (by rfl) (by rfl)
          | true =>
            refine calls_of hmx func29 (by kernel_rfl) (c := f29.body.getD .skip) rfl e29 (rs := [(.cell 6 true 14), (.cell 7 true 14), (.t 8)]) (by kernel_rfl) (by simp [ntmps29]) ?_
            simp only [c29, argS]
            repeat' first | refine CX_pure (h26) rfl rfl rfl rfl ?_ | refine CX_pure (h98) rfl rfl rfl rfl ?_ | refine CX_pure (h108) rfl rfl rfl rfl ?_ | refine GX_call (fun _ => (h26)) (by rfl) (by intro h; simp only [h]; rfl) (by rfl) (by rfl) ?_ | refine GX_call (fun _ => (h98)) (by rfl) (by intro h; simp only [h]; rfl) (by rfl) (by rfl) ?_ | refine GX_call (fun _ => (h108)) (by rfl) (by intro h; simp only [h]; rfl) (by rfl) (by rfl) ?_ | (with_reducible intro h; try simp only [h]) | (with_reducible refine And.intro ?_ ?_) | (change chk _ _ = true; rfl) | simp only [go_sem, seval, Vc_bool, hh, w1, Option.getD_some, Option.isSome_some] | refine (GX_split rfl).2 ?_
            exact Rt_pure (by rfl) (by rfl)
        | none =>
          have e2 : doneP s slot r = if r.heard = true then gotFr s r.fr else (s, Up.zero) := by simp [doneP, hx]
          have h108 := c108_ok (s := s) (f := r.fr) hst.2.2.1 (by omega)
          rw [e2]
          cases hh : r.heard with
          | false =>
            refine calls_of hmx func29 (by kernel_rfl) (c := f29.body.getD .skip) rfl e29 (rs := [(.cell 6 true 14), (.cell 7 true 14), (.t 8)]) (by kernel_rfl) (by simp [ntmps29]) ?_
            simp only [c29, argS]
            repeat' first | refine CX_pure (h26) rfl rfl rfl rfl ?_ | refine CX_pure (h98) rfl rfl rfl rfl ?_ | refine GX_call (fun _ => (h26)) (by rfl) (by intro h; simp only [h]; rfl) (by rfl) (by rfl) ?_ | refine GX_call (fun _ => (h98)) (by rfl) (by intro h; simp only [h]; rfl) (by rfl) (by rfl) ?_ | (with_reducible intro h; try simp only [h]) | (with_reducible refine And.intro ?_ ?_) | (change chk _ _ = true; rfl) | simp only [go_sem, seval, Vc_bool, hh, w1, Option.getD_none, Option.isSome_none] | refine (GX_split rfl).2 ?_
            exact Rt_pure (by rfl) (by rfl)
          | true =>
            refine calls_of hmx func29 (by kernel_rfl) (c := f29.body.getD .skip) rfl e29 (rs := [(.cell 6 true 14), (.cell 7 true 14), (.t 8)]) (by kernel_rfl) (by simp [ntmps29]) ?_
            simp only [c29, argS]
            repeat' first | refine CX_pure (h26) rfl rfl rfl rfl ?_ | refine CX_pure (h98) rfl rfl rfl rfl ?_ | refine CX_pure (h108) rfl rfl rfl rfl ?_ | refine GX_call (fun _ => (h26)) (by rfl) (by intro h; simp only [h]; rfl) (by rfl) (by rfl) ?_ | refine GX_call (fun _ => (h98)) (by rfl) (by intro h; simp only [h]; rfl) (by rfl) (by rfl) ?_ | refine GX_call (fun _ => (h108)) (by rfl) (by intro h; simp only [h]; rfl) (by rfl) (by rfl) ?_ | (with_reducible intro h; try simp only [h]) | (with_reducible refine And.intro ?_ ?_) | (change chk _ _ = true; rfl) | simp only [go_sem, seval, Vc_bool, hh, w1, Option.getD_none, Option.isSome_none] | refine (GX_split rfl).2 ?_
            exact Rt_pure (by rfl) (by rfl)
      · have k2' : decide (ak = 2) = false := by simpa using k2
        have e2 : doneP s slot r = (s, Up.zero) := by simp [doneP, hx, k1, k2]
        rw [e2]
        refine calls_of hmx func29 (by kernel_rfl) (c := f29.body.getD .skip) rfl e29 (rs := [(.cell 6 true 14), (.cell 7 true 14), (.t 8)]) (by kernel_rfl) (by simp [ntmps29]) ?_
        simp only [c29, argS]
        repeat' first | refine CX_pure (h26) rfl rfl rfl rfl ?_ | refine CX_pure (h98) rfl rfl rfl rfl ?_ | refine GX_call (fun _ => (h26)) (by rfl) (by intro h; simp only [h]; rfl) (by rfl) (by rfl) ?_ | refine GX_call (fun _ => (h98)) (by rfl) (by intro h; simp only [h]; rfl) (by rfl) (by rfl) ?_ | (with_reducible intro h; try simp only [h]) | (with_reducible refine And.intro ?_ ?_) | (change chk _ _ = true; rfl) | simp only [go_sem, seval, Vc_bool, k1', k2'] | refine (GX_split rfl).2 ?_
        exact Rt_pure (by rfl) (by rfl)
  · have e0 : doneE s slot r = (Station.zero, Up.zero, slotErr s slot) := by simp [doneE, hE]
    have e1 : actSt s slot = (Action.zero, slotErr s slot) := by simp [actSt, hE]
    have e : decide (slotErr s slot = 0) = false := by simpa using hE
    rw [e0]
    rw [e1] at h26
    refine calls_of hmx func29 (by kernel_rfl) (c := f29.body.getD .skip) rfl e29 (rs := [(.cell 6 true 14), (.cell 7 true 14), (.t 8)]) (by kernel_rfl) (by simp [ntmps29]) ?_
    simp only [c29, argS]
    repeat' first | refine CX_pure (h26) rfl rfl rfl rfl ?_ | refine GX_call (fun _ => (h26)) (by rfl) (by intro h; simp only [h]; rfl) (by rfl) (by rfl) ?_ | (with_reducible intro h; try simp only [h]) | (with_reducible refine And.intro ?_ ?_) | (change chk _ _ = true; rfl) | simp only [go_sem, seval, Vc_bool, e] | refine (GX_split rfl).2 ?_
    refine Rt.gs (Gs_tell (s' := [(6, .ptr 2 0 0 0), (7, .ptr 3 0 0 0), (8, .int .i64 (slotErr s slot))]) (H' := [.dead, .dead, .cells 0 14 31 true [Station.zero.enc], .cells 0 14 51 true [Up.zero.enc], .dead]) ?_ ?_) (Rt_pure ?_ rfl)
    · repeat' (first | exact FzL.nil | refine FzL.cons ?_ ?_ | exact Fz.wk (Wk.refl _) | exact Fz.wk (Wk.nil _) | exact Fz.wk (Wk.emp _) | exact Fz.row0 _ _ _ _ | exact FzH.nil _ | exact FzO.refl _ | refine FzO.one ?_ | refine FzH.cons (by decide) ?_ ?_ | refine FzH.this rfl ?_ | exact FzO.dead (by simp) | (simp only [List.forall_mem_cons, List.not_mem_nil, false_implies, implies_true, and_true, go_sem, seval]) | refine And.intro ?_ ?_)
    · repeat' (first | exact FzL.nil | refine FzL.cons ?_ ?_ | exact Fz.wk (Wk.refl _) | exact Fz.wk (Wk.nil _) | exact Fz.wk (Wk.emp _) | exact Fz.row0 _ _ _ _ | exact FzH.nil _ | exact FzO.refl _ | refine FzO.one ?_ | refine FzH.cons (by decide) ?_ ?_ | refine FzH.this rfl ?_ | exact FzO.dead (by simp) | (simp only [List.forall_mem_cons, List.not_mem_nil, false_implies, implies_true, and_true, go_sem, seval]) | refine And.intro ?_ ?_)
    · rfl

end Go.Av.T
set_option maxRecDepth 100000
set_option maxHeartbeats 1000000
set_option linter.unusedSimpArgs false
set_option linter.unusedVariables false
namespace Go.Av.T
open Go Go.Av Go.Av.Sp Go.Proofs.Tryz
def c109L1 : SC := (.seq (.seq (.reg [(.mv 11 (.t 5)), (.mv 12 (.t 0)), (.len 13 false (.t 12)), (.bin 14 .lss (.t 11) (.t 13))]) (.cond (.t 14) .skip (.exit 0))) (.seq (.block 1 (.seq (.regD [(.mv 17 (.t 0)), (.mv 18 (.t 5)), (.ia 19 (.t 17) (.t 18) 6), (.ld 20 (.t 19) true 6), (.mv 21 (.t 1)), (.mv 22 (.t 5)), (.ia 23 (.t 21) (.t 22) 6), (.ld 24 (.t 23) true 6), (.binA 25 true [1, 1, 1, 2, 1, 1] (.t 20) (.t 24))] []) (.cond (.t 25) (.seq (.reg [(.mv 4 (.c (.bool false)))]) .ret) .skip))) (.reg [(.mv 15 (.t 5)), (.bin 16 .add (.t 15) (.c (.int .i64 1))), (.mv 5 (.t 16))])))
def c109 : SC := (.seq (.reg [(.mv 4 (.c (.bool false)))]) (.seq (.seq (.reg [(.mv 6 (.t 0)), (.len 7 false (.t 6)), (.mv 8 (.t 1)), (.len 9 false (.t 8)), (.bin 10 .neq (.t 7) (.t 9))]) (.cond (.t 10) (.seq (.reg [(.mv 4 (.c (.bool false)))]) .ret) .skip)) (.seq (.seq (.reg [(.mv 5 (.c (.int .i64 0)))]) (.block 0 (.loop c109L1))) (.seq (.reg [(.mv 4 (.c (.bool true)))]) .ret))))
theorem e109 : compC prog f109.ntmps (f109.body.getD .skip) = c109 := by kernel_rfl
def c30 : SC := (.seq (.reg [(.box 2 24 (.t 0)), (.box 3 24 (.t 1)), (.mv 4 (.c (.bool false)))]) (.seq (.reg [(.fa 5 (.t 2) 0), (.ld 6 (.t 5) false 1), (.fa 7 (.t 3) 0), (.ld 8 (.t 7) false 1), (.bin 9 .eql (.t 6) (.t 8)), (.mv 10 (.t 9)), (.g 10 true (some 11) (.fa 11 (.t 2) 1)), (.g 10 true (some 12) (.ld 12 (.t 11) false 1)), (.g 10 true (some 13) (.fa 13 (.t 3) 1)), (.g 10 true (some 14) (.ld 14 (.t 13) false 1)), (.g 10 true (some 15) (.bin 15 .eql (.t 12) (.t 14))), (.pick 16 (.t 10) (.t 15) (.c (.bool false))), (.mv 17 (.t 16)), (.g 17 true (some 18) (.fa 18 (.t 2) 2)), (.g 17 true (some 19) (.ld 19 (.t 18) false 1)), (.g 17 true (some 20) (.fa 20 (.t 3) 2)), (.g 17 true (some 21) (.ld 21 (.t 20) false 1)), (.g 17 true (some 22) (.call (some 22) (.c (.func 109 [] [])) [(.t 19), (.t 21)])), (.pick 23 (.t 17) (.t 22) (.c (.bool false))), (.mv 4 (.t 23))]) .ret))
theorem e30 : compC prog f30.ntmps (f30.body.getD .skip) = c30 := by kernel_rfl
def c49L1 : SC := (.seq (.seq (.reg [(.mv 11 (.t 5)), (.mv 12 (.t 0)), (.len 13 false (.t 12)), (.bin 14 .lss (.t 11) (.t 13))]) (.cond (.t 14) .skip (.exit 0))) (.seq (.block 1 (.seq (.regD [(.mv 17 (.t 0)), (.mv 18 (.t 5)), (.ia 19 (.t 17) (.t 18) 6), (.ld 20 (.t 19) true 6), (.mv 21 (.t 1)), (.mv 22 (.t 5)), (.ia 23 (.t 21) (.t 22) 6), (.ld 24 (.t 23) true 6), (.binA 25 true [1, 1, 1, 1, 1, 3] (.t 20) (.t 24))] []) (.cond (.t 25) (.seq (.reg [(.mv 4 (.c (.bool false)))]) .ret) .skip))) (.reg [(.mv 15 (.t 5)), (.bin 16 .add (.t 15) (.c (.int .i64 1))), (.mv 5 (.t 16))])))
def c49 : SC := (.seq (.reg [(.mv 4 (.c (.bool false)))]) (.seq (.seq (.reg [(.mv 6 (.t 0)), (.len 7 false (.t 6)), (.mv 8 (.t 1)), (.len 9 false (.t 8)), (.bin 10 .neq (.t 7) (.t 9))]) (.cond (.t 10) (.seq (.reg [(.mv 4 (.c (.bool false)))]) .ret) .skip)) (.seq (.seq (.reg [(.mv 5 (.c (.int .i64 0)))]) (.block 0 (.loop c49L1))) (.seq (.reg [(.mv 4 (.c (.bool true)))]) .ret))))
theorem e49 : compC prog f49.ntmps (f49.body.getD .skip) = c49 := by kernel_rfl
def c94 : SC := (.seq (.reg [(.box 2 27 (.t 0)), (.box 3 27 (.t 1)), (.mv 4 (.c (.bool false)))]) (.seq (.reg [(.fa 5 (.t 2) 0), (.ld 6 (.t 5) false 1), (.fa 7 (.t 3) 0), (.ld 8 (.t 7) false 1), (.bin 9 .eql (.t 6) (.t 8)), (.mv 10 (.t 9)), (.g 10 true (some 11) (.fa 11 (.t 2) 1)), (.g 10 true (some 12) (.ld 12 (.t 11) false 1)), (.g 10 true (some 13) (.fa 13 (.t 3) 1)), (.g 10 true (some 14) (.ld 14 (.t 13) false 1)), (.g 10 true (some 15) (.call (some 15) (.c (.func 49 [] [])) [(.t 12), (.t 14)])), (.pick 16 (.t 10) (.t 15) (.c (.bool false))), (.mv 4 (.t 16))]) .ret))
theorem e94 : compC prog f94.ntmps (f94.body.getD .skip) = c94 := by kernel_rfl
def c95L1 : SC := (.seq (.seq (.reg [(.mv 41 (.t 5)), (.fa 42 (.t 2) 4), (.ld 43 (.t 42) false 1), (.len 44 false (.t 43)), (.bin 45 .lss (.t 41) (.t 44))]) (.cond (.t 45) .skip (.exit 0))) (.seq (.block 1 (.seq (.regD [(.fa 48 (.t 2) 4), (.ld 49 (.t 48) false 1), (.mv 50 (.t 5)), (.ia 51 (.t 49) (.t 50) 1), (.ld 52 (.t 51) false 1), (.fa 53 (.t 3) 4), (.ld 54 (.t 53) false 1), (.mv 55 (.t 5)), (.ia 56 (.t 54) (.t 55) 1), (.ld 57 (.t 56) false 1), (.bin 58 .neq (.t 52) (.t 57))] []) (.cond (.t 58) (.seq (.reg [(.mv 4 (.c (.bool false)))]) .ret) .skip))) (.reg [(.mv 46 (.t 5)), (.bin 47 .add (.t 46) (.c (.int .i64 1))), (.mv 5 (.t 47))])))
def c95 : SC := (.seq (.reg [(.box 2 100 (.t 0)), (.box 3 100 (.t 1)), (.mv 4 (.c (.bool false)))]) (.seq (.seq (.reg [(.fa 6 (.t 2) 0), (.ld 7 (.t 6) false 1), (.fa 8 (.t 3) 0), (.ld 9 (.t 8) false 1), (.bin 10 .neq (.t 7) (.t 9)), (.mv 11 (.t 10)), (.g 11 false (some 12) (.fa 12 (.t 2) 1)), (.g 11 false (some 13) (.ld 13 (.t 12) false 1)), (.g 11 false (some 14) (.fa 14 (.t 3) 1)), (.g 11 false (some 15) (.ld 15 (.t 14) false 1)), (.g 11 false (some 16) (.bin 16 .neq (.t 13) (.t 15))), (.pick 17 (.t 11) (.c (.bool true)) (.t 16)), (.mv 18 (.t 17)), (.g 18 false (some 19) (.fa 19 (.t 2) 2)), (.g 18 false (some 20) (.ld 20 (.t 19) false 1)), (.g 18 false (some 21) (.fa 21 (.t 3) 2)), (.g 18 false (some 22) (.ld 22 (.t 21) false 1)), (.g 18 false (some 23) (.bin 23 .neq (.t 20) (.t 22))), (.pick 24 (.t 18) (.c (.bool true)) (.t 23)), (.mv 25 (.t 24)), (.g 25 false (some 26) (.fa 26 (.t 2) 3)), (.g 25 false (some 27) (.ld 27 (.t 26) false 1)), (.g 25 false (some 28) (.fa 28 (.t 3) 3)), (.g 25 false (some 29) (.ld 29 (.t 28) false 1)), (.g 25 false (some 30) (.binS 30 .neq (.t 27) (.t 29))), (.pick 31 (.t 25) (.c (.bool true)) (.t 30)), (.mv 32 (.t 31)), (.g 32 false (some 33) (.fa 33 (.t 2) 4)), (.g 32 false (some 34) (.ld 34 (.t 33) false 1)), (.g 32 false (some 35) (.len 35 false (.t 34))), (.g 32 false (some 36) (.fa 36 (.t 3) 4)), (.g 32 false (some 37) (.ld 37 (.t 36) false 1)), (.g 32 false (some 38) (.len 38 false (.t 37))), (.g 32 false (some 39) (.bin 39 .neq (.t 35) (.t 38))), (.pick 40 (.t 32) (.c (.bool true)) (.t 39))]) (.cond (.t 40) (.seq (.reg [(.mv 4 (.c (.bool false)))]) .ret) .skip)) (.seq (.seq (.reg [(.mv 5 (.c (.int .i64 0)))]) (.block 0 (.loop c95L1))) (.seq (.reg [(.mv 4 (.c (.bool true)))]) .ret))))
theorem e95 : compC prog f95.ntmps (f95.body.getD .skip) = c95 := by kernel_rfl
def c24L1 : SC := (.seq (.seq (.reg [(.mv 39 (.t 5)), (.fa 40 (.t 2) 5), (.ld 41 (.t 40) false 1), (.len 42 false (.t 41)), (.bin 43 .lss (.t 39) (.t 42))]) (.cond (.t 43) .skip (.exit 0))) (.seq (.block 1 (.seq (.regD [(.fa 46 (.t 2) 5), (.ld 47 (.t 46) false 1), (.mv 48 (.t 5)), (.ia 49 (.t 47) (.t 48) 5), (.ld 50 (.t 49) true 5), (.fa 51 (.t 3) 5), (.ld 52 (.t 51) false 1), (.mv 53 (.t 5)), (.ia 54 (.t 52) (.t 53) 5), (.ld 55 (.t 54) true 5), (.call (some 56) (.c (.func 95 [] [])) [(.t 50), (.t 55)]), (.not 57 (.t 56))] []) (.cond (.t 57) (.seq (.reg [(.mv 4 (.c (.bool false)))]) .ret) .skip))) (.reg [(.mv 44 (.t 5)), (.bin 45 .add (.t 44) (.c (.int .i64 1))), (.mv 5 (.t 45))])))
def c24L2 : SC := (.seq (.seq (.reg [(.mv 58 (.t 6)), (.fa 59 (.t 2) 6), (.ld 60 (.t 59) false 1), (.len 61 false (.t 60)), (.bin 62 .lss (.t 58) (.t 61))]) (.cond (.t 62) .skip (.exit 2))) (.seq (.block 3 (.seq (.regD [(.fa 65 (.t 2) 6), (.ld 66 (.t 65) false 1), (.mv 67 (.t 6)), (.ia 68 (.t 66) (.t 67) 2), (.ld 69 (.t 68) true 2), (.fa 70 (.t 3) 6), (.ld 71 (.t 70) false 1), (.mv 72 (.t 6)), (.ia 73 (.t 71) (.t 72) 2), (.ld 74 (.t 73) true 2), (.binA 75 true [1, 1] (.t 69) (.t 74))] []) (.cond (.t 75) (.seq (.reg [(.mv 4 (.c (.bool false)))]) .ret) .skip))) (.reg [(.mv 63 (.t 6)), (.bin 64 .add (.t 63) (.c (.int .i64 1))), (.mv 6 (.t 64))])))
def c24 : SC := (.seq (.reg [(.box 2 31 (.t 0)), (.box 3 31 (.t 1)), (.mv 4 (.c (.bool false)))]) (.seq (.seq (.reg [(.fa 7 (.t 2) 0), (.ld 8 (.t 7) true 3), (.fa 9 (.t 3) 0), (.ld 10 (.t 9) true 3), (.call (some 11) (.c (.func 30 [] [])) [(.t 8), (.t 10)]), (.not 12 (.t 11)), (.mv 13 (.t 12)), (.g 13 false (some 14) (.fa 14 (.t 2) 3)), (.g 13 false (some 15) (.ld 15 (.t 14) true 2)), (.g 13 false (some 16) (.fa 16 (.t 3) 3)), (.g 13 false (some 17) (.ld 17 (.t 16) true 2)), (.g 13 false (some 18) (.call (some 18) (.c (.func 94 [] [])) [(.t 15), (.t 17)])), (.g 13 false (some 19) (.not 19 (.t 18))), (.pick 20 (.t 13) (.c (.bool true)) (.t 19)), (.mv 21 (.t 20)), (.g 21 false (some 22) (.fa 22 (.t 2) 5)), (.g 21 false (some 23) (.ld 23 (.t 22) false 1)), (.g 21 false (some 24) (.len 24 false (.t 23))), (.g 21 false (some 25) (.fa 25 (.t 3) 5)), (.g 21 false (some 26) (.ld 26 (.t 25) false 1)), (.g 21 false (some 27) (.len 27 false (.t 26))), (.g 21 false (some 28) (.bin 28 .neq (.t 24) (.t 27))), (.pick 29 (.t 21) (.c (.bool true)) (.t 28)), (.mv 30 (.t 29)), (.g 30 false (some 31) (.fa 31 (.t 2) 6)), (.g 30 false (some 32) (.ld 32 (.t 31) false 1)), (.g 30 false (some 33) (.len 33 false (.t 32))), (.g 30 false (some 34) (.fa 34 (.t 3) 6)), (.g 30 false (some 35) (.ld 35 (.t 34) false 1)), (.g 30 false (some 36) (.len 36 false (.t 35))), (.g 30 false (some 37) (.bin 37 .neq (.t 33) (.t 36))), (.pick 38 (.t 30) (.c (.bool true)) (.t 37))]) (.cond (.t 38) (.seq (.reg [(.mv 4 (.c (.bool false)))]) .ret) .skip)) (.seq (.seq (.reg [(.mv 5 (.c (.int .i64 0)))]) (.block 0 (.loop c24L1))) (.seq (.seq (.reg [(.mv 6 (.c (.int .i64 0)))]) (.block 2 (.loop c24L2))) (.seq (.reg [(.fa 76 (.t 2) 7), (.ld 77 (.t 76) false 1), (.fa 78 (.t 3) 7), (.ld 79 (.t 78) false 1), (.bin 80 .eql (.t 77) (.t 79)), (.mv 81 (.t 80)), (.g 81 true (some 82) (.fa 82 (.t 2) 8)), (.g 81 true (some 83) (.ld 83 (.t 82) false 1)), (.g 81 true (some 84) (.fa 84 (.t 3) 8)), (.g 81 true (some 85) (.ld 85 (.t 84) false 1)), (.g 81 true (some 86) (.bin 86 .eql (.t 83) (.t 85))), (.pick 87 (.t 81) (.t 86) (.c (.bool false))), (.mv 88 (.t 87)), (.g 88 true (some 89) (.fa 89 (.t 2) 9)), (.g 88 true (some 90) (.ld 90 (.t 89) false 1)), (.g 88 true (some 91) (.fa 91 (.t 3) 9)), (.g 88 true (some 92) (.ld 92 (.t 91) false 1)), (.g 88 true (some 93) (.bin 93 .eql (.t 90) (.t 92))), (.pick 94 (.t 88) (.t 93) (.c (.bool false))), (.mv 95 (.t 94)), (.g 95 true (some 96) (.fa 96 (.t 2) 10)), (.g 95 true (some 97) (.ld 97 (.t 96) false 1)), (.g 95 true (some 98) (.fa 98 (.t 3) 10)), (.g 95 true (some 99) (.ld 99 (.t 98) false 1)), (.g 95 true (some 100) (.bin 100 .eql (.t 97) (.t 99))), (.pick 101 (.t 95) (.t 100) (.c (.bool false))), (.mv 102 (.t 101)), (.g 102 true (some 103) (.fa 103 (.t 2) 11)), (.g 102 true (some 104) (.ld 104 (.t 103) false 1)), (.g 102 true (some 105) (.fa 105 (.t 3) 11)), (.g 102 true (some 106) (.ld 106 (.t 105) false 1)), (.g 102 true (some 107) (.bin 107 .eql (.t 104) (.t 106))), (.pick 108 (.t 102) (.t 107) (.c (.bool false))), (.mv 109 (.t 108)), (.g 109 true (some 110) (.fa 110 (.t 2) 12)), (.g 109 true (some 111) (.ld 111 (.t 110) false 1)), (.g 109 true (some 112) (.fa 112 (.t 3) 12)), (.g 109 true (some 113) (.ld 113 (.t 112) false 1)), (.g 109 true (some 114) (.bin 114 .eql (.t 111) (.t 113))), (.pick 115 (.t 109) (.t 114) (.c (.bool false))), (.mv 116 (.t 115)), (.g 116 true (some 117) (.fa 117 (.t 2) 13)), (.g 116 true (some 118) (.ld 118 (.t 117) false 1)), (.g 116 true (some 119) (.fa 119 (.t 3) 13)), (.g 116 true (some 120) (.ld 120 (.t 119) false 1)), (.g 116 true (some 121) (.bin 121 .eql (.t 118) (.t 120))), (.pick 122 (.t 116) (.t 121) (.c (.bool false))), (.mv 4 (.t 122))]) .ret)))))
theorem e24 : compC prog f24.ntmps (f24.body.getD .skip) = c24 := by kernel_rfl
theorem bytes_refl (s : ByteArray) : decide (s = s) = true := by simp
theorem int_refl (n : Int) : decide (n = n) = true := by simp
theorem bool_refl (b : Bool) : (b == b) = true := by simp
theorem l109 (l : List TCell) (hL : (l).length < 2 ^ 62) (k' : List It) (hk : ∀ zs, V prog f109.ntmps 0 (Ret [(.t 4)] 0 (.bool true) []) k' zs []) : ∀ (rest done : List TCell), l = done ++ rest →
    Lp prog f109.ntmps 0 (Ret [(.t 4)] 0 (.bool true) []) c109L1 (.blk 0 :: k') [(0, .sl 6 (l.map TCell.enc)), (1, .sl 6 (l.map TCell.enc)), (5, .int .i64 done.length)] [] := by
  intro rest
  induction rest with
  | nil =>
    intro done hd
    refine Lp.of_eq hmx c109L1.eq_1 ?_
    have h1 := rg_end hd
    simp only [go_sem, seval, h1, List.length_map]
    exact hk _
  | cons c rest ih =>
    intro done hd
    refine Lp.of_eq hmx c109L1.eq_1 ?_
    obtain ⟨h1, h2, h3, h4⟩ := rg_hd TCell.enc hd hL
    have ih' := ih _ h4
    rcases List.eq_nil_or_concat done with h0 | ⟨ds, p, h0⟩
    · obtain ⟨p1, hp⟩ := rg_first' h0
      repeat' first | (refine Lp.bkE0 ih' (by rfl) ?_) | (refine Rt_pure ?_ rfl; simp only [retO, retO1, retOs, S, get_cons, Nat.reduceEqDiff, reduceIte, obj, getO_cons_zero, getO_cons_succ, List.getElem?_cons_zero, List.getElem?_cons_succ, List.drop_zero, List.drop_succ_cons, loadFrom_cell, loadFrom_agg, List.length_cons, List.length_nil, Nat.reduceAdd, Nat.reduceLeDiff, List.take_succ_cons, List.take_zero, List.take_nil]) | (with_reducible intro h; try simp only [h]) | (with_reducible refine And.intro ?_ ?_) | (change chk _ _ = true; rfl) | simp only [go_sem, seval, Vc_bool, h1, h2, h3, Int.toNat_natCast, Int.natCast_nonneg, List.length_map, int_refl, bool_refl, p1] | refine (GX_split rfl).2 ?_
      all_goals (clear hk ih ih' h1 h2 h3 h4 hd hL)
      all_goals clear p1 h0
      all_goals rfl
    · rw [List.concat_eq_append] at h0
      obtain ⟨p1, p2, p3, hp⟩ := rg_prev' TCell.enc hd h0 hL
      repeat' first | (refine Lp.bkE0 ih' (by rfl) ?_) | (refine Rt_pure ?_ rfl; simp only [retO, retO1, retOs, S, get_cons, Nat.reduceEqDiff, reduceIte, obj, getO_cons_zero, getO_cons_succ, List.getElem?_cons_zero, List.getElem?_cons_succ, List.drop_zero, List.drop_succ_cons, loadFrom_cell, loadFrom_agg, List.length_cons, List.length_nil, Nat.reduceAdd, Nat.reduceLeDiff, List.take_succ_cons, List.take_zero, List.take_nil]) | (with_reducible intro h; try simp only [h]) | (with_reducible refine And.intro ?_ ?_) | (change chk _ _ = true; rfl) | simp only [go_sem, seval, Vc_bool, h1, h2, h3, Int.toNat_natCast, Int.natCast_nonneg, List.length_map, int_refl, bool_refl, p1, p2, p3] | refine (GX_split rfl).2 ?_
      all_goals (clear hk ih ih' h1 h2 h3 h4 hd hL)
      all_goals clear p1 p2 p3 h0
      all_goals rfl

theorem c109_ok {l : List TCell} (hL : l.length < 2 ^ 62) : ACalls prog 109 [.sl 6 (l.map TCell.enc), .sl 6 (l.map TCell.enc)] [] (.bool true) [] := by
  refine calls_of hmx func109 (by kernel_rfl) (c := f109.body.getD .skip) rfl e109 (rs := [(.t 4)]) (by kernel_rfl) (by simp [ntmps109]) ?_
  simp only [c109, argS]
  simp only [go_sem, seval, int_refl]
  refine Lp.bkE0 (l109 l hL _ (fun s => ?_) l [] rfl) (by rfl) rfl
  simp only [go_sem, seval]
  (refine Rt_pure ?_ rfl; simp only [retO, retO1, retOs, S, get_cons, Nat.reduceEqDiff, reduceIte, obj, getO_cons_zero, getO_cons_succ, List.getElem?_cons_zero, List.getElem?_cons_succ, List.drop_zero, List.drop_succ_cons, loadFrom_cell, loadFrom_agg, List.length_cons, List.length_nil, Nat.reduceAdd, Nat.reduceLeDiff, List.take_succ_cons, List.take_zero, List.take_nil])
theorem c30_ok {t : Table} (hL : t.cells.length < 2 ^ 62) : ACalls prog 30 [.agg t.enc, .agg t.enc] [] (.bool true) [] := by
  refine calls_of hmx func30 (by kernel_rfl) (c := f30.body.getD .skip) rfl e30 (rs := [(.t 4)]) (by kernel_rfl) (by simp [ntmps30]) ?_
  simp only [c30, argS]
  simp only [go_sem, seval, int_refl]
  refine CX_pure (c109_ok hL) rfl rfl rfl rfl ?_
  simp only [go_sem, seval]
  (refine Rt_pure ?_ rfl; simp only [retO, retO1, retOs, S, get_cons, Nat.reduceEqDiff, reduceIte, obj, getO_cons_zero, getO_cons_succ, List.getElem?_cons_zero, List.getElem?_cons_succ, List.drop_zero, List.drop_succ_cons, loadFrom_cell, loadFrom_agg, List.length_cons, List.length_nil, Nat.reduceAdd, Nat.reduceLeDiff, List.take_succ_cons, List.take_zero, List.take_nil])
theorem l49 (l : List Packet) (hL : (l).length < 2 ^ 62) (k' : List It) (hk : ∀ zs, V prog f49.ntmps 0 (Ret [(.t 4)] 0 (.bool true) []) k' zs []) : ∀ (rest done : List Packet), l = done ++ rest →
    Lp prog f49.ntmps 0 (Ret [(.t 4)] 0 (.bool true) []) c49L1 (.blk 0 :: k') [(0, .sl 6 (l.map Packet.enc)), (1, .sl 6 (l.map Packet.enc)), (5, .int .i64 done.length)] [] := by
  intro rest
  induction rest with
  | nil =>
    intro done hd
    refine Lp.of_eq hmx c49L1.eq_1 ?_
    have h1 := rg_end hd
    simp only [go_sem, seval, h1, List.length_map]
    exact hk _
  | cons c rest ih =>
    intro done hd
    refine Lp.of_eq hmx c49L1.eq_1 ?_
    obtain ⟨h1, h2, h3, h4⟩ := rg_hd Packet.enc hd hL
    have ih' := ih _ h4
    rcases List.eq_nil_or_concat done with h0 | ⟨ds, p, h0⟩
    · obtain ⟨p1, hp⟩ := rg_first' h0
      repeat' first | (refine Lp.bkE0 ih' (by rfl) ?_) | (refine Rt_pure ?_ rfl; simp only [retO, retO1, retOs, S, get_cons, Nat.reduceEqDiff, reduceIte, obj, getO_cons_zero, getO_cons_succ, List.getElem?_cons_zero, List.getElem?_cons_succ, List.drop_zero, List.drop_succ_cons, loadFrom_cell, loadFrom_agg, List.length_cons, List.length_nil, Nat.reduceAdd, Nat.reduceLeDiff, List.take_succ_cons, List.take_zero, List.take_nil]) | (with_reducible intro h; try simp only [h]) | (with_reducible refine And.intro ?_ ?_) | (change chk _ _ = true; rfl) | simp only [go_sem, seval, Vc_bool, h1, h2, h3, Int.toNat_natCast, Int.natCast_nonneg, List.length_map, int_refl, bool_refl, bytes_refl, p1] | refine (GX_split rfl).2 ?_
      all_goals (clear hk ih ih' h1 h2 h3 h4 hd hL)
      all_goals clear p1 h0
      all_goals rfl
    · rw [List.concat_eq_append] at h0
      obtain ⟨p1, p2, p3, hp⟩ := rg_prev' Packet.enc hd h0 hL
      repeat' first | (refine Lp.bkE0 ih' (by rfl) ?_) | (refine Rt_pure ?_ rfl; simp only [retO, retO1, retOs, S, get_cons, Nat.reduceEqDiff, reduceIte, obj, getO_cons_zero, getO_cons_succ, List.getElem?_cons_zero, List.getElem?_cons_succ, List.drop_zero, List.drop_succ_cons, loadFrom_cell, loadFrom_agg, List.length_cons, List.length_nil, Nat.reduceAdd, Nat.reduceLeDiff, List.take_succ_cons, List.take_zero, List.take_nil]) | (with_reducible intro h; try simp only [h]) | (with_reducible refine And.intro ?_ ?_) | (change chk _ _ = true; rfl) | simp only [go_sem, seval, Vc_bool, h1, h2, h3, Int.toNat_natCast, Int.natCast_nonneg, List.length_map, int_refl, bool_refl, bytes_refl, p1, p2, p3] | refine (GX_split rfl).2 ?_
      all_goals (clear hk ih ih' h1 h2 h3 h4 hd hL)
      all_goals clear p1 p2 p3 h0
      all_goals rfl

theorem c49_ok {l : List Packet} (hL : l.length < 2 ^ 62) : ACalls prog 49 [.sl 6 (l.map Packet.enc), .sl 6 (l.map Packet.enc)] [] (.bool true) [] := by
  refine calls_of hmx func49 (by kernel_rfl) (c := f49.body.getD .skip) rfl e49 (rs := [(.t 4)]) (by kernel_rfl) (by simp [ntmps49]) ?_
  simp only [c49, argS]
  simp only [go_sem, seval, int_refl]
  refine Lp.bkE0 (l49 l hL _ (fun s => ?_) l [] rfl) (by rfl) rfl
  simp only [go_sem, seval]
  (refine Rt_pure ?_ rfl; simp only [retO, retO1, retOs, S, get_cons, Nat.reduceEqDiff, reduceIte, obj, getO_cons_zero, getO_cons_succ, List.getElem?_cons_zero, List.getElem?_cons_succ, List.drop_zero, List.drop_succ_cons, loadFrom_cell, loadFrom_agg, List.length_cons, List.length_nil, Nat.reduceAdd, Nat.reduceLeDiff, List.take_succ_cons, List.take_zero, List.take_nil])
theorem c94_ok {q : Queue} (hL : q.pk.length < 2 ^ 62) : ACalls prog 94 [.agg q.enc, .agg q.enc] [] (.bool true) [] := by
  refine calls_of hmx func94 (by kernel_rfl) (c := f94.body.getD .skip) rfl e94 (rs := [(.t 4)]) (by kernel_rfl) (by simp [ntmps94]) ?_
  simp only [c94, argS]
  simp only [go_sem, seval, int_refl]
  refine CX_pure (c49_ok hL) rfl rfl rfl rfl ?_
  simp only [go_sem, seval]
  (refine Rt_pure ?_ rfl; simp only [retO, retO1, retOs, S, get_cons, Nat.reduceEqDiff, reduceIte, obj, getO_cons_zero, getO_cons_succ, List.getElem?_cons_zero, List.getElem?_cons_succ, List.drop_zero, List.drop_succ_cons, loadFrom_cell, loadFrom_agg, List.length_cons, List.length_nil, Nat.reduceAdd, Nat.reduceLeDiff, List.take_succ_cons, List.take_zero, List.take_nil])
theorem l95 (h : Held) (hL : (h.acked).length < 2 ^ 62) (k' : List It) (hk : ∀ zs, V prog f95.ntmps 0 (Ret [(.t 4)] 0 (.bool true) []) k' zs [.cells 0 5 100 true [h.enc], .cells 0 5 100 true [h.enc]]) : ∀ (rest done : List Int), h.acked = done ++ rest →
    Lp prog f95.ntmps 0 (Ret [(.t 4)] 0 (.bool true) []) c95L1 (.blk 0 :: k') [(2, .ptr 0 0 0 0), (3, .ptr 1 0 0 0), (5, .int .i64 done.length)] [.cells 0 5 100 true [h.enc], .cells 0 5 100 true [h.enc]] := by
  intro rest
  induction rest with
  | nil =>
    intro done hd
    refine Lp.of_eq hmx c95L1.eq_1 ?_
    have h1 := rg_end hd
    simp only [go_sem, seval, h1, List.length_map]
    exact hk _
  | cons c rest ih =>
    intro done hd
    refine Lp.of_eq hmx c95L1.eq_1 ?_
    obtain ⟨h1, h2, h3, h4⟩ := rg_hd eI hd hL
    have ih' := ih _ h4
    rcases List.eq_nil_or_concat done with h0 | ⟨ds, p, h0⟩
    · obtain ⟨p1, hp⟩ := rg_first' h0
      repeat' first | (refine Lp.bkE0 ih' (by rfl) ?_) | (refine Rt_pure ?_ rfl; simp only [retO, retO1, retOs, S, get_cons, Nat.reduceEqDiff, reduceIte, obj, getO_cons_zero, getO_cons_succ, List.getElem?_cons_zero, List.getElem?_cons_succ, List.drop_zero, List.drop_succ_cons, loadFrom_cell, loadFrom_agg, List.length_cons, List.length_nil, Nat.reduceAdd, Nat.reduceLeDiff, List.take_succ_cons, List.take_zero, List.take_nil]) | (with_reducible intro h; try simp only [h]) | (with_reducible refine And.intro ?_ ?_) | (change chk _ _ = true; rfl) | simp only [go_sem, seval, Vc_bool, h1, h2, h3, Int.toNat_natCast, Int.natCast_nonneg, List.length_map, int_refl, bool_refl, bytes_refl, p1] | refine (GX_split rfl).2 ?_
      all_goals (clear hk ih ih' h1 h2 h3 h4 hd hL)
      all_goals clear p1 h0
      all_goals rfl
    · rw [List.concat_eq_append] at h0
      obtain ⟨p1, p2, p3, hp⟩ := rg_prev' eI hd h0 hL
      repeat' first | (refine Lp.bkE0 ih' (by rfl) ?_) | (refine Rt_pure ?_ rfl; simp only [retO, retO1, retOs, S, get_cons, Nat.reduceEqDiff, reduceIte, obj, getO_cons_zero, getO_cons_succ, List.getElem?_cons_zero, List.getElem?_cons_succ, List.drop_zero, List.drop_succ_cons, loadFrom_cell, loadFrom_agg, List.length_cons, List.length_nil, Nat.reduceAdd, Nat.reduceLeDiff, List.take_succ_cons, List.take_zero, List.take_nil]) | (with_reducible intro h; try simp only [h]) | (with_reducible refine And.intro ?_ ?_) | (change chk _ _ = true; rfl) | simp only [go_sem, seval, Vc_bool, h1, h2, h3, Int.toNat_natCast, Int.natCast_nonneg, List.length_map, int_refl, bool_refl, bytes_refl, p1, p2, p3] | refine (GX_split rfl).2 ?_
      all_goals (clear hk ih ih' h1 h2 h3 h4 hd hL)
      all_goals clear p1 p2 p3 h0
      all_goals rfl

theorem c95_ok {h : Held} (hL : h.acked.length < 2 ^ 62) : ACalls prog 95 [.agg h.enc, .agg h.enc] [] (.bool true) [] := by
  refine calls_of hmx func95 (by kernel_rfl) (c := f95.body.getD .skip) rfl e95 (rs := [(.t 4)]) (by kernel_rfl) (by simp [ntmps95]) ?_
  simp only [c95, argS]
  simp only [go_sem, seval, int_refl, bytes_refl, List.length_map]
  refine Lp.bkE0 (l95 h hL _ (fun s => ?_) h.acked [] rfl) (by rfl) rfl
  simp only [go_sem, seval]
  (refine Rt_pure ?_ rfl; simp only [retO, retO1, retOs, S, get_cons, Nat.reduceEqDiff, reduceIte, obj, getO_cons_zero, getO_cons_succ, List.getElem?_cons_zero, List.getElem?_cons_succ, List.drop_zero, List.drop_succ_cons, loadFrom_cell, loadFrom_agg, List.length_cons, List.length_nil, Nat.reduceAdd, Nat.reduceLeDiff, List.take_succ_cons, List.take_zero, List.take_nil])
theorem l24a (s : Station) (hA : ∀ x ∈ s.held, x.acked.length < 2 ^ 62) (hL : (s.held).length < 2 ^ 62) (k' : List It) (hk : ∀ zs, get zs 2 = .ptr 0 0 0 0 → get zs 3 = .ptr 1 0 0 0 → V prog f24.ntmps 0 (Ret [(.t 4)] 0 (.bool true) []) k' zs [.cells 0 14 31 true [s.enc], .cells 0 14 31 true [s.enc]]) : ∀ (rest done : List Held), s.held = done ++ rest →
    Lp prog f24.ntmps 0 (Ret [(.t 4)] 0 (.bool true) []) c24L1 (.blk 0 :: k') [(2, .ptr 0 0 0 0), (3, .ptr 1 0 0 0), (5, .int .i64 done.length)] [.cells 0 14 31 true [s.enc], .cells 0 14 31 true [s.enc]] := by
  intro rest
  induction rest with
  | nil =>
    intro done hd
    refine Lp.of_eq hmx c24L1.eq_1 ?_
    have h1 := rg_end hd
    simp only [go_sem, seval, h1, List.length_map]
    exact hk _ (by rfl) (by rfl)
  | cons c rest ih =>
    intro done hd
    refine Lp.of_eq hmx c24L1.eq_1 ?_
    obtain ⟨h1, h2, h3, h4⟩ := rg_hd Held.enc hd hL
    have ih' := ih _ h4
    have hAc := hA c (by rw [hd]; simp)
    rcases List.eq_nil_or_concat done with h0 | ⟨ds, p, h0⟩
    · obtain ⟨p1, hp⟩ := rg_first' h0
      repeat' first | (refine Lp.bkE0 ih' (by rfl) ?_) | (refine Rt_pure ?_ rfl; simp only [retO, retO1, retOs, S, get_cons, Nat.reduceEqDiff, reduceIte, obj, getO_cons_zero, getO_cons_succ, List.getElem?_cons_zero, List.getElem?_cons_succ, List.drop_zero, List.drop_succ_cons, loadFrom_cell, loadFrom_agg, List.length_cons, List.length_nil, Nat.reduceAdd, Nat.reduceLeDiff, List.take_succ_cons, List.take_zero, List.take_nil]) | refine CX_pure (c95_ok hAc) rfl rfl rfl rfl ?_ | refine GX_call (fun _ => (c95_ok hAc)) (by rfl) (by intro h; simp only [h]; rfl) (by rfl) (by rfl) ?_ | (with_reducible intro h; try simp only [h]) | (with_reducible refine And.intro ?_ ?_) | (change chk _ _ = true; rfl) | simp only [go_sem, seval, Vc_bool, h1, h2, h3, Int.toNat_natCast, Int.natCast_nonneg, List.length_map, p1] | refine (GX_split rfl).2 ?_
      all_goals (clear hk ih ih' h1 h2 h3 h4 hd hL hA hAc)
      all_goals clear p1 h0
      all_goals rfl
    · rw [List.concat_eq_append] at h0
      obtain ⟨p1, p2, p3, hp⟩ := rg_prev' Held.enc hd h0 hL
      repeat' first | (refine Lp.bkE0 ih' (by rfl) ?_) | (refine Rt_pure ?_ rfl; simp only [retO, retO1, retOs, S, get_cons, Nat.reduceEqDiff, reduceIte, obj, getO_cons_zero, getO_cons_succ, List.getElem?_cons_zero, List.getElem?_cons_succ, List.drop_zero, List.drop_succ_cons, loadFrom_cell, loadFrom_agg, List.length_cons, List.length_nil, Nat.reduceAdd, Nat.reduceLeDiff, List.take_succ_cons, List.take_zero, List.take_nil]) | refine CX_pure (c95_ok hAc) rfl rfl rfl rfl ?_ | refine GX_call (fun _ => (c95_ok hAc)) (by rfl) (by intro h; simp only [h]; rfl) (by rfl) (by rfl) ?_ | (with_reducible intro h; try simp only [h]) | (with_reducible refine And.intro ?_ ?_) | (change chk _ _ = true; rfl) | simp only [go_sem, seval, Vc_bool, h1, h2, h3, Int.toNat_natCast, Int.natCast_nonneg, List.length_map, p1, p2, p3] | refine (GX_split rfl).2 ?_
      all_goals (clear hk ih ih' h1 h2 h3 h4 hd hL hA hAc)
      all_goals clear p1 p2 p3 h0
      all_goals rfl

theorem l24b (s : Station) (hL : (s.seen).length < 2 ^ 62) (k' : List It) (hk : ∀ zs, get zs 2 = .ptr 0 0 0 0 → get zs 3 = .ptr 1 0 0 0 → V prog f24.ntmps 0 (Ret [(.t 4)] 0 (.bool true) []) k' zs [.cells 0 14 31 true [s.enc], .cells 0 14 31 true [s.enc]]) : ∀ (rest done : List Seen), s.seen = done ++ rest →
    Lp prog f24.ntmps 0 (Ret [(.t 4)] 0 (.bool true) []) c24L2 (.blk 2 :: k') [(2, .ptr 0 0 0 0), (3, .ptr 1 0 0 0), (6, .int .i64 done.length)] [.cells 0 14 31 true [s.enc], .cells 0 14 31 true [s.enc]] := by
  intro rest
  induction rest with
  | nil =>
    intro done hd
    refine Lp.of_eq hmx c24L2.eq_1 ?_
    have h1 := rg_end hd
    simp only [go_sem, seval, h1, List.length_map]
    exact hk _ (by rfl) (by rfl)
  | cons c rest ih =>
    intro done hd
    refine Lp.of_eq hmx c24L2.eq_1 ?_
    obtain ⟨h1, h2, h3, h4⟩ := rg_hd Seen.enc hd hL
    have ih' := ih _ h4
    rcases List.eq_nil_or_concat done with h0 | ⟨ds, p, h0⟩
    · obtain ⟨p1, hp⟩ := rg_first' h0
      repeat' first | (refine Lp.bkE0 ih' (by rfl) ?_) | (refine Rt_pure ?_ rfl; simp only [retO, retO1, retOs, S, get_cons, Nat.reduceEqDiff, reduceIte, obj, getO_cons_zero, getO_cons_succ, List.getElem?_cons_zero, List.getElem?_cons_succ, List.drop_zero, List.drop_succ_cons, loadFrom_cell, loadFrom_agg, List.length_cons, List.length_nil, Nat.reduceAdd, Nat.reduceLeDiff, List.take_succ_cons, List.take_zero, List.take_nil]) | (with_reducible intro h; try simp only [h]) | (with_reducible refine And.intro ?_ ?_) | (change chk _ _ = true; rfl) | simp only [go_sem, seval, Vc_bool, h1, h2, h3, Int.toNat_natCast, Int.natCast_nonneg, List.length_map, int_refl, p1] | refine (GX_split rfl).2 ?_
      all_goals (clear hk ih ih' h1 h2 h3 h4 hd hL)
      all_goals clear p1 h0
      all_goals rfl
    · rw [List.concat_eq_append] at h0
      obtain ⟨p1, p2, p3, hp⟩ := rg_prev' Seen.enc hd h0 hL
      repeat' first | (refine Lp.bkE0 ih' (by rfl) ?_) | (refine Rt_pure ?_ rfl; simp only [retO, retO1, retOs, S, get_cons, Nat.reduceEqDiff, reduceIte, obj, getO_cons_zero, getO_cons_succ, List.getElem?_cons_zero, List.getElem?_cons_succ, List.drop_zero, List.drop_succ_cons, loadFrom_cell, loadFrom_agg, List.length_cons, List.length_nil, Nat.reduceAdd, Nat.reduceLeDiff, List.take_succ_cons, List.take_zero, List.take_nil]) | (with_reducible intro h; try simp only [h]) | (with_reducible refine And.intro ?_ ?_) | (change chk _ _ = true; rfl) | simp only [go_sem, seval, Vc_bool, h1, h2, h3, Int.toNat_natCast, Int.natCast_nonneg, List.length_map, int_refl, p1, p2, p3] | refine (GX_split rfl).2 ?_
      all_goals (clear hk ih ih' h1 h2 h3 h4 hd hL)
      all_goals clear p1 p2 p3 h0
      all_goals rfl

theorem c24_ok {s : Station} (hB : StBd s) : ACalls prog 24 [.agg s.enc, .agg s.enc] [] (.bool true) [] := by
  obtain ⟨hB1, hB2, hB3, hB4, hB5⟩ := hB
  refine calls_of hmx func24 (by kernel_rfl) (c := f24.body.getD .skip) rfl e24 (rs := [(.t 4)]) (by kernel_rfl) (by simp [ntmps24]) ?_
  simp only [c24, argS]
  simp only [go_sem, seval]
  refine CX_pure (c30_ok (t := s.tab) hB1) rfl rfl rfl rfl ?_
  simp only [go_sem, seval]
  refine CX_pure (c94_ok (q := s.q) hB2) rfl rfl rfl rfl ?_
  simp only [go_sem, seval, int_refl, List.length_map]
  refine Lp.bkE0 (l24a s hB4 hB3 _ (fun s' h1 h2 => ?_) s.held [] rfl) (by rfl) rfl
  simp only [go_sem, seval]
  refine Lp.gs (Gs_slots (s' := [(2, .ptr 0 0 0 0), (3, .ptr 1 0 0 0), (6, .int .i64 0)]) ?_) (l24b s hB5 _ (fun s'' h3 h4 => ?_) s.seen [] rfl)
  · simp only [List.forall_mem_cons, go_sem, seval, h1, h2]
    exact ⟨.refl _, .refl _, .refl _, by simp⟩
  · simp only [go_sem, seval, h3, h4, int_refl]
    (refine Rt_pure ?_ rfl; simp only [retO, retO1, retOs, S, get_cons, Nat.reduceEqDiff, reduceIte, obj, getO_cons_zero, getO_cons_succ, List.getElem?_cons_zero, List.getElem?_cons_succ, List.drop_zero, List.drop_succ_cons, loadFrom_cell, loadFrom_agg, List.length_cons, List.length_nil, Nat.reduceAdd, Nat.reduceLeDiff, List.take_succ_cons, List.take_zero, List.take_nil])

end Go.Av.T
