/- The seat: part Ch2. -/
import Derived.Test.YtmhchaedhmnofaaGreatCh1
import Derived.Lib.AppendZeros
import Derived.MapKept
/- The abstract machine, part 9: append, and its kin. -/
set_option linter.unusedVariables false
set_option linter.unusedSimpArgs false
namespace Go.Av

/-- Elements as cells. -/
def Told (w : World) (G : Gh) (h : Nat → AObj) (k : Nat) (es : List (List AVal)) (us : List Value) : Prop :=
  ∀ (i : Nat) e (j : Nat) c u, es[i]? = some e → e[j]? = some c → us[i * k + j]? = some u → VR w G h c u

section
variable {w : World} {G : Gh} {h : Nat → AObj} {k : Nat}

theorem Told.append {E ys : List (List AVal)} {olds us : List Value} (hE : ∀ e ∈ E, e.length = k) (hys : ∀ e ∈ ys, e.length = k) (hl : olds.length = E.length * k) (a : Told w G h k E olds) (b : Told w G h k ys us) :
    Told w G h k (E ++ ys) (olds ++ us) := by
  intro i e j c u he hc hu
  have hjk : j < k := by
    have h5 := (List.getElem?_eq_some_iff.1 hc).1
    have h6 : e.length = k := by
      rcases List.mem_append.1 (List.mem_of_getElem? he) with h | h
      · exact hE e h
      · exact hys e h
    omega
  by_cases hi : i < E.length
  · rw [List.getElem?_append_left hi] at he
    have : (i + 1) * k ≤ E.length * k := Nat.mul_le_mul_right _ hi
    rw [Nat.add_mul] at this
    rw [List.getElem?_append_left (by omega)] at hu
    exact a i e j c u he hc hu
  · rw [List.getElem?_append_right (by omega)] at he
    have h1 : E.length * k ≤ i * k := Nat.mul_le_mul_right _ (by omega)
    rw [List.getElem?_append_right (by omega), hl] at hu
    have e1 : i * k + j - E.length * k = (i - E.length) * k + j := by rw [Nat.sub_mul]; omega
    rw [e1] at hu
    exact b (i - E.length) e j c u he hc hu

theorem Told.more {E : List (List AVal)} {us zs : List Value} (hE : ∀ e ∈ E, e.length = k) (hl : E.length * k ≤ us.length) (a : Told w G h k E us) : Told w G h k E (us ++ zs) := by
  intro i e j c u he hc hu
  have hjk : j < k := by
    have h5 := (List.getElem?_eq_some_iff.1 hc).1
    have h6 : e.length = k := hE e (List.mem_of_getElem? he)
    omega
  have hi : i < E.length := (List.getElem?_eq_some_iff.1 he).1
  have : (i + 1) * k ≤ E.length * k := Nat.mul_le_mul_right _ hi
  rw [Nat.add_mul] at this
  rw [List.getElem?_append_left (by omega)] at hu
  exact a i e j c u he hc hu

theorem Told.take {E : List (List AVal)} {us : List Value} (hE : ∀ e ∈ E, e.length = k) (m : Nat) (a : Told w G h k E us) : Told w G h k (E.take m) (us.take (m * k)) := by
  intro i e j c u he hc hu
  rw [List.getElem?_take] at he hu
  split at he
  · split at hu
    · exact a i e j c u he hc hu
    · cases hu
  · cases he

theorem Told.drop {E : List (List AVal)} {us : List Value} (m : Nat) (a : Told w G h k E us) : Told w G h k (E.drop m) (us.drop (m * k)) := by
  intro i e j c u he hc hu
  rw [List.getElem?_drop] at he hu
  refine a (m + i) e j c u he hc ?_
  rw [Nat.add_mul]
  rw [← hu]
  congr 1
  omega

theorem Told.mono {w' : World} {G' : Gh} {h' : Nat → AObj} {E : List (List AVal)} {us : List Value} (a : Told w G h k E us) (hI : ∀ b, G.I b → G'.I b) (hw : ∀ b, G.I b → w'.heap[b]? = w.heap[b]?) (he : Ext G.M h G'.M h') :
    Told w' G' h' k E us := fun i e j c u h1 h2 h3 => (a i e j c u h1 h2 h3).mono hI hw he
end

section
variable {P : Program} {n : Nat} {o : Oper} {st : St} {f d : Nat}

/-- A new object in a new block, behind a draw. -/
theorem ok_newRow {a : Go.Act} {w : World} {G : Gh} (hr : Rel n st a w G) (hd : o.dst = some d) (hn : d < n) (hfree : st.h f = .free) {e : TypeId} {k C : Nat} {es : List (List AVal)} {us : List Value} {rd : List Nat} {fu : Bool} (hk : 0 < k) (hE : ∀ e ∈ es, e.length = k)
    (hl : us.length = C * k) (hC : es.length ≤ C) (hm : C ≤ maxLen) (hfu : fu = true → es.length = C) (h1 : ∀ u ∈ us, u.oneCell' = true) (ht : Told w G st.h k es us) (w1 : World) (hw1 : w1 = w ∨ w1 = w.drew)
    (hrun : (execOp a.eval o).run P w = .ok (.value (.slice (some ⟨w.heap.size, 0, none⟩) es.length C)) (w1.alloc (.cells us.toArray e))) :
    ∃ v w' G', ((execOp a.eval o).run P w = .ok (.value v) w' ∨ ((execOp a.eval o).run P w = .ok .skip w' ∧ v = undef)) ∧
      Rel n (Eff.app ⟨some d, .row f 0 0 es.length, rd, [], [.cells 0 k e fu es]⟩ st f) (a.put o.dst v) w' G' ∧ Tr w G st.h w' G' (Eff.heap ⟨some d, .row f 0 0 es.length, rd, [], [.cells 0 k e fu es]⟩ st.h f) := by
  have hs : w1.heap.size = w.heap.size := by rcases hw1 with rfl | rfl <;> rfl
  have hh : HR w1 G st.h := by rcases hw1 with rfl | rfl; exact hr.heap; exact hr.heap.drew
  have ht1 : Tr w G st.h w1 G st.h := by rcases hw1 with rfl | rfl; exact Tr.refl _ _ _; exact Tr.drew
  have hv1 : ∀ c v, VR w G st.h c v → VR w1 G st.h c v := by
    intro c v hv
    rcases hw1 with rfl | rfl
    · exact hv
    · exact hv.mono (fun _ h => h) (fun _ _ => rfl) (Ext.refl _ _)
  obtain ⟨q1, q2, q3⟩ := hh.alloc hh.ownLt hfree k C e fu es us.toArray hk hE (by simpa using hl) hC hfu hm (fun j v hj => h1 v (List.mem_of_getElem? (by simpa using hj)))
    (fun i e' j c v he hc hv => hv1 _ _ (ht i e' j c v he hc (by simpa using hv)))
  rw [hs] at q1 q2 q3
  have t := ht1.trans q3
  refine ⟨_, _, ⟨G.I, upd G.M f (some (w.heap.size, C))⟩, .inl hrun, ?_, ?_⟩
  · rw [hd]
    simp only [Eff.app, Eff.slots, Eff.heap_nw]
    exact (hr.ext t.I (t.keepI hr.heap) q2 q1).put hn
      (.row _ _ _ _ _ _ (by show upd st.h f _ f ≠ _; rw [upd_same]; simp) fun st' k' t' fu' es' h => by
        have h' : upd st.h f (.cells 0 k e fu es) f = .cells st' k' t' fu' es' := h
        rw [upd_same] at h'
        injection h' with e1 e2 e3 e4 e5
        subst e1 e5
        exact ⟨Nat.le_refl _, fun _ => ⟨by omega, .inr ⟨w.heap.size, C, upd_same _ _ _, .inr (by simp), by omega⟩⟩⟩)
  · rw [Eff.heap_nw]
    exact t

theorem zero_one {z : Value} {zs : List AVal} (hzs : lits z.cells.toList = some zs) (m : Nat) : ∀ u ∈ (Builtin.zeroCells z.cells m).toList, u.oneCell' = true := by
  intro u hu
  obtain ⟨_, l2, _⟩ := lits_ok (w := default) (G := ⟨fun _ => False, fun _ => none⟩) (h := fun _ => .free) hzs
  simp only [Builtin.zeroCells, Array.toList_map, List.mem_map] at hu
  obtain ⟨i, hi, rfl⟩ := hu
  have hi' : i < m * z.cells.size := by simpa using hi
  have h0 : 0 < z.cells.size := by
    rcases Nat.eq_zero_or_pos z.cells.size with h | h
    · rw [h] at hi'; omega
    · exact h
  have h1 : i % z.cells.size < z.cells.size := Nat.mod_lt _ h0
  rw [getElem!_pos z.cells _ h1]
  exact l2 (i % z.cells.size) _ (by simp [h1])

/-- What append gives on a world, its second argument being what it is: nothing new; a new block; room. -/
structure AppRun (P : Program) (w : World) (ats : Array TypeId) (ty e : TypeId) (inf : TypeInfo) (z : Value) (yv : Value) (m : Nat) (us : List Value) : Prop where
  none : m = 0 → ∀ (b : Option Addr) (n cap : Nat), n ≤ cap → (Builtin.append_ ats ty #[.slice b n cap, yv]).run P w = .ok (.slice b n cap) w
  grow : 0 < m → ∀ (b : Option Addr) (n cap : Nat) (olds : List Value), olds.length = n * inf.size → (∀ (j : Nat) v, olds[j]? = some v → ∃ ad, b = some ad ∧ w.cell? (ad.add j) = some v) →
    (b = Option.none → n = 0 ∧ cap = 0) → n + m ≤ maxLen → (n + m) * inf.bytes ≤ 140737488355328 → cap < n + m →
    ∃ cap', n + m ≤ cap' ∧ cap' ≤ maxLen ∧ (Builtin.append_ ats ty #[.slice b n cap, yv]).run P w =
      .ok (.slice (some ⟨w.heap.size, 0, Option.none⟩) (n + m) cap') (w.drew.alloc (.cells (olds.toArray ++ us.toArray ++ Builtin.zeroCells z.cells (cap' - (n + m))) e))
  room : 0 < m → ∀ (b n cap : Nat) (cur : Array Value), w.heap[b]? = some (.cells cur e (0, 0)) → n + m ≤ cap → n * inf.size + us.length ≤ cur.size →
    (Builtin.append_ ats ty #[.slice (some ⟨b, 0, Option.none⟩) n cap, yv]).run P w =
      .ok (.slice (some ⟨b, 0, Option.none⟩) (n + m) cap) (w.setRow b (cur.toList.take (n * inf.size) ++ us ++ cur.toList.drop (n * inf.size + us.length)).toArray)

/-- append, put together. -/
theorem app_core {ats : Array TypeId} {e : TypeId} {x y : Operand} {x' : SO} {inf : TypeInfo} {z : Value} {zs : List AVal} {ys : List (List AVal)} {rd : List Nat} {ef : Eff} (hd : o.dst = some d) (hn : d < n) (hfree : st.h f = .free)
    (ho : o.op = .call { callee := .builtin .append, args := #[x, y], argTypes := ats }) (hzs : lits z.cells.toList = some zs)
    (hzl : zs.length = inf.size) (hk : 0 < inf.size) (hby : 0 < inf.bytes) (hx : co x = some x')
    (hap : appOf d e inf.size inf.bytes st.h f (ev st.s x') ys rd = some ef)
    (hnew : ∀ a w G, Rel n st a w G → (∀ e ∈ ys, e.length = inf.size) ∧ ∃ us : List Value, us.length = ys.length * inf.size ∧ (∀ u ∈ us, u.oneCell' = true) ∧ Told w G st.h inf.size ys us ∧
      AppRun P w ats o.type e inf z (a.eval y) ys.length us) : OpOk P n o st f ef := by
  intro a w G hr
  have hvx := co_ok hr hx
  obtain ⟨hlen, us, u1, u3, u4, R⟩ := hnew a w G hr
  have hexec : ∀ v w', (Builtin.append_ ats o.type #[a.eval x, a.eval y]).run P w = .ok v w' → (execOp a.eval o).run P w = .ok (.value v) w' := by
    intro v w' h
    simp [execOp, ho, resolve, invoke, builtin, h]
  have hzsz : z.cells.size = inf.size := by
    have := (lits_ok (w := w) (G := G) (h := st.h) hzs).1
    rw [← hzl, this]; simp
  unfold appOf at hap
  have fresh : ∀ b : Option Addr, a.eval x = .slice b 0 0 → ys.length * inf.bytes ≤ 140737488355328 →
      ∃ v w' G', ((execOp a.eval o).run P w = .ok (.value v) w' ∨ ((execOp a.eval o).run P w = .ok .skip w' ∧ v = undef)) ∧
      Rel n (Eff.app ⟨some d, .row f 0 0 ys.length, rd, [], [.cells 0 inf.size e false ys]⟩ st f) (a.put o.dst v) w' G' ∧ Tr w G st.h w' G' (Eff.heap ⟨some d, .row f 0 0 ys.length, rd, [], [.cells 0 inf.size e false ys]⟩ st.h f) := by
    intro b hb hbytes
    rw [hb] at hexec
    by_cases h0 : ys.length = 0
    · have hy0 : ys = [] := List.eq_nil_of_length_eq_zero h0
      subst hy0
      have hrun := hexec _ _ (R.none rfl b 0 0 (Nat.le_refl _))
      obtain ⟨q1, q2, q3⟩ := hr.heap.virt hfree inf.size e false hk
      refine ⟨_, _, ⟨G.I, upd G.M f none⟩, .inl hrun, ?_, ?_⟩
      · rw [hd]
        simp only [Eff.app, Eff.slots, Eff.heap_nw]
        exact (hr.ext q3.I (q3.keepI hr.heap) q2 q1).put hn
          (.row _ _ _ _ _ _ (by show upd st.h f _ f ≠ _; rw [upd_same]; simp) fun st' k' t' fu' es' h => by
            have h' : upd st.h f (.cells 0 inf.size e false []) f = .cells st' k' t' fu' es' := h
            rw [upd_same] at h'
            injection h' with e1 e2 e3 e4 e5
            subst e1 e5
            exact ⟨Nat.le_refl _, fun _ => ⟨by simp, .inl ⟨upd_same _ _ _, rfl, rfl⟩⟩⟩)
      · rw [Eff.heap_nw]
        exact q3
    · have hm63 : ys.length ≤ 140737488355328 := Nat.le_trans (Nat.le_mul_of_pos_right _ hby) hbytes
      obtain ⟨cap', c1, c2, hrun⟩ := R.grow (by omega) b 0 0 [] (by simp) (by simp) (fun _ => ⟨rfl, rfl⟩) (by simp only [maxLen]; omega) (by simpa using hbytes) (by omega)
      have hrun' := hexec _ _ hrun
      refine ok_newRow (C := cap') (us := us ++ (Builtin.zeroCells z.cells (cap' - (0 + ys.length))).toList) hr hd hn hfree hk hlen ?_ (by omega) c2 (by simp) ?_ ?_ w.drew (.inr rfl) ?_
      · simp only [List.length_append, Array.length_toList, size_zeroCells, hzsz, u1, ← Nat.add_mul]
        congr 1
        omega
      · intro u hu
        rcases List.mem_append.1 hu with h | h
        · exact u3 u h
        · exact zero_one hzs _ u h
      · exact Told.more hlen (by omega) u4
      · rw [hrun']
        congr 3
        · simp
        · congr 1
          apply Array.ext'
          simp
  split at hap
  · rename_i hxe
    rw [hxe] at hvx
    split at hap
    · injection hap with hap; subst hap
      exact fresh none hvx.nil_inv (by assumption)
    · cases hap
  · rename_i hxe
    rw [hxe] at hvx
    split at hap
    · injection hap with hap; subst hap
      obtain ⟨b, hb⟩ := hvx.emp_inv
      exact fresh b hb (by assumption)
    · cases hap
  · rename_i id q off len hxe
    rw [hxe] at hvx
    obtain ⟨ax, cap, ex, hfr, hro⟩ := hvx.row_inv
    rw [ex] at hexec
    unfold obj at hap
    split at hap
    · rename_i k0 t0 fu0 es0 hob
      split at hob
      · rename_i st' k' t' fu es hh
        split at hob
        · rename_i hq
          obtain rfl : q = st' := hq.symm
          injection hob with hob; injection hob with e1 e2; injection e2 with e2 e3; injection e3 with e3 e4
          subst e1 e2 e3 e4
          split at hap
          · rename_i hcond
            obtain ⟨hk1, ht1, ho1, hnle, hbytes⟩ := hcond
            subst hk1 ho1
            subst ht1
            obtain ⟨hle, hm⟩ := (hro _ _ _ _ _ hh).2 rfl
            have hob := hr.heap.obj id
            rw [hh] at hob
            obtain ⟨_, hel, hob⟩ := hob
            have hm63 : len + ys.length ≤ 140737488355328 := Nat.le_trans (Nat.le_mul_of_pos_right _ hby) hbytes
            -- the header stays where it is, the object with a new stamp, and new elements
            have keepRow : ∀ (st2 : Nat) (fu2 : Bool) (es2 : List (List AVal)) (G2 : Gh) (w2 : World) (ad2 : Option Addr) (cap2 : Nat),
                HR w2 G2 (upd st.h id (.cells st2 inf.size t' fu2 es2)) → Ext G.M st.h G2.M (upd st.h id (.cells st2 inf.size t' fu2 es2)) → Tr w G st.h w2 G2 (upd st.h id (.cells st2 inf.size t' fu2 es2)) →
                RowOk G2 id inf.size es2.length 0 (len + ys.length) ad2 cap2 →
                (execOp a.eval o).run P w = .ok (.value (.slice ad2 (len + ys.length) cap2)) w2 → ∀ rd2,
                ∃ v w' G', ((execOp a.eval o).run P w = .ok (.value v) w' ∨ ((execOp a.eval o).run P w = .ok .skip w' ∧ v = undef)) ∧
                Rel n (Eff.app ⟨some d, .row id st2 0 (len + ys.length), rd2, [(id, .cells st2 inf.size t' fu2 es2)], []⟩ st f) (a.put o.dst v) w' G' ∧
                Tr w G st.h w' G' (Eff.heap ⟨some d, .row id st2 0 (len + ys.length), rd2, [(id, .cells st2 inf.size t' fu2 es2)], []⟩ st.h f) := by
              intro st2 fu2 es2 G2 w2 ad2 cap2 q1 q2 q3 hrow hrun rd2
              refine ⟨_, _, G2, .inl hrun, ?_, ?_⟩
              · rw [hd]
                simp only [Eff.app, Eff.slots, Eff.heap_wr]
                exact (hr.ext q3.I (q3.keepI hr.heap) q2 q1).put hn
                  (.row _ _ _ _ _ _ (by show upd st.h id _ id ≠ _; rw [upd_same]; simp) fun st' k' t3 fu' es' h => by
                    have h' : upd st.h id (.cells st2 inf.size t' fu2 es2) id = .cells st' k' t3 fu' es' := h
                    rw [upd_same] at h'
                    injection h' with e1 e2 e3 e4 e5
                    subst e1 e2 e5
                    exact ⟨Nat.le_refl _, fun _ => hrow⟩)
              · rw [Eff.heap_wr]
                exact q3
            by_cases h0 : ys.length = 0
            · -- nothing is appended
              have hy0 : ys = [] := List.eq_nil_of_length_eq_zero h0
              subst hy0
              have hcap : len ≤ cap := by
                rcases hm with ⟨_, h1, h2⟩ | ⟨b, C, hM, hcap, hC⟩
                · omega
                · rcases hob with ⟨h3, _⟩ | ⟨b', C', cs, hM', _, _, _, hle', _⟩
                  · rw [hM] at h3; cases h3
                  · rw [hM] at hM'; cases hM'; omega
              have hrun := hexec _ _ (R.none rfl ax len cap hcap)
              split at hap
              · rename_i hfull
                injection hap with hap; subst hap
                obtain ⟨q1, q2, q3⟩ := hr.heap.restamp (st' := q + 1) hh (by omega)
                have := keepRow (q + 1) false es G w ax cap q1 q2 q3 ⟨by simpa using hle, by simpa using hm⟩ (by simpa using hrun)
                simpa using this _
              · split at hap
                · injection hap with hap; subst hap
                  have hsame : upd st.h id (.cells q inf.size t' fu es) = st.h := by
                    funext i
                    by_cases e : i = id
                    · subst e; rw [upd_same, hh]
                    · rw [upd_ne _ _ e]
                  have := keepRow q fu es G w ax cap (by rw [hsame]; exact hr.heap) (by rw [hsame]; exact Ext.refl _ _) (by rw [hsame]; exact Tr.refl _ _ _) ⟨by simpa using hle, by simpa using hm⟩ (by simpa using hrun)
                  simpa using this _
                · simp at *
                  omega
            · -- the cells that are there
              have holds : ∃ olds : List Value, olds.length = len * inf.size ∧ (∀ (j : Nat) v, olds[j]? = some v → ∃ ad1, ax = some ad1 ∧ w.cell? (ad1.add j) = some v) ∧ (∀ u ∈ olds, u.oneCell' = true) ∧ Told w G st.h inf.size (es.take len) olds ∧ (ax = none → len = 0 ∧ cap = 0) := by
                rcases hm with ⟨_, h1, h2⟩ | ⟨b, C, hM, hcap, hC⟩
                · exact ⟨[], by simp [h1], by simp, by simp, by intro i e j c u h; simp [h1] at h, fun _ => ⟨h1, h2⟩⟩
                · rcases hob with ⟨h3, _⟩ | ⟨b', C', cs, hM', _, hg, hs, hle', _, _, h1, hv⟩
                  · rw [hM] at h3; cases h3
                  · rw [hM] at hM'; cases hM'
                    have hlk : len * inf.size ≤ cs.size := by rw [hs]; exact Nat.mul_le_mul_right _ (by omega)
                    refine ⟨cs.toList.take (len * inf.size), by simp; omega, fun j v hv' => ?_, fun u hu => ?_, ?_, fun h9 => ?_⟩
                    · rw [List.getElem?_take] at hv'
                      split at hv'
                      · rename_i hj
                        rcases hcap with hcap | hcap
                        · have : len = 0 := by omega
                          rw [this] at hj; omega
                        · refine ⟨_, hcap, ?_⟩
                          rw [addr_add, cell_of_row w b _ cs t' (0, 0) hg]
                          simpa using hv'
                      · cases hv'
                    · obtain ⟨j, hj⟩ := List.mem_iff_getElem?.1 (List.mem_of_mem_take hu)
                      exact h1 j u (by simpa using hj)
                    · have : Told w G st.h inf.size es cs.toList := fun i e j c u a1 a2 a3 => hv i e j c u a1 a2 (by simpa using a3)
                      exact this.take hel len
                    · rcases hcap with hcap | hcap
                      · exact ⟨by omega, hcap⟩
                      · rw [h9] at hcap; cases hcap
              obtain ⟨olds, o1, o2, o3, o4, o5⟩ := holds
              have hE : ∀ e ∈ es.take len ++ ys, e.length = inf.size := by
                intro e he
                rcases List.mem_append.1 he with h | h
                · exact hel e (List.mem_of_mem_take h)
                · exact hlen e h
              have hElen : (es.take len ++ ys).length = len + ys.length := by simp; omega
              have htl : (es.take len).length = len := by simp; omega
              have htold : Told w G st.h inf.size (es.take len ++ ys) (olds ++ us) := o4.append (fun e he => hel e (List.mem_of_mem_take he)) hlen (by rw [o1, htl]) u4
              by_cases hroom : cap < len + ys.length
              · -- a new block
                obtain ⟨cap', c1, c2, hrun⟩ := R.grow (by omega) ax len cap olds o1 o2 o5 (by simp only [maxLen]; omega) hbytes hroom
                have hrun' := hexec _ _ hrun
                have blk1 : (olds ++ us ++ (Builtin.zeroCells z.cells (cap' - (len + ys.length))).toList).length = cap' * inf.size := by
                  simp only [List.length_append, Array.length_toList, size_zeroCells, hzsz, u1, o1, ← Nat.add_mul]
                  congr 1
                  omega
                have blk2 : ∀ u ∈ olds ++ us ++ (Builtin.zeroCells z.cells (cap' - (len + ys.length))).toList, u.oneCell' = true := by
                  intro u hu
                  rcases List.mem_append.1 hu with h | h
                  · rcases List.mem_append.1 h with h | h
                    · exact o3 u h
                    · exact u3 u h
                  · exact zero_one hzs _ u h
                have blk3 : Told w G st.h inf.size (es.take len ++ ys) (olds ++ us ++ (Builtin.zeroCells z.cells (cap' - (len + ys.length))).toList) :=
                  Told.more hE (by rw [hElen, List.length_append, o1, u1, Nat.add_mul]; exact Nat.le_refl _) htold
                have blk4 : (olds.toArray ++ us.toArray ++ Builtin.zeroCells z.cells (cap' - (len + ys.length))) = (olds ++ us ++ (Builtin.zeroCells z.cells (cap' - (len + ys.length))).toList).toArray := by
                  apply Array.ext'
                  simp
                rw [blk4] at hrun'
                have moved : ∀ rd2, ∃ v w' G', ((execOp a.eval o).run P w = .ok (.value v) w' ∨ ((execOp a.eval o).run P w = .ok .skip w' ∧ v = undef)) ∧
                    Rel n (Eff.app ⟨some d, .row id (q + 1) 0 (len + ys.length), rd2, [(id, .cells (q + 1) inf.size t' false (es.take len ++ ys))], []⟩ st f) (a.put o.dst v) w' G' ∧
                    Tr w G st.h w' G' (Eff.heap ⟨some d, .row id (q + 1) 0 (len + ys.length), rd2, [(id, .cells (q + 1) inf.size t' false (es.take len ++ ys))], []⟩ st.h f) := by
                  obtain ⟨q1, q2, q3⟩ := hr.heap.drew.move (st' := q + 1) (fu' := false) (es' := es.take len ++ ys) (cs' := (olds ++ us ++ (Builtin.zeroCells z.cells (cap' - (len + ys.length))).toList).toArray) (C := cap') hh (by omega) hE (by simpa using blk1) (by omega) (by simp) c2
                    (fun j v hj => blk2 v (List.mem_of_getElem? (by simpa using hj)))
                    (fun i e j c v he hc hv => (blk3 i e j c v he hc (by simpa using hv)).mono (fun _ h => h) (fun _ _ => rfl) (Ext.refl _ _))
                  exact keepRow (q + 1) false _ _ _ _ _ q1 q2 (Tr.drew.trans q3) ⟨by omega, .inr ⟨w.heap.size, cap', upd_same _ _ _, .inr (by simp), by omega⟩⟩ hrun'
                split at hap
                · rename_i hfull
                  injection hap with hap; subst hap
                  have := moved (id :: rd)
                  rw [show es.take len = es by rw [hfull]; simp] at this
                  exact this
                · split at hap
                  · rename_i hin
                    exfalso
                    rcases hm with ⟨h3, h1, h2⟩ | ⟨b, C, hM, hcap, hC⟩
                    · rcases hob with ⟨_, h4⟩ | ⟨b', C', cs, hM', _⟩
                      · have : es.length = 0 := by rw [h4]; rfl
                        omega
                      · rw [h3] at hM'; cases hM'
                    · rcases hob with ⟨h3, _⟩ | ⟨b', C', cs, hM', _, _, _, hle', _⟩
                      · rw [hM] at h3; cases h3
                      · rw [hM] at hM'; cases hM'; omega
                  · split at hap
                    · injection hap with hap; subst hap
                      have := ok_newRow (P := P) (n := n) (o := o) (st := st) (f := f) (d := d) (rd := id :: rd) (fu := false) (C := cap') (us := olds ++ us ++ (Builtin.zeroCells z.cells (cap' - (len + ys.length))).toList) (es := es.take len ++ ys) hr hd hn hfree hk hE blk1 (by omega) c2 (by simp) blk2 blk3 w.drew (.inr rfl)
                        (by rw [hElen]; exact hrun')
                      rw [hElen] at this
                      exact this
                    · injection hap with hap; subst hap
                      exact moved (id :: rd)
              · -- there is room
                rcases hm with ⟨_, h1, h2⟩ | ⟨b, C, hM, hcap, hC⟩
                · omega
                · rcases hob with ⟨h3, _⟩ | ⟨b', C', cs, hM', _, hg, hs, hle', hfuC, _, h1, hv⟩
                  · rw [hM] at h3; cases h3
                  · rw [hM] at hM'; cases hM'
                    have hax : ax = some ⟨b, 0, none⟩ := by
                      rcases hcap with hcap | hcap
                      · omega
                      · simpa using hcap
                    subst hax
                    have hfit : len * inf.size + us.length ≤ cs.size := by
                      rw [u1, hs, ← Nat.add_mul]
                      exact Nat.mul_le_mul_right _ (by omega)
                    have hrun := R.room (by omega) b len cap cs hg (by omega) hfit
                    have hrun' := hexec _ _ hrun
                    have tcs : Told w G st.h inf.size es cs.toList := fun i e j c u a1 a2 a3 => hv i e j c u a1 a2 (by simpa using a3)
                    have hcsl : (cs.toList.take (len * inf.size) ++ us ++ cs.toList.drop (len * inf.size + us.length)).length = C * inf.size := by
                      rw [splice_length _ _ _ (by simpa using hfit)]; simpa using hs
                    have hone : ∀ u ∈ cs.toList.take (len * inf.size) ++ us ++ cs.toList.drop (len * inf.size + us.length), u.oneCell' = true := by
                      have hcs1 : ∀ u ∈ cs.toList, u.oneCell' = true := fun u hu => by
                        obtain ⟨j, hj⟩ := List.mem_iff_getElem?.1 hu
                        exact h1 j u (by simpa using hj)
                      intro u hu
                      rcases List.mem_append.1 hu with h | h
                      · rcases List.mem_append.1 h with h | h
                        · exact hcs1 u (List.mem_of_mem_take h)
                        · exact u3 u h
                      · exact hcs1 u (List.mem_of_mem_drop h)
                    have t1 : Told w G st.h inf.size (es.take len ++ ys) (cs.toList.take (len * inf.size) ++ us) :=
                      (tcs.take hel len).append (fun e he => hel e (List.mem_of_mem_take he)) hlen (by simp only [List.length_take, Array.length_toList]; rw [show min len es.length = len by omega]; have := hfit; omega) u4
                    have t2 : Told w G st.h inf.size (es.take len ++ ys ++ es.drop (len + ys.length)) (cs.toList.take (len * inf.size) ++ us ++ cs.toList.drop (len * inf.size + us.length)) := by
                      have := tcs.drop (len + ys.length)
                      rw [Nat.add_mul, ← u1] at this
                      exact t1.append hE (fun e he => hel e (List.mem_of_mem_drop he)) (by
                        rw [hElen, List.length_append, u1, Nat.add_mul]
                        simp only [List.length_take, Array.length_toList]
                        have := hfit
                        omega) this
                    -- the stamp goes on
                    have stamped : ∀ rd2, (len = es.length ∨ ¬ len + ys.length ≤ es.length) → ∃ v w' G', ((execOp a.eval o).run P w = .ok (.value v) w' ∨ ((execOp a.eval o).run P w = .ok .skip w' ∧ v = undef)) ∧
                        Rel n (Eff.app ⟨some d, .row id (q + 1) 0 (len + ys.length), rd2, [(id, .cells (q + 1) inf.size t' false (es.take len ++ ys))], []⟩ st f) (a.put o.dst v) w' G' ∧
                        Tr w G st.h w' G' (Eff.heap ⟨some d, .row id (q + 1) 0 (len + ys.length), rd2, [(id, .cells (q + 1) inf.size t' false (es.take len ++ ys))], []⟩ st.h f) := by
                      intro rd2 _
                      obtain ⟨q1, q2, q3⟩ := hr.heap.change (cs' := (cs.toList.take (len * inf.size) ++ us ++ cs.toList.drop (len * inf.size + us.length)).toArray) (st' := q + 1) (fu' := false) (es' := es.take len ++ ys) hh hM hg (by omega) (by omega) hE
                        (by simpa using hcsl) (by omega) (by simp) (fun j v hj => hone v (List.mem_of_getElem? (by simpa using hj)))
                        (fun i e j c v he hc hv => (t1.more hE (by rw [hElen, List.length_append, u1, Nat.add_mul]; simp only [List.length_take, Array.length_toList]; omega)) i e j c v he hc (by simpa using hv))
                      exact keepRow (q + 1) false _ _ _ _ _ q1 q2 q3 ⟨by omega, .inr ⟨b, C, hM, .inr (by simp), hC⟩⟩ hrun' _
                    split at hap
                    · rename_i hfull
                      injection hap with hap; subst hap
                      have := stamped (id :: rd) (.inl hfull)
                      rw [show es.take len = es by rw [hfull]; simp] at this
                      exact this
                    · split at hap
                      · rename_i hin
                        injection hap with hap; subst hap
                        obtain ⟨q1, q2, q3⟩ := hr.heap.change (cs' := (cs.toList.take (len * inf.size) ++ us ++ cs.toList.drop (len * inf.size + us.length)).toArray) (st' := q) (fu' := fu) (es' := es.take len ++ ys ++ es.drop (len + ys.length)) hh hM hg (Nat.le_refl _) (fun _ => by simp; omega)
                          (fun e he => by
                            rcases List.mem_append.1 he with h | h
                            · exact hE e h
                            · exact hel e (List.mem_of_mem_drop h))
                          (by simpa using hcsl) (by simp; omega) (fun hf => by have := hfuC hf; simp; omega) (fun j v hj => hone v (List.mem_of_getElem? (by simpa using hj)))
                          (fun i e j c v he hc hv => t2 i e j c v he hc (by simpa using hv))
                        exact keepRow q fu _ _ _ _ _ q1 q2 q3 ⟨by simp; omega, .inr ⟨b, C, hM, .inr (by simp), hC⟩⟩ hrun' _
                      · rename_i hnot
                        split at hap
                        · rename_i hf
                          have := hfuC hf
                          omega
                        · injection hap with hap; subst hap
                          exact stamped (id :: rd) (.inr hnot)
          · cases hap
        · cases hob
      · cases hob
    · cases hap
  · cases hap

/-- append(x, y...). -/
theorem ok_app {t e : TypeId} {x y : Operand} {x' y' : SO} {inf : TypeInfo} {z : Value} {zs : List AVal} {ys : List (List AVal)} {rd : List Nat} {ef : Eff} (hd : o.dst = some d) (hn : d < n) (hfree : st.h f = .free)
    (ho : o.op = .call { callee := .builtin .append, args := #[x, y], argTypes := #[t, t] }) (ht : P.underlying t = some (.slice e)) (hi : P.info? e = some inf) (hz : inf.zero = some z) (hzs : lits z.cells.toList = some zs)
    (hzl : zs.length = inf.size) (hk : 0 < inf.size) (hby : 0 < inf.bytes) (hx : co x = some x') (hy : co y = some y') (hc : conts st.h inf.size (ev st.s y') = some (ys, rd))
    (hap : appOf d e inf.size inf.bytes st.h f (ev st.s x') ys rd = some ef) : OpOk P n o st f ef :=
  app_core hd hn hfree ho hzs hzl hk hby hx hap fun a w G hr => by
    have hvy := co_ok hr hy
    obtain ⟨ad, capy, ey, hlen, L⟩ := conts_ok hr hvy hc
    obtain ⟨us, u1, u2, u3, u4⟩ := L.list hk hlen
    have hnews : 0 < ys.length → ∃ ad0, ad = some ad0 ∧ ∀ (j : Nat) v, us[j]? = some v → w.cell? (ad0.add j) = some v := by
      intro hp
      have hpos : 0 < us.length := by rw [u1]; exact Nat.mul_pos hp hk
      obtain ⟨ad0, e1, _⟩ := u2 0 _ (List.getElem?_eq_getElem hpos)
      refine ⟨ad0, e1, fun j v hv => ?_⟩
      obtain ⟨ad1, e2, h2⟩ := u2 j v hv
      rw [e1] at e2
      injection e2 with e2
      exact e2 ▸ h2
    rw [ey]
    refine ⟨hlen, us, u1, u3, u4, ⟨fun h0 b n cap hn => ?_, fun hm b n cap olds h1 h2 h3 h4 h5 h6 => ?_, fun hm b n cap cur h1 h2 h3 => ?_⟩⟩
    · rw [h0]
      exact run_append_zero ht hi b n cap hn ad capy
    · obtain ⟨ad0, rfl, hn0⟩ := hnews hm
      exact run_append_two ht hi hz b n cap olds h1 h2 h3 ad0 ys.length capy us u1 hn0 hm h4 h5 h6
    · obtain ⟨ad0, rfl, hn0⟩ := hnews hm
      exact run_append_room w t o.type e inf ht hi b n cap cur h1 ad0 ys.length capy us u1 hn0 u3 h2 h3

end

section
variable {P : Program} {n : Nat} {o : Oper} {st : St} {f d : Nat}

theorem ok_ext {x : Operand} {i : Nat} {x' : SO} {vs : List AVal} {c : AVal} (hd : o.dst = some d) (hn : d < n) (ho : o.op = .extract x i) (hx : co x = some x') (hb : ev st.s x' = .tup vs) (hc : vs[i]? = some c) :
    OpOk P n o st f ⟨some d, c, [], [], []⟩ :=
  .val hd hn fun a w G hr => by
    have h := co_ok hr hx
    rw [hb] at h
    obtain ⟨ws, e, hl, hrr⟩ := h.tup_inv
    have hi : i < ws.size := by have := (List.getElem?_eq_some_iff.1 hc).1; omega
    exact ⟨ws[i], by simp [execOp, ho, e, Instr.extract, hi], hrr i c _ hc (Array.getElem?_eq_getElem hi)⟩

theorem ok_nck {x : Operand} {x' : SO} {c : AVal} (hd : o.dst = some d) (hn : d < n) (ho : o.op = .nilCheck x) (hx : co x = some x') (hb : ev st.s x' = c)
    (hc : (∃ id q i p, c = .ptr id q i p) ∨ (∃ cs p, c = .iptr cs p) ∨ ∃ g as bs, c = .func g as bs) : OpOk P n o st f ⟨some d, c, [], [], []⟩ :=
  .val hd hn fun a w G hr => by
    have h := co_ok hr hx
    rw [hb] at h
    refine ⟨a.eval x, ?_, h⟩
    rcases hc with ⟨id, q, i, p, rfl⟩ | ⟨cs, p, rfl⟩ | ⟨g, as, bs, rfl⟩
    · obtain ⟨ad, e, _⟩ := h.ptr_inv
      simp [execOp, ho, e]
    · obtain ⟨b, p', g, e, _⟩ := h.iptr_inv
      simp [execOp, ho, e]
    · obtain ⟨xs, ys, e, _⟩ := h.func_inv
      simp [execOp, ho, e]

theorem cos_ok {a : Go.Act} {w : World} {G : Gh} (hr : Rel n st a w G) : ∀ {xs : List Operand} {ys : List SO}, cos xs = some ys → (evs st.s ys).length = xs.length ∧
    ∀ (j : Nat) c x, (evs st.s ys)[j]? = some c → xs[j]? = some x → VR w G st.h c (a.eval x)
  | [], ys, e => by simp [cos] at e; subst e; simp [evs]
  | x :: xs, ys, e => by
    unfold cos at e
    split at e
    · rename_i y ys' hy hys
      injection e with e; subst e
      obtain ⟨h1, h2⟩ := cos_ok hr hys
      refine ⟨by simp [evs, h1], fun j c x' hc hx => ?_⟩
      cases j with
      | zero => simp [evs] at hc hx; subst hc hx; exact co_ok hr hy
      | succ j => simp [evs] at hc hx; exact h2 j c x' hc hx
    · cases e

theorem ok_mkf {g : FuncId} {as bs : Array Operand} {as' bs' : List SO} (hd : o.dst = some d) (hn : d < n) (ho : o.op = .makeFunc (.func g) as bs) (ha : cos as.toList = some as') (hb : cos bs.toList = some bs') :
    OpOk P n o st f ⟨some d, .func g (evs st.s as') (evs st.s bs'), [], [], []⟩ :=
  .val hd hn fun a w G hr => by
    obtain ⟨a1, a2⟩ := cos_ok hr ha
    obtain ⟨b1, b2⟩ := cos_ok hr hb
    refine ⟨.func (.func g) (as.map a.eval) (bs.map a.eval), by simp [execOp, ho, Instr.makeFunc], .func _ _ _ _ _ (by simpa using a1) (by simpa using b1) (fun j c v hc hv => ?_) fun j c v hc hv => ?_⟩
    · obtain ⟨x, hx, rfl⟩ : ∃ x, as[j]? = some x ∧ a.eval x = v := by simpa using hv
      exact a2 j c x hc (by simpa using hx)
    · obtain ⟨x, hx, rfl⟩ : ∃ x, bs[j]? = some x ∧ a.eval x = v := by simpa using hv
      exact b2 j c x hc (by simpa using hx)

theorem lenOf_ok {a : Go.Act} {w : World} {G : Gh} {c : AVal} {v : Value} {m : Nat} (hv : VR w G st.h c v) (hm : lenOf c = some m) : (∃ ad cap, v = .slice ad m cap) ∨ ∃ s, v = .string s ∧ s.size = m := by
  unfold lenOf at hm
  split at hm
  · injection hm with hm; subst hm; exact .inl ⟨none, 0, hv.nil_inv⟩
  · injection hm with hm; subst hm; obtain ⟨ad, e⟩ := hv.emp_inv; exact .inl ⟨ad, 0, e⟩
  · injection hm with hm; subst hm; obtain ⟨ad, cap, e, _⟩ := hv.sl_inv; exact .inl ⟨ad, cap, e⟩
  · injection hm with hm; subst hm; obtain ⟨ad, cap, e, _⟩ := hv.row_inv; exact .inl ⟨ad, cap, e⟩
  · injection hm with hm; subst hm; exact .inr ⟨_, hv.str_inv, rfl⟩
  · cases hm

theorem ok_len {x : Operand} {x' : SO} {t : TypeId} {m : Nat} (hd : o.dst = some d) (hn : d < n) (ho : o.op = .call { callee := .builtin .len, args := #[x], argTypes := #[t] }) (ht : (∃ e, P.underlying t = some (.slice e)) ∨ P.underlying t = some .string)
    (hx : co x = some x') (hm : lenOf (ev st.s x') = some m) (hs : (P.underlying t = some .string) = ∃ s, ev st.s x' = .str s) : OpOk P n o st f ⟨some d, .int .i64 m, [], [], []⟩ :=
  .val hd hn fun a w G hr => by
    have h := co_ok hr hx
    refine ⟨.int .i64 m, ?_, .cl _ _ (.int _ _)⟩
    rcases lenOf_ok (a := a) h hm with ⟨ad, cap, e⟩ | ⟨s, e, hsz⟩
    · have : ¬ ∃ s, ev st.s x' = .str s := by
        rintro ⟨s, es⟩
        rw [es] at h
        rw [h.str_inv] at e
        cases e
      rw [← hs] at this
      rcases ht with ⟨e', he⟩ | he
      · simp [execOp, ho, resolve, invoke, builtin, Builtin.len_, e, run_underlying he, goInt]
      · exact absurd he this
    · have : ∃ s, ev st.s x' = .str s := by
        revert hm h
        cases ev st.s x' <;> intro hm h <;> simp [lenOf] at hm
        · exact ⟨_, rfl⟩
        · rw [h.nil_inv] at e; cases e
        · obtain ⟨_, e'⟩ := h.emp_inv; rw [e'] at e; cases e
        · obtain ⟨_, _, e', _⟩ := h.sl_inv; rw [e'] at e; cases e
        · obtain ⟨_, _, e', _⟩ := h.row_inv; rw [e'] at e; cases e
      rw [← hs] at this
      simp [execOp, ho, resolve, invoke, builtin, Builtin.len_, e, run_underlying this, goInt, hsz]

theorem ok_mn {x y : Operand} {x' y' : SO} {ts : Array TypeId} {c : AVal} (hd : o.dst = some d) (hn : d < n) (ho : o.op = .call { callee := .builtin .min, args := #[x, y], argTypes := ts }) (hx : co x = some x') (hy : co y = some y')
    (hb : minOf (ev st.s x') (ev st.s y') = some c) : OpOk P n o st f ⟨some d, c, [], [], []⟩ :=
  .val hd hn fun a w G hr => by
    have h1 := co_ok hr hx
    have h2 := co_ok hr hy
    revert hb h1 h2
    generalize ev st.s x' = u
    generalize ev st.s y' = v
    intro hb h1 h2
    unfold minOf at hb
    split at hb
    · rename_i k p k' q
      split at hb
      · rename_i hk
        subst hk
        injection hb with hb; subst hb
        refine ⟨_, ?_, .cl _ _ (.int _ _)⟩
        have e : (if q < p then q else p) = min p q := by rw [Int.min_def]; split <;> split <;> omega
        simp [execOp, ho, resolve, invoke, builtin, h1.int_inv, h2.int_inv, run_min_int2, e]
      · cases hb
    · cases hb

theorem ok_mx {x y : Operand} {x' y' : SO} {ts : Array TypeId} {c : AVal} (hd : o.dst = some d) (hn : d < n) (ho : o.op = .call { callee := .builtin .max, args := #[x, y], argTypes := ts }) (hx : co x = some x') (hy : co y = some y')
    (hb : maxOf (ev st.s x') (ev st.s y') = some c) : OpOk P n o st f ⟨some d, c, [], [], []⟩ :=
  .val hd hn fun a w G hr => by
    have h1 := co_ok hr hx
    have h2 := co_ok hr hy
    revert hb h1 h2
    generalize ev st.s x' = u
    generalize ev st.s y' = v
    intro hb h1 h2
    unfold maxOf at hb
    split at hb
    · rename_i k p k' q
      split at hb
      · rename_i hk
        subst hk
        injection hb with hb; subst hb
        refine ⟨_, ?_, .cl _ _ (.int _ _)⟩
        have e : (if q > p then q else p) = max p q := by rw [Int.max_def]; split <;> split <;> omega
        simp [execOp, ho, resolve, invoke, builtin, h1.int_inv, h2.int_inv, run_max_int2, e]
      · cases hb
    · cases hb

/-- Is a value nil? -/
def vNil : Value → Bool
  | .slice none _ _ | .nilFunc | .pointer none => true
  | _ => false

theorem run_nilEqIn (d : Nat) {t : TypeId} {w : World} {v z : Value} (hz : (z = .slice none 0 0 ∧ (∃ a l c, v = .slice a l c) ∧ ∃ e, P.underlying t = some (.slice e)) ∨
      (z = .nilFunc ∧ (v = .nilFunc ∨ ∃ fn xs ys, v = .func fn xs ys) ∧ ∃ a b c, P.underlying t = some (.func a b c)) ∨ (z = .pointer none ∧ (∃ a, v = .pointer a) ∧ ∃ e, P.underlying t = some (.pointer e))) :
    (Op.equalIn (d + 1) t v z).run P w = .ok (vNil v) w := by
  rcases hz with ⟨rfl, ⟨a, l, c, rfl⟩, e, hu⟩ | ⟨rfl, hv, a, b, c, hu⟩ | ⟨rfl, ⟨a, rfl⟩, e, hu⟩
  · cases a <;> simp [Op.equalIn, run_underlying hu, vNil]
  · rcases hv with rfl | ⟨fn, xs, ys, rfl⟩ <;> simp [Op.equalIn, run_underlying hu, vNil]
  · cases a <;> simp [Op.equalIn, run_underlying hu, vNil]

theorem run_nilEq {t : TypeId} {w : World} {v z : Value} (hz : (z = .slice none 0 0 ∧ (∃ a l c, v = .slice a l c) ∧ ∃ e, P.underlying t = some (.slice e)) ∨
      (z = .nilFunc ∧ (v = .nilFunc ∨ ∃ fn xs ys, v = .func fn xs ys) ∧ ∃ a b c, P.underlying t = some (.func a b c)) ∨ (z = .pointer none ∧ (∃ a, v = .pointer a) ∧ ∃ e, P.underlying t = some (.pointer e))) :
    (Op.equal t v z).run P w = .ok (vNil v) w := run_nilEqIn 9999 hz

theorem isNil_ok {a : Go.Act} {w : World} {G : Gh} (hr : Rel n st a w G) {c : AVal} {v : Value} {b : Bool} (hv : VR w G st.h c v) (hb : isNil c = some b)
    (hrow : ∀ id q off len, c = .row id q off len → ∃ k t fu es, st.h id = .cells q k t fu es) : vNil v = b := by
  unfold isNil at hb
  split at hb
  · injection hb with hb; subst hb; rw [hv.nil_inv]; rfl
  · injection hb with hb; subst hb; rw [hv.nptr_inv]; rfl
  · injection hb with hb; subst hb; rw [hv.nfunc_inv]; rfl
  · injection hb with hb; subst hb; obtain ⟨ad, e, _⟩ := hv.ptr_inv; rw [e]; rfl
  · injection hb with hb; subst hb; obtain ⟨_, _, _, e, _⟩ := hv.iptr_inv; rw [e]; rfl
  · injection hb with hb; subst hb; obtain ⟨_, _, e, _⟩ := hv.func_inv; rw [e]; rfl
  · rename_i id q off len
    split at hb
    · cases hb
    · rename_i h0
      injection hb with hb; subst hb
      obtain ⟨ad, cap, e, _, hro⟩ := hv.row_inv
      obtain ⟨k, t, fu, es, hh⟩ := hrow id q off len rfl
      obtain ⟨hle, hm⟩ := (hro _ _ _ _ _ hh).2 rfl
      have hok := hr.heap.obj id
      rw [hh] at hok
      obtain ⟨_, _, hok⟩ := hok
      rw [e]
      rcases hm with ⟨_, h1, _⟩ | ⟨b, C, hM, hcap, hC⟩
      · omega
      · rcases hcap with hcap | hcap
        · rcases hok with ⟨h3, _⟩ | ⟨b', C', cs, hM', _, _, _, hle', _⟩
          · rw [hM] at h3; cases h3
          · rw [hM] at hM'; cases hM'; omega
        · rw [hcap]; rfl
  · injection hb with hb; subst hb
    obtain ⟨ad, cap, e, _, hsl⟩ := hv.sl_inv
    rw [e]
    rcases hsl with h | ⟨b, p, g, rfl, _⟩
    · cases h
    · rfl
  · cases hb

/-- What kinds of nil a type has, and that the values are of it. -/
def nilKind (P : Program) (t : TypeId) (z : Operand) : Bool :=
  match P.underlying t, z with
  | some (.slice _), .const (.slice none 0 0) => true
  | some (.func _ _ _), .const .nilFunc => true
  | some (.pointer _), .const (.pointer none) => true
  | _, _ => false

theorem nilKind_ok {t : TypeId} {z : Operand} (h : nilKind P t z = true) {a : Go.Act} : (a.eval z = .slice none 0 0 ∧ ∃ e, P.underlying t = some (.slice e)) ∨
    (a.eval z = .nilFunc ∧ ∃ x y c, P.underlying t = some (.func x y c)) ∨ (a.eval z = .pointer none ∧ ∃ e, P.underlying t = some (.pointer e)) := by
  unfold nilKind at h
  split at h
  · rename_i e hu; exact .inl ⟨rfl, e, hu⟩
  · rename_i x y c hu; exact .inr (.inl ⟨rfl, x, y, c, hu⟩)
  · rename_i e hu; exact .inr (.inr ⟨rfl, e, hu⟩)
  · cases h

def kindT (P : Program) (t : TypeId) : Nat :=
  match P.underlying t with
  | some (.slice _) => 1
  | some (.func _ _ _) => 2
  | some (.pointer _) => 3
  | _ => 0

theorem kind_ok {w : World} {G : Gh} {h : Nat → AObj} {c : AVal} {v : Value} (hv : VR w G h c v) : (kindOf c = 1 → ∃ a l c, v = .slice a l c) ∧ (kindOf c = 2 → v = .nilFunc ∨ ∃ fn xs ys, v = .func fn xs ys) ∧ (kindOf c = 3 → ∃ a, v = .pointer a) := by
  cases c with
  | nil => exact ⟨fun _ => ⟨_, _, _, hv.nil_inv⟩, by simp [kindOf], by simp [kindOf]⟩
  | emp => obtain ⟨a, e⟩ := hv.emp_inv; exact ⟨fun _ => ⟨_, _, _, e⟩, by simp [kindOf], by simp [kindOf]⟩
  | sl k xs => obtain ⟨a, c, e, _⟩ := hv.sl_inv; exact ⟨fun _ => ⟨_, _, _, e⟩, by simp [kindOf], by simp [kindOf]⟩
  | row id st off len => obtain ⟨a, c, e, _⟩ := hv.row_inv; exact ⟨fun _ => ⟨_, _, _, e⟩, by simp [kindOf], by simp [kindOf]⟩
  | func g as bs => obtain ⟨xs, ys, e, _⟩ := hv.func_inv; exact ⟨by simp [kindOf], fun _ => .inr ⟨_, _, _, e⟩, by simp [kindOf]⟩
  | nfunc => exact ⟨by simp [kindOf], fun _ => .inl hv.nfunc_inv, by simp [kindOf]⟩
  | ptr id st i o => obtain ⟨a, e, _⟩ := hv.ptr_inv; exact ⟨by simp [kindOf], by simp [kindOf], fun _ => ⟨_, e⟩⟩
  | iptr cs o => obtain ⟨b, p, g, e, _⟩ := hv.iptr_inv; exact ⟨by simp [kindOf], by simp [kindOf], fun _ => ⟨_, e⟩⟩
  | nptr => exact ⟨by simp [kindOf], by simp [kindOf], fun _ => ⟨_, hv.nptr_inv⟩⟩
  | _ => exact ⟨by simp [kindOf], by simp [kindOf], by simp [kindOf]⟩

/-- The comparison with nil, whatever comes of it. -/
theorem run_binN {op : BinOp} {t t' : TypeId} {x z : Operand} {neq : Bool} (ho : o.op = .binOp op t x z t') (hop : op = if neq then .neq else .eql) (hz : nilKind P t z = true) {a : Go.Act} {w : World} {G : Gh} {h : Nat → AObj} {c : AVal}
    (hv : VR w G h c (a.eval x)) (hk : kindOf c = kindT P t) : (execOp a.eval o).run P w = .ok (.value (.bool (if neq then !(vNil (a.eval x)) else vNil (a.eval x)))) w := by
  obtain ⟨k1, k2, k3⟩ := kind_ok hv
  subst hop
  have core : ∀ w, (Op.equal t (a.eval x) (a.eval z)).run P w = .ok (vNil (a.eval x)) w ∧ (eqGuard (if neq then .neq else .eql) t x z (a.eval x) (a.eval z)).run P w = .ok () w ∧
      binOp (if neq then .neq else .eql) t (a.eval x) (a.eval z) = (if neq then (do pure (.bool (!(← Op.equal t (a.eval x) (a.eval z))))) else (do pure (.bool (← Op.equal t (a.eval x) (a.eval z))))) := by
    intro w
    rcases nilKind_ok hz (a := a) with ⟨ez, e, hu⟩ | ⟨ez, p, q, r, hu⟩ | ⟨ez, e, hu⟩
    · have : kindOf c = 1 := by rw [hk]; simp [kindT, hu]
      obtain ⟨ad, l, cap, ev⟩ := k1 this
      refine ⟨by rw [ez]; exact run_nilEq (.inl ⟨rfl, ⟨ad, l, cap, ev⟩, e, hu⟩), ?_, ?_⟩
      · rw [ev, ez]; cases neq <;> simp [eqGuard]
      · rw [ev, ez]; cases neq <;> rfl
    · have : kindOf c = 2 := by rw [hk]; simp [kindT, hu]
      have ev := k2 this
      refine ⟨by rw [ez]; exact run_nilEq (.inr (.inl ⟨rfl, ev, p, q, r, hu⟩)), ?_, ?_⟩
      · rcases ev with ev | ⟨fn, xs, ys, ev⟩ <;> rw [ev, ez] <;> cases neq <;> simp [eqGuard]
      · rcases ev with ev | ⟨fn, xs, ys, ev⟩ <;> rw [ev, ez] <;> cases neq <;> rfl
    · have : kindOf c = 3 := by rw [hk]; simp [kindT, hu]
      obtain ⟨ad, ev⟩ := k3 this
      refine ⟨by rw [ez]; exact run_nilEq (.inr (.inr ⟨rfl, ⟨ad, ev⟩, e, hu⟩)), ?_, ?_⟩
      · rw [ev, ez]; cases neq <;> simp [eqGuard]
      · rw [ev, ez]; cases neq <;> rfl
  obtain ⟨c1, c2, c3⟩ := core w
  cases neq
  · simp only [Bool.false_eq_true, if_false] at c2 c3 ho ⊢
    simp [execOp, ho, c2, c3, c1]
  · simp only [if_true] at c2 c3 ho ⊢
    simp [execOp, ho, c2, c3, c1]

theorem ok_binN {op : BinOp} {t t' : TypeId} {x z : Operand} {x' : SO} {neq b : Bool} (hd : o.dst = some d) (hn : d < n) (ho : o.op = .binOp op t x z t') (hop : op = if neq then .neq else .eql) (hz : nilKind P t z = true) (hx : co x = some x')
    (hk : kindOf (ev st.s x') = kindT P t) (hb : isNil (ev st.s x') = some b) (hrow : ∀ id q off len, ev st.s x' = .row id q off len → ∃ k t fu es, st.h id = .cells q k t fu es) :
    OpOk P n o st f ⟨some d, .bool (if neq then !b else b), [], [], []⟩ :=
  .val hd hn fun a w G hr => by
    have h := co_ok hr hx
    have h2 := isNil_ok hr h hb hrow
    exact ⟨_, run_binN ho hop hz h hk, by rw [h2]; exact .cl _ _ (.bool _)⟩

end

section
variable {P : Program} {n : Nat} {o : Oper} {st : St} {f d : Nat}

theorem elem_of {t e : TypeId} (h : P.underlying t = some (.slice e)) : P.underlying t = some (.slice (P.elem t)) ∧ P.elem t = e := by
  have : P.elem t = e := by simp [Program.elem, h]
  exact ⟨by rw [this]; exact h, this⟩

def OptCo : Option Operand → Option SO → Prop
  | none, none => True
  | some x, some x' => co x = some x'
  | _, _ => False

/-- A bound, as the machine has it. -/
theorem bound_ok {a : Go.Act} {w : World} {G : Gh} (hr : Rel n st a w G) {x : Option Operand} {x' : Option SO} (hx : OptCo x x') {m : Nat} {l : Int}
    (hb : bound st.s x' m = some l) : (x = none ∧ l = m) ∨ ∃ y k, x = some y ∧ a.eval y = .int k l := by
  cases x with
  | none => cases x' with
    | none => simp [bound] at hb; exact .inl ⟨rfl, hb.symm⟩
    | some _ => exact hx.elim
  | some y => cases x' with
    | none => exact hx.elim
    | some y' =>
      have h := co_ok hr (show co y = some y' from hx)
      unfold bound at hb
      simp only at hb
      split at hb
      · rename_i k m' e
        injection hb with hb; subst hb
        rw [e] at h
        exact .inr ⟨y, k, rfl, h.int_inv⟩
      · cases hb

theorem run_slc {t e : TypeId} {inf : TypeInfo} {w : World} (ht : P.underlying t = some (.slice e)) (hi : P.info? e = some inf) (ad : Option Addr) (len cap : Nat) (lo hi' : Option Value) (l h : Int)
    (h1 : (lo = none ∧ l = 0) ∨ ∃ k, lo = some (.int k l)) (h2 : (hi' = none ∧ h = len) ∨ ∃ k, hi' = some (.int k h)) (h0 : 0 ≤ l) (hlh : l ≤ h) (hc : h ≤ cap) :
    (Instr.sliceAt t (.slice ad len cap) lo hi' none).run P w = .ok (sliced ad l.toNat h.toNat cap inf.size) w := by
  obtain ⟨ht', he⟩ := elem_of ht
  have hs : (sizeOf (P.elem t)).run P w = .ok inf.size w := by rw [he]; simp [sizeOf, typeInfo, hi]
  rw [run_sliceAt_slice w t _ _ _ _ ht']
  rcases h1 with ⟨rfl, rfl⟩ | ⟨k, rfl⟩ <;> rcases h2 with ⟨rfl, rfl⟩ | ⟨k', rfl⟩
  · rw [run_slice_all w t ad len cap ht', hs]; simp
  · rw [run_slice_h w t ad len cap ht' k' h (by omega) hc, hs]; simp
  · rw [run_slice_l w t ad len cap ht' k l h0 (by omega), hs]; simp
  · rw [run_slice_lh w t ad len cap ht' k k' l h h0 hlh hc, hs]; simp

theorem ok_slc {t e : TypeId} {x : Operand} {lo hi' : Option Operand} {x' : SO} {lo' hi'' : Option SO} {inf : TypeInfo} {m : Nat} {c : AVal} {rd : List Nat} (hd : o.dst = some d) (hn : d < n) (ho : o.op = .slice t x lo hi' none)
    (ht : P.underlying t = some (.slice e)) (hi : P.info? e = some inf) (hk : 0 < inf.size) (hx : co x = some x') (hlo : OptCo lo lo')
    (hhi : OptCo hi' hi'') (hm : lenOf (ev st.s x') = some m)
    (hb : slcOf st.h inf.size (ev st.s x') (bound st.s lo' 0) (bound st.s hi'' m) false = some (c, rd)) : OpOk P n o st f ⟨some d, c, rd, [], []⟩ :=
  .val hd hn fun a w G hr => by
    have hv := co_ok hr hx
    unfold slcOf at hb
    split at hb
    · rename_i l h hl hh
      split at hb
      · rename_i hlh
        obtain ⟨h0, hlh⟩ := hlh
        have b1 := bound_ok hr hlo hl
        have b2 := bound_ok hr hhi hh
        have run : ∀ ad cap, a.eval x = .slice ad m cap → h ≤ cap → (execOp a.eval o).run P w = .ok (.value (sliced ad l.toNat h.toNat cap inf.size)) w := by
          intro ad cap ex hc
          have := run_slc (P := P) (w := w) ht hi ad m cap (lo.map a.eval) (hi'.map a.eval) l h
            (by rcases b1 with ⟨rfl, e⟩ | ⟨y, k, rfl, e⟩
                · exact .inl ⟨rfl, e⟩
                · exact .inr ⟨k, by simp [e]⟩)
            (by rcases b2 with ⟨rfl, e⟩ | ⟨y, k, rfl, e⟩
                · exact .inl ⟨rfl, e⟩
                · exact .inr ⟨k, by simp [e]⟩) h0 hlh hc
          simp [execOp, ho, ex, this]
        split at hb
        · rename_i hxe
          rw [hxe] at hv hm
          split at hb
          · rename_i hz
            injection hb with hb; injection hb with hb1 hb2; subst hb1
            simp [lenOf] at hm; subst hm
            have e : l = 0 := by omega
            refine ⟨_, run none 0 hv.nil_inv (by omega), ?_⟩
            have : sliced none l.toNat h.toNat 0 inf.size = .slice none 0 0 := by simp [sliced, e, hz]
            rw [this]
            exact .cl _ _ .nil
          · cases hb
        · rename_i hxe
          rw [hxe] at hv hm
          split at hb
          · rename_i hz
            injection hb with hb; injection hb with hb1 hb2; subst hb1
            simp [lenOf] at hm; subst hm
            have e : l = 0 := by omega
            obtain ⟨ad, ex⟩ := hv.emp_inv
            refine ⟨_, run ad 0 ex (by omega), ?_⟩
            have : sliced ad l.toNat h.toNat 0 inf.size = .slice ad 0 0 := by simp [sliced, e, hz]
            rw [this]
            exact .cl _ _ (.emp _)
          · cases hb
        · rename_i k' xs hxe
          rw [hxe] at hv hm
          split at hb
          · rename_i hcond
            obtain ⟨rfl, hle⟩ := hcond
            injection hb with hb; injection hb with hb1 hb2; subst hb1
            simp [lenOf] at hm; subst hm
            obtain ⟨ad, cap, ex, hcap, hsl⟩ := hv.sl_inv
            refine ⟨_, run ad cap ex (by omega), ?_⟩
            have hlen : ((xs.take h.toNat).drop l.toNat).length = h.toNat - l.toNat := by simp; omega
            by_cases hemp : h.toNat - l.toNat = 0
            · have : (xs.take h.toNat).drop l.toNat = [] := List.eq_nil_of_length_eq_zero (by omega)
              rw [this]
              simp only [sliced, hemp]
              exact .cl _ _ (.slz _ _ _)
            · rcases hsl with rfl | ⟨b, p, g, rfl, hI, hkk, hc, hrr⟩
              · simp at hle; omega
              · have : sliced (some ⟨b, p, none⟩) l.toNat h.toNat cap inf.size = .slice (some ⟨b, p + l.toNat * inf.size, none⟩) ((xs.take h.toNat).drop l.toNat).length (cap - l.toNat) := by
                  simp only [sliced, hlen]
                  rw [if_neg (by omega)]
                  simp [addr_add]
                rw [this]
                refine .cl _ _ (.sl inf.size _ b _ _ (fun i j => g (l.toNat + i) j) hI (by omega) (fun e he => hkk e (List.mem_of_mem_take (List.mem_of_mem_drop he))) (fun i e j c h1 h2 => ?_) fun i e j c h1 h2 => ?_)
                · rw [List.getElem?_drop, List.getElem?_take] at h1
                  split at h1
                  · have := hc _ _ _ _ h1 h2
                    rw [Nat.add_mul] at this
                    rw [← this]
                    congr 2
                    omega
                  · cases h1
                · rw [List.getElem?_drop, List.getElem?_take] at h1
                  split at h1
                  · exact hrr _ _ _ _ h1 h2
                  · cases h1
          · cases hb
        · rename_i id q off len hxe
          rw [hxe] at hv hm
          simp [lenOf] at hm
          subst hm
          unfold obj at hb
          split at hb
          · rename_i k0 t0 fu0 es0 hob
            split at hob
            · rename_i st' k' t' fu es hh2
              split at hob
              · rename_i hq
                obtain rfl : q = st' := hq.symm
                injection hob with hob; injection hob with e1 e2; injection e2 with e2 e3; injection e3 with e3 e4
                subst e1 e2 e3 e4
                split at hb
                · rename_i hcond
                  obtain ⟨hk1, hle⟩ := hcond
                  subst hk1
                  injection hb with hb; injection hb with hb1 hb2
                  simp at hb1
                  subst hb1
                  obtain ⟨ad, cap, ex, hfr, hro⟩ := hv.row_inv
                  obtain ⟨hln, hmm⟩ := (hro _ _ _ _ _ hh2).2 rfl
                  have hok := hr.heap.obj id
                  rw [hh2] at hok
                  obtain ⟨_, _, hok⟩ := hok
                  have hcapC : h ≤ cap := by
                    rcases hmm with ⟨hn0, h1, h2⟩ | ⟨b, C, hM, hcap, hC⟩
                    · rcases hok with ⟨_, h4⟩ | ⟨b', C', cs, hM', _⟩
                      · have : es.length = 0 := by rw [h4]; rfl
                        omega
                      · rw [hn0] at hM'; cases hM'
                    · rcases hok with ⟨h3, _⟩ | ⟨b', C', cs, hM', _, _, _, hle', _⟩
                      · rw [hM] at h3; cases h3
                      · rw [hM] at hM'; cases hM'; omega
                  refine ⟨_, run ad cap ex hcapC, ?_⟩
                  simp only [sliced]
                  refine .row _ _ _ _ _ _ hfr fun st' k t fu' es' h' => ?_
                  obtain ⟨g1, g2⟩ := hro _ _ _ _ _ h'
                  refine ⟨g1, fun e => ?_⟩
                  obtain ⟨g3, g4⟩ := g2 e
                  rw [hh2] at h'
                  injection h' with e1 e2 e3 e4 e5
                  subst e2 e5
                  refine ⟨by omega, ?_⟩
                  rcases g4 with ⟨hn0, h1, h2⟩ | ⟨b, C, hM, hcap, hC⟩
                  · exact .inl ⟨hn0, by omega, by omega⟩
                  · refine .inr ⟨b, C, hM, ?_, by omega⟩
                    by_cases hz : cap - l.toNat = 0
                    · exact .inl hz
                    · right
                      rw [if_neg (by omega)]
                      rcases hcap with hcap | hcap
                      · omega
                      · rw [hcap]
                        simp [addr_add, Nat.add_mul]
                · cases hb
              · cases hob
            · cases hob
          · cases hb
        · cases hb
      · cases hb
    · cases hb

theorem ok_slS {t : TypeId} {x : Operand} {lo hi' : Option Operand} {x' : SO} {lo' hi'' : Option SO} {s : ByteArray} {l h : Int} (hd : o.dst = some d) (hn : d < n) (ho : o.op = .slice t x lo hi' none)
    (ht : P.underlying t = some .string) (hx : co x = some x') (hlo : OptCo lo lo')
    (hhi : OptCo hi' hi'') (hs : ev st.s x' = .str s) (hl : bound st.s lo' 0 = some l) (hh : bound st.s hi'' s.size = some h)
    (h0 : 0 ≤ l) (hlh : l ≤ h) (hc : h ≤ s.size) : OpOk P n o st f ⟨some d, .str (s.extract l.toNat h.toNat), [], [], []⟩ :=
  .val hd hn fun a w G hr => by
    have hv := co_ok hr hx
    rw [hs] at hv
    have b1 := bound_ok hr hlo hl
    have b2 := bound_ok hr hhi hh
    refine ⟨_, ?_, .cl _ _ (.str _)⟩
    have eh : (h.toNat : Int) = h := Int.toNat_of_nonneg (by omega)
    have hc' : h.toNat ≤ s.size := by omega
    rcases b1 with ⟨rfl, rfl⟩ | ⟨y, k, rfl, e1⟩ <;> rcases b2 with ⟨rfl, rfl⟩ | ⟨y', k', rfl, e2⟩
    · simp [execOp, ho, hv.str_inv, Instr.sliceAt, run_underlying ht, Instr.slice, Instr.sliceBounds]
    · have h00 : 0 ≤ h := by omega
      simp [execOp, ho, hv.str_inv, e2, Instr.sliceAt, run_underlying ht, Instr.slice, Instr.sliceBounds, run_sliceBound, h00, hc]
    · simp [execOp, ho, hv.str_inv, e1, Instr.sliceAt, run_underlying ht, Instr.slice, Instr.sliceBounds, run_sliceBound, h0, hlh]
    · simp [execOp, ho, hv.str_inv, e1, e2, Instr.sliceAt, run_underlying ht, Instr.slice, Instr.sliceBounds, run_sliceBound, h0, hlh, (by omega : 0 ≤ h), hc, eh]

theorem strNums_ok : ∀ {es : List (List AVal)} {ns : List Int}, strNums es = some ns → es = ns.map fun m => [.int .u8 m]
  | [], ns, h => by simp [strNums] at h; subst h; rfl
  | e :: es, ns, h => by
    unfold strNums at h
    split at h
    · rename_i he; cases he
    · rename_i m es' he
      injection he with h1 h2
      subst h1 h2
      split at h
      · rename_i bs hbs
        injection h with h; subst h
        simp [strNums_ok hbs]
      · cases h
    · cases h

theorem ok_strof {s t e : TypeId} {x : Operand} {x' : SO} {es : List (List AVal)} {rd rd' : List Nat} {ns : List Int} (hd : o.dst = some d) (hn : d < n) (ho : o.op = .convert s t x) (hs : P.underlying s = some (.slice e)) (he : P.underlying e = some (.int .u8))
    (ht : P.underlying t = some .string) (hx : co x = some x') (hc : conts st.h 1 (ev st.s x') = some (es, rd)) (hns : strNums es = some ns) : OpOk P n o st f ⟨some d, .str (strOfNums ns), rd', [], []⟩ :=
  .val hd hn fun a w G hr => by
    have hv := co_ok hr hx
    obtain ⟨ad, cap, ex, hlen, L⟩ := conts_ok hr hv hc
    have hes := strNums_ok hns
    refine ⟨.string (strOfNums ns), ?_, .cl _ _ (.str _)⟩
    rcases L with hz | ⟨b, p, g, rfl, hg⟩
    · have hn0 : ns = [] := by rw [hz] at hes; simpa using hes.symm
      subst hn0
      cases ad with
      | none =>
        rw [hz] at ex
        simp [execOp, ho, ex, run_convert_bytes_nil w s e hs he _ _ t ht]
        rfl
      | some ad =>
        obtain ⟨b, p, sp⟩ := ad
        rw [hz] at ex
        have : (convert s t (.slice (some ⟨b, p, sp⟩) 0 cap)).run P w = .ok (.string (strOfNums [])) w := by
          rw [run_convert_bytes_string w s t e _ 0 cap hs he ht]
          simp [Conv.bytesToString, loadCells, loadCellsFrom]
          rfl
        simp [execOp, ho, ex, this]
    · have := run_convert_bytes_arg (P := P) w s e hs he b p es.length cap ns (by rw [hes]; simp) (fun i hi => by
        have hil : i < ns.length := by rw [hes] at hi; simpa using hi
        have h1 : es[i]? = some [.int .u8 ns[i]] := by rw [hes]; simp [hil]
        obtain ⟨c1, c2, _⟩ := hg i _ 0 _ h1 rfl
        have c3 := c2.int_inv
        rw [c3] at c1
        simp only [Nat.mul_one, Nat.add_zero] at c1
        rw [c1]
        simp [List.getD, hil]) t ht
      simp [execOp, ho, ex, this]

end

/-- The kinds of the cells of a struct of plain fields, that lie one behind the other. -/
def eqFs (P : Program) (rec : List Field → Option (List Nat)) : List Field → Nat → Option (List Nat)
  | [], _ => some []
  | f :: fs, off => if f.name ≠ "_" ∧ f.offset = off then
      match P.underlying f.type with
      | some (.int _) => (eqFs P rec fs (off + 1)).map (1 :: ·)
      | some .bool => (eqFs P rec fs (off + 1)).map (2 :: ·)
      | some .string => (eqFs P rec fs (off + 1)).map (3 :: ·)
      | some (.struct gs) => match rec gs.toList, P.info? f.type with
        | some ks, some inf => if ks.length = inf.size ∧ P.stoodInHeld f.type = false then (eqFs P rec fs (off + ks.length)).map (ks ++ ·) else none
        | _, _ => none
      | _ => none
    else none

def eqF (P : Program) : Nat → List Field → Option (List Nat)
  | 0, fs => eqFs P (fun _ => none) fs 0
  | n + 1, fs => eqFs P (eqF P n) fs 0

theorem eqCells_split : ∀ {ks1 ks2 : List Nat} {as bs : List AVal} {b : Bool}, eqCells (ks1 ++ ks2) as bs = some b → ∃ x y, eqCells ks1 (as.take ks1.length) (bs.take ks1.length) = some x ∧ eqCells ks2 (as.drop ks1.length) (bs.drop ks1.length) = some y ∧ b = (x && y)
  | [], ks2, as, bs, b, h => ⟨true, b, by simp [eqCells], by simpa using h, by simp⟩
  | k :: ks1, ks2, as, bs, b, h => by
    cases as with
    | nil => simp [eqCells] at h
    | cons a as =>
      cases bs with
      | nil => simp [eqCells] at h
      | cons c bs =>
        simp only [List.cons_append, eqCells] at h
        split at h
        · rename_i x hx
          split at h
          · rename_i y hy
            injection h with h
            obtain ⟨x', y', h1, h2, h3⟩ := eqCells_split hy
            refine ⟨x && x', y', ?_, by simpa using h2, ?_⟩
            · simp [eqCells, hx, h1]
            · rw [← h, h3, Bool.and_assoc]
          · cases h
        · cases h

theorem eqCells_length : ∀ {ks : List Nat} {as bs : List AVal} {b : Bool}, eqCells ks as bs = some b → as.length = ks.length ∧ bs.length = ks.length
  | [], as, bs, b, h => by cases as <;> cases bs <;> simp [eqCells] at h ⊢
  | k :: ks, as, bs, b, h => by
    cases as with
    | nil => simp [eqCells] at h
    | cons a as =>
      cases bs with
      | nil => simp [eqCells] at h
      | cons c bs =>
        simp only [eqCells] at h
        split at h
        · split at h
          · rename_i hy
            obtain ⟨h1, h2⟩ := eqCells_length hy
            exact ⟨by simp [h1], by simp [h2]⟩
          · cases h
        · cases h

section
variable {P : Program} {w : World} {G : Gh} {h : Nat → AObj}

/-- Cells lie in a row, from a place on. -/
def At (w : World) (G : Gh) (h : Nat → AObj) (xs : Array Value) (off : Nat) (as : List AVal) : Prop := ∀ (j : Nat) c, as[j]? = some c → ∃ v, xs[off + j]? = some v ∧ VR w G h c v

theorem run_part1 {t : TypeId} {xs : Array Value} {off : Nat} {v : Value} {ds : TypeDesc} (hu : P.underlying t = some ds) (ha : isAg P t = false) (hv : xs[off]? = some v) : (part t xs off).run P w = .ok v w := by
  unfold part
  rw [Sem.run_bind, run_isAg hu w, ha]
  simp [hv]

theorem eqFs_ok (rec : List Field → Option (List Nat)) (dmin : Nat) (hrec : ∀ gs ks, rec gs = some ks → ∀ d xs ys as bs b, At w G h xs 0 as → At w G h ys 0 bs → eqCells ks as bs = some b → (Op.eqFields (d + dmin + 1) xs ys gs).run P w = .ok b w) :
    ∀ (fs : List Field) (off : Nat) (ks : List Nat), eqFs P rec fs off = some ks → ∀ d xs ys as bs b, At w G h xs off as → At w G h ys off bs → eqCells ks as bs = some b → (Op.eqFields (d + dmin + 2) xs ys fs).run P w = .ok b w
  | [], off, ks, he, d, xs, ys, as, bs, b, h1, h2, h3 => by
    simp [eqFs] at he; subst he
    cases as <;> cases bs <;> simp [eqCells] at h3
    subst h3
    simp [Op.eqFields]
  | f :: fs, off, ks, he, d, xs, ys, as, bs, b, h1, h2, h3 => by
    unfold eqFs at he
    split at he
    · rename_i hc
      obtain ⟨hn, ho⟩ := hc
      have one : ∀ (k : Nat) (ds : TypeDesc), P.underlying f.type = some ds → isAg P f.type = false → (eqFs P rec fs (off + 1)).map (k :: ·) = some ks →
          (∀ u v x, eqCell k u v = some x → ∀ u' v', VR w G h u u' → VR w G h v v' → (Op.equalIn (d + dmin + 2) f.type u' v').run P w = .ok x w) → (Op.eqFields (d + dmin + 2) xs ys (f :: fs)).run P w = .ok b w := by
        intro k ds hu hag hm hcell
        obtain ⟨ks', hk', rfl⟩ : ∃ ks', eqFs P rec fs (off + 1) = some ks' ∧ k :: ks' = ks := by simpa using hm
        cases as with
        | nil => simp [eqCells] at h3
        | cons u as =>
          cases bs with
          | nil => simp [eqCells] at h3
          | cons v bs =>
            simp only [eqCells] at h3
            split at h3
            · rename_i x hx
              split at h3
              · rename_i y hy
                injection h3 with h3
                obtain ⟨u', hu1, hu2⟩ := h1 0 u rfl
                obtain ⟨v', hv1, hv2⟩ := h2 0 v rfl
                rw [Nat.add_zero] at hu1 hv1
                have r1 := hcell u v x hx u' v' hu2 hv2
                have r2 := eqFs_ok rec dmin hrec fs (off + 1) ks' hk' d xs ys as bs y (fun j c hj => by have := h1 (j + 1) c (by simpa using hj); rwa [← Nat.add_assoc, Nat.add_right_comm] at this)
                  (fun j c hj => by have := h2 (j + 1) c (by simpa using hj); rwa [← Nat.add_assoc, Nat.add_right_comm] at this) hy
                simp only [Op.eqFields, hn, ne_eq, not_false_eq_true, if_true, Sem.run_bind, ho, run_part1 hu hag hu1, run_part1 hu hag hv1, r1, Result.andThen_ok]
                cases x with
                | false => simp [← h3]
                | true => simpa [← h3] using r2
              · cases h3
            · cases h3
      split at he
      · rename_i q hu
        refine one 1 _ hu (by simp [isAg, hu]) he fun u v x hx u' v' hu' hv' => ?_
        unfold eqCell at hx
        split at hx
        · split at hx
          · rename_i hq
            obtain ⟨_, rfl⟩ := hq
            injection hx with hx; subst hx
            rw [hu'.int_inv, hv'.int_inv, run_equalIn_int w _ _ _ _ _ _ hu]
            congr 1
          · cases hx
        · simp at hx
        · simp at hx
        · cases hx
      · rename_i hu
        refine one 2 _ hu (by simp [isAg, hu]) he fun u v x hx u' v' hu' hv' => ?_
        unfold eqCell at hx
        split at hx
        · simp at hx
        · simp at hx
          subst hx
          rw [hu'.bool_inv, hv'.bool_inv, run_equalIn_bool' w _ _ _ _ hu]
        · simp at hx
        · cases hx
      · rename_i hu
        refine one 3 _ hu (by simp [isAg, hu]) he fun u v x hx u' v' hu' hv' => ?_
        unfold eqCell at hx
        split at hx
        · simp at hx
        · simp at hx
        · simp at hx
          subst hx
          rw [hu'.str_inv, hv'.str_inv, run_equalIn_string w _ _ _ _ hu]
          congr 1
          exact bytes_beq _ _
        · cases hx
      · rename_i gs hu
        split at he
        · rename_i ks1 inf hk1 hi
          split at he
          · rename_i hc
            obtain ⟨ks', hk', rfl⟩ : ∃ ks', eqFs P rec fs (off + ks1.length) = some ks' ∧ ks1 ++ ks' = ks := by simpa using he
            obtain ⟨x, y, e1, e2, e3⟩ := eqCells_split h3
            obtain ⟨hsz, hst⟩ := hc
            have hlen1 : (as.take ks1.length).length = ks1.length ∧ (bs.take ks1.length).length = ks1.length := eqCells_length e1
            have sub : ∀ (zs : Array Value) (cs : List AVal), At w G h zs off cs → (cs.take ks1.length).length = ks1.length → ∃ us : Array Value, (part f.type zs off).run P w = .ok (.agg us) w ∧ At w G h us 0 (cs.take ks1.length) := by
              intro zs cs hcs hl
              refine ⟨zs.extract off (off + inf.size), ?_, fun j c hj => ?_⟩
              · unfold part
                rw [Sem.run_bind, run_isAg hu w]
                simp [isAg, hu, sizeOf, typeInfo, hi]
              · rw [List.getElem?_take] at hj
                split at hj
                · rename_i hlt
                  obtain ⟨v, hv1, hv2⟩ := hcs j c hj
                  refine ⟨v, ?_, hv2⟩
                  have hlt' : off + j < zs.size := (Array.getElem?_eq_some_iff.1 hv1).1
                  rw [Nat.zero_add, Array.getElem?_extract]
                  rw [if_pos (by omega)]
                  exact hv1
                · cases hj
            obtain ⟨us, p1, q1⟩ := sub xs as h1 hlen1.1
            obtain ⟨vs, p2, q2⟩ := sub ys bs h2 hlen1.2
            have hf : P.underlying f.type = some (.struct (P.fieldsOf f.type)) ∧ P.fieldsOf f.type = gs := by
              have : P.fieldsOf f.type = gs := by simp [Program.fieldsOf, hu]
              exact ⟨by rw [this]; exact hu, this⟩
            have r1 : (Op.equalIn (d + dmin + 2) f.type (.agg us) (.agg vs)).run P w = .ok x w := by
              rw [show d + dmin + 2 = (d + dmin + 1) + 1 from rfl, run_equalIn_struct w _ _ _ _ hf.1 hst, hf.2]
              exact hrec _ _ hk1 d us vs _ _ x q1 q2 e1
            have r2 := eqFs_ok rec dmin hrec fs (off + ks1.length) ks' hk' d xs ys (as.drop ks1.length) (bs.drop ks1.length) y
              (fun j c hj => by rw [List.getElem?_drop] at hj; have := h1 _ c hj; rwa [← Nat.add_assoc] at this)
              (fun j c hj => by rw [List.getElem?_drop] at hj; have := h2 _ c hj; rwa [← Nat.add_assoc] at this) e2
            simp only [Op.eqFields, hn, ne_eq, not_false_eq_true, if_true, Sem.run_bind, ho, p1, p2, r1, Result.andThen_ok]
            rw [e3]
            cases x with
            | false => simp
            | true => simpa using r2
          · cases he
        · cases he
      · cases he
    · cases he

theorem eqF_ok : ∀ (n : Nat) (fs : List Field) (ks : List Nat), eqF P n fs = some ks → ∀ d xs ys as bs b, At w G h xs 0 as → At w G h ys 0 bs → eqCells ks as bs = some b → (Op.eqFields (d + n + 2) xs ys fs).run P w = .ok b w
  | 0, fs, ks, he, d, xs, ys, as, bs, b, h1, h2, h3 => eqFs_ok (fun _ => none) 0 (fun _ _ h => by cases h) fs 0 ks he d xs ys as bs b h1 h2 h3
  | n + 1, fs, ks, he, d, xs, ys, as, bs, b, h1, h2, h3 =>
    eqFs_ok (eqF P n) (n + 1) (fun gs ks hk d xs ys as bs b h1 h2 h3 => eqF_ok n gs ks hk d xs ys as bs b h1 h2 h3) fs 0 ks he d xs ys as bs b h1 h2 h3
end

/-- The kinds of the cells of a type of plain structs. -/
def kindsOf (P : Program) (t : TypeId) : Option (List Nat) :=
  match P.underlying t with
  | some (.struct gs) => if P.stoodInHeld t = false ∧ P.eqGuardType P.depth t = false then eqF P 2 gs.toList else none
  | _ => none

section
variable {P : Program} {n : Nat} {o : Oper} {st : St} {f d : Nat}
theorem ok_binA {op : BinOp} {t t' : TypeId} {x y : Operand} {x' y' : SO} {c : AVal} {neq : Bool} {ks : List Nat} (hd : o.dst = some d) (hn : d < n) (ho : o.op = .binOp op t x y t')
    (hop : op = if neq then .neq else .eql) (ht : kindsOf P t = some ks) (hx : co x = some x') (hy : co y = some y')
    (hb : binAgg neq ks (ev st.s x') (ev st.s y') = some c) : OpOk P n o st f ⟨some d, c, [], [], []⟩ :=
  .val hd hn fun a w G hr => by
    have hx' := co_ok hr hx
    have hy' := co_ok hr hy
    unfold binAgg at hb
    split at hb
    · rename_i as bs ea eb
      split at hb
      · rename_i b hcs
        injection hb with hb
        rw [ea] at hx'; rw [eb] at hy'
        obtain ⟨us, eu, lu, _, vu⟩ := hx'.agg_inv
        obtain ⟨vs, ev', lv, _, vv⟩ := hy'.agg_inv
        unfold kindsOf at ht
        split at ht
        · rename_i gs hu
          split at ht
          · rename_i hc
            have hf : P.underlying t = some (.struct (P.fieldsOf t)) ∧ P.fieldsOf t = gs := by
              have : P.fieldsOf t = gs := by simp [Program.fieldsOf, hu]
              exact ⟨by rw [this]; exact hu, this⟩
            have at1 : ∀ (zs : Array Value) (cs : List AVal), cs.length = zs.size → (∀ (j : Nat) c v, cs[j]? = some c → zs[j]? = some v → VR w G st.h c v) → At w G st.h zs 0 cs := by
              intro zs cs hl hv j c hj
              have hlt : j < zs.size := by have := (List.getElem?_eq_some_iff.1 hj).1; omega
              exact ⟨zs[j], by simp [hlt], hv j c _ hj (Array.getElem?_eq_getElem hlt)⟩
            have r1 : (Op.equalIn 10000 t (.agg us) (.agg vs)).run P w = .ok b w := by
              rw [show 10000 = (9995 + 2 + 2) + 1 from rfl, run_equalIn_struct w _ _ _ _ hf.1 hc.1, hf.2]
              exact eqF_ok 2 gs.toList ks ht 9995 us vs as bs b (at1 us as lu vu) (at1 vs bs lv vv) hcs
            refine ⟨.bool (if neq then !b else b), ?_, by rw [← hb]; exact .cl _ _ (.bool _)⟩
            subst hop
            cases neq
            · simp [execOp, ho, eu, ev', run_eqGuard_agg w _ _ _ _ _ _ hc.2, run_eql_struct, r1]
            · simp [execOp, ho, eu, ev', run_eqGuard_agg w _ _ _ _ _ _ hc.2, run_neq_struct, r1]
          · cases ht
        · cases ht
      · cases hb
    · cases hb
end

/-- A part of a row is written over. -/
theorem HR.splice {w : World} {G : Gh} {h : Nat → AObj} (hr : HR w G h) {id q k b C : Nat} {t : TypeId} {fu : Bool} {es : List (List AVal)} (hid : h id = .cells q k t fu es) (hM : G.M id = some (b, C)) {off : Nat} {zs : List (List AVal)} {us : List Value}
    (hoff : off + zs.length ≤ es.length) (hlen : us.length = zs.length * k) (h1 : ∀ u ∈ us, u.oneCell' = true) (hT : Told w G h k zs us) (hz : ∀ e ∈ zs, e.length = k) :
    ∃ cs : Array Value, w.heap[b]? = some (.cells cs t (0, 0)) ∧ off * k + us.length ≤ cs.size ∧
      HR (w.setRow b (cs.toList.take (off * k) ++ us ++ cs.toList.drop (off * k + us.length)).toArray) G (upd h id (.cells q k t fu (es.take off ++ zs ++ es.drop (off + zs.length)))) ∧
      Tr w G h (w.setRow b (cs.toList.take (off * k) ++ us ++ cs.toList.drop (off * k + us.length)).toArray) G (upd h id (.cells q k t fu (es.take off ++ zs ++ es.drop (off + zs.length)))) := by
  have hok := hr.obj id
  rw [hid] at hok
  obtain ⟨hk, hel, hok⟩ := hok
  rcases hok with ⟨h3, _⟩ | ⟨b', C', cs, hM', hI, hg, hs, hle, hfu, hC, hone, hv⟩
  · rw [hM] at h3; cases h3
  · rw [hM] at hM'; cases hM'
    have hfit : off * k + us.length ≤ es.length * k := by
      rw [hlen, ← Nat.add_mul]; exact Nat.mul_le_mul_right _ hoff
    have hfit2 : es.length * k ≤ cs.size := by rw [hs]; exact Nat.mul_le_mul_right _ hle
    have hTe : Told w G h k es cs.toList := fun i e j c u a1 a2 a3 => hv i e j c u a1 a2 (by simpa using a3)
    have elen : (es.take off ++ zs ++ es.drop (off + zs.length)).length = es.length := by simp; omega
    have hE1 : ∀ e ∈ es.take off, e.length = k := fun e he => hel e (List.mem_of_mem_take he)
    have hE3 : ∀ e ∈ es.drop (off + zs.length), e.length = k := fun e he => hel e (List.mem_of_mem_drop he)
    have hE : ∀ e ∈ es.take off ++ zs ++ es.drop (off + zs.length), e.length = k := fun e he => by
      rcases List.mem_append.1 he with h | h
      · rcases List.mem_append.1 h with h | h
        · exact hE1 e h
        · exact hz e h
      · exact hE3 e h
    have htl : (es.take off).length = off := by simp; omega
    have hT1 : Told w G h k (es.take off ++ zs) (cs.toList.take (off * k) ++ us) :=
      Told.append hE1 hz (by rw [htl]; simp; omega) (hTe.take hel off) hT
    have hT2 : Told w G h k (es.take off ++ zs ++ es.drop (off + zs.length)) (cs.toList.take (off * k) ++ us ++ cs.toList.drop (off * k + us.length)) := by
      refine Told.append (fun e he => hE e (List.mem_append_left _ he)) hE3 ?_ hT1 ?_
      · simp [htl, hlen, Nat.add_mul]; omega
      · have := hTe.drop (off + zs.length)
        rwa [Nat.add_mul, ← hlen] at this
    have hsz : (cs.toList.take (off * k) ++ us ++ cs.toList.drop (off * k + us.length)).length = cs.size := by simp; omega
    obtain ⟨q1, q2, q3⟩ := hr.change (st' := q) (fu' := fu) (es' := es.take off ++ zs ++ es.drop (off + zs.length)) (cs' := (cs.toList.take (off * k) ++ us ++ cs.toList.drop (off * k + us.length)).toArray) hid hM hg (Nat.le_refl _)
      (fun _ => by rw [elen]; exact Nat.le_refl _) hE (by simpa [hs] using hsz.trans hs) (by rw [elen]; exact hle) (fun e => by rw [elen]; exact hfu e)
      (fun j v hj => by
        have hj' : (cs.toList.take (off * k) ++ us ++ cs.toList.drop (off * k + us.length))[j]? = some v := by simpa using hj
        have hmem := List.mem_of_getElem? hj'
        rcases List.mem_append.1 hmem with h | h
        · rcases List.mem_append.1 h with h | h
          · obtain ⟨m, hm⟩ := List.mem_iff_getElem?.1 (List.mem_of_mem_take h)
            exact hone m v (by simpa using hm)
          · exact h1 v h
        · obtain ⟨m, hm⟩ := List.mem_iff_getElem?.1 (List.mem_of_mem_drop h)
          exact hone m v (by simpa using hm))
      (fun i e j c v a1 a2 a3 => hT2 i e j c v a1 a2 (by simpa using a3))
    exact ⟨cs, hg, by omega, q1, q3⟩

theorem obj_inv' {h : Nat → AObj} {id q k : Nat} {t : TypeId} {fu : Bool} {es : List (List AVal)} (e : obj h id q = some (k, t, fu, es)) : h id = .cells q k t fu es := by
  unfold obj at e
  split at e
  · rename_i hh
    split at e
    · rename_i h1; subst h1; injection e with e; injection e with e1 e; injection e with e2 e; injection e with e3 e4; subst e1 e2 e3 e4; exact hh
    · cases e
  · cases e

section
variable {P : Program} {n : Nat} {o : Oper} {st : St} {f : Nat}

theorem Rel.putAny {a : Go.Act} {w : World} {G : Gh} (hr : Rel n st a w G) {d : Option Nat} {c : AVal} {v : Value} (hd : ∀ t, d = some t → t < n) (hv : VR w G st.h c v) {rd : List Nat} : Rel n ⟨Eff.slots ⟨d, c, rd, [], []⟩ st.s, st.h⟩ (a.put d v) w G := by
  cases d with
  | none => exact hr
  | some t => exact hr.put (hd t rfl) hv

theorem run_copy {t u ty e : TypeId} {inf : TypeInfo} {w w' : World} (ht : P.underlying t = some (.slice e)) (hi : P.info? e = some inf) {bx ad : Option Addr} {lx cx ly cy : Nat} {cells : List Value}
    (hf : (Builtin.firstCells inf.size (min ly lx) (.slice ad ly cy)).run P w = .ok cells.toArray w) (hs : (bx = none ∧ w' = w) ∨ ∃ a, bx = some a ∧ (storeCells a cells).run P w = .ok () w') :
    (Builtin.copy_ #[t, u] ty #[.slice bx lx cx, .slice ad ly cy]).run P w = .ok (.int .i64 (min ly lx : Nat)) w' := by
  have hf' : (Builtin.firstCells inf.size (ly.min lx) (.slice ad ly cy)).run P w = .ok cells.toArray w := hf
  rcases hs with ⟨rfl, rfl⟩ | ⟨a, rfl, hs⟩
  · simp [Builtin.copy_, run_underlying ht, sizeOf, typeInfo, hi, Builtin.lenOf, hf', goInt]
  · simp [Builtin.copy_, run_underlying ht, sizeOf, typeInfo, hi, Builtin.lenOf, hf', hs, goInt]

theorem ok_cpy {t u e : TypeId} {x y : Operand} {x' y' : SO} {inf : TypeInfo} {ef : Eff} (hdn : ∀ d, o.dst = some d → d < n) (ho : o.op = .call { callee := .builtin .copy, args := #[x, y], argTypes := #[t, u] })
    (ht : P.underlying t = some (.slice e)) (hi : P.info? e = some inf) (hk : 0 < inf.size) (hx : co x = some x') (hy : co y = some y') (hap : astep (.cpy o.dst inf.size x' y') st f = some ef) : OpOk P n o st f ef := by
  intro a w G hr
  have hvx := co_ok hr hx
  have hvy := co_ok hr hy
  simp only [astep] at hap
  split at hap
  · rename_i ys rd hc
    obtain ⟨ad, capy, ey, hlen, L⟩ := conts_ok hr hvy hc
    obtain ⟨us, hul, hu1, hu2, hu3⟩ := Lies.list hk hlen L
    have hexec : ∀ v w', (Builtin.copy_ #[t, u] o.type #[a.eval x, a.eval y]).run P w = .ok v w' → (execOp a.eval o).run P w = .ok (.value v) w' := fun v w' h => by
      simp [execOp, ho, resolve, invoke, builtin, h]
    -- the first cells
    have hfirst : ∀ m, m ≤ ys.length → (Builtin.firstCells inf.size m (.slice ad ys.length capy)).run P w = .ok (us.take (m * inf.size)).toArray w := by
      intro m hm
      have hm' : m * inf.size ≤ us.length := by rw [hul]; exact Nat.mul_le_mul_right _ hm
      cases ad with
      | none =>
        rw [run_firstCells_none]
        have : ys = [] := by
          rcases L with h | ⟨b, p, g, h, _⟩
          · exact h
          · cases h
        subst this
        have : m = 0 := by simpa using hm
        subst this
        simp
      | some ad =>
        rw [run_firstCells_some w inf.size m ad ys.length capy (us.take (m * inf.size)) (by simp; omega)]
        intro j v hj
        rw [List.getElem?_take] at hj
        split at hj
        · obtain ⟨ad', e1, e2⟩ := hu1 j v hj
          cases e1
          exact e2
        · cases hj
    have zero : ∀ bx cx, a.eval x = .slice bx 0 cx → (Builtin.copy_ #[t, u] o.type #[a.eval x, a.eval y]).run P w = .ok (.int .i64 0) w := by
      intro bx cx ex
      rw [ex, ey]
      have := run_copy (P := P) (u := u) (ty := o.type) (w := w) (w' := w) (bx := bx) (lx := 0) (cx := cx) (cy := capy) ht hi (by have := hfirst 0 (Nat.zero_le _); simpa using this : (Builtin.firstCells inf.size (min ys.length 0) (.slice ad ys.length capy)).run P w = .ok ([] : List Value).toArray w)
        (by cases bx with | none => exact .inl ⟨rfl, rfl⟩ | some a => exact .inr ⟨a, rfl, by simp [storeCells]⟩)
      simpa using this
    split at hap
    · rename_i hx0
      injection hap with hap; subst hap
      rw [hx0] at hvx
      refine ⟨_, w, G, .inl (hexec _ _ (zero none 0 hvx.nil_inv)), ?_, by rw [Eff.heap_nil]; exact Tr.refl _ _ _⟩
      simp only [Eff.app, Eff.heap_nil]
      exact hr.putAny hdn (.cl _ _ (.int _ _))
    · rename_i hx0
      injection hap with hap; subst hap
      rw [hx0] at hvx
      obtain ⟨bx, ex⟩ := hvx.emp_inv
      refine ⟨_, w, G, .inl (hexec _ _ (zero bx 0 ex)), ?_, by rw [Eff.heap_nil]; exact Tr.refl _ _ _⟩
      simp only [Eff.app, Eff.heap_nil]
      exact hr.putAny hdn (.cl _ _ (.int _ _))
    · rename_i id q off len hx0
      split at hap
      · rename_i k' t' fu es hob
        split at hap
        · rename_i hk'
          subst hk'
          injection hap with hap; subst hap
          rw [hx0] at hvx
          have hh := obj_inv' hob
          obtain ⟨ax, cap, ex, hf, hro⟩ := hvx.row_inv
          obtain ⟨hle, hm⟩ := (hro _ _ _ _ _ hh).2 rfl
          have hok := hr.heap.obj id
          rw [hh] at hok
          obtain ⟨_, hel, hok⟩ := hok
          by_cases h0 : min ys.length len = 0
          · have hsame : upd st.h id (.cells q inf.size t' fu es) = st.h := by
              funext i
              by_cases e : i = id
              · subst e; rw [upd_same, hh]
              · rw [upd_ne _ _ e]
            have hrun : (Builtin.copy_ #[t, u] o.type #[a.eval x, a.eval y]).run P w = .ok (.int .i64 0) w := by
              rw [ex, ey]
              have := run_copy (P := P) (u := u) (ty := o.type) (w := w) (w' := w) (bx := ax) (lx := len) (cx := cap) (cy := capy) ht hi (by have := hfirst 0 (Nat.zero_le _); rw [h0]; simpa using this : (Builtin.firstCells inf.size (min ys.length len) (.slice ad ys.length capy)).run P w = .ok ([] : List Value).toArray w)
                (by cases ax with | none => exact .inl ⟨rfl, rfl⟩ | some a => exact .inr ⟨a, rfl, by simp [storeCells]⟩)
              rw [h0] at this
              simpa using this
            refine ⟨_, w, G, .inl (hexec _ _ hrun), ?_, ?_⟩
            · simp only [h0, Nat.add_zero, List.take_zero, List.append_nil, List.take_append_drop, Eff.app, Eff.heap_wr, hsame]
              exact hr.putAny (rd := id :: rd) hdn (.cl _ _ (.int _ _))
            · simp only [h0, Nat.add_zero, List.take_zero, List.append_nil, List.take_append_drop, Eff.heap_wr, hsame]
              exact Tr.refl _ _ _
          · rcases hm with ⟨_, h1, _⟩ | ⟨b, C, hM, hcap, hC⟩
            · omega
            · have hax : ax = some ⟨b, off * inf.size, none⟩ := by
                rcases hcap with hcap | hcap
                · rcases hok with ⟨h3, _⟩ | ⟨b', C', cs, hM', _, _, _, hle', _⟩
                  · rw [hM] at h3; cases h3
                  · rw [hM] at hM'; cases hM'; omega
                · exact hcap
              have hzl : (ys.take (min ys.length len)).length = min ys.length len := by simp
              have hul' : (us.take (min ys.length len * inf.size)).length = (ys.take (min ys.length len)).length * inf.size := by
                rw [hzl, List.length_take, hul]
                exact Nat.min_eq_left (Nat.mul_le_mul_right _ (Nat.min_le_left _ _))
              obtain ⟨cs, hg, hfit, q1, q2⟩ := hr.heap.splice hh hM (off := off) (zs := ys.take (min ys.length len)) (us := us.take (min ys.length len * inf.size)) (by rw [hzl]; omega) hul'
                (fun v hv => hu2 v (List.mem_of_mem_take hv)) (Told.take hlen _ (fun i e j c u a1 a2 a3 => hu3 i e j c u a1 a2 a3)) (fun e he => hlen e (List.mem_of_mem_take he))
              have hst := run_storeCells_at P b (off * inf.size) t' (us.take (min ys.length len * inf.size)) 0 cs w hg (by simpa using hfit) (fun v hv => hu2 v (List.mem_of_mem_take hv))
              simp only [Nat.add_zero] at hst
              have hrun : (Builtin.copy_ #[t, u] o.type #[a.eval x, a.eval y]).run P w = .ok (.int .i64 (min ys.length len : Nat)) (w.setRow b (cs.toList.take (off * inf.size) ++ us.take (min ys.length len * inf.size) ++ cs.toList.drop (off * inf.size + (us.take (min ys.length len * inf.size)).length)).toArray) := by
                rw [ex, ey]
                exact run_copy (P := P) (u := u) (ty := o.type) ht hi (hfirst _ (Nat.min_le_left _ _)) (.inr ⟨_, hax, hst⟩)
              rw [hzl] at q1 q2
              refine ⟨_, _, G, .inl (hexec _ _ hrun), ?_, ?_⟩
              · simp only [Eff.app, Eff.heap_wr]
                exact (hr.ext (fun _ h => h) (q2.keepI hr.heap) q2.ext q1).putAny (rd := id :: rd) hdn (.cl _ _ (.int _ _))
              · rw [Eff.heap_wr]
                exact q2
        · cases hap
      · cases hap
    · cases hap
  · cases hap

/-- A row of zeros. -/
theorem zeros_told {w : World} {G : Gh} {h : Nat → AObj} {z : Value} {zs : List AVal} {k : Nat} (hzs : lits z.cells.toList = some zs) (hzl : zs.length = k) (hk : 0 < k) (m : Nat) :
    (Builtin.zeroCells z.cells m).toList.length = (List.replicate m zs).length * k ∧ Told w G h k (List.replicate m zs) (Builtin.zeroCells z.cells m).toList ∧ ∀ e ∈ List.replicate m zs, e.length = k := by
  obtain ⟨l1, l2, l3⟩ := lits_ok (w := w) (G := G) (h := h) hzs
  have hsz : z.cells.size = k := by rw [← hzl, l1]; simp
  refine ⟨by simp [Builtin.zeroCells, hsz], fun i e j c u a1 a2 a3 => ?_, fun e he => by rw [List.eq_of_mem_replicate he]; exact hzl⟩
  rw [List.getElem?_replicate] at a1
  split at a1
  · rename_i hi
    injection a1 with a1; subst a1
    have hj : j < k := by have := (List.getElem?_eq_some_iff.1 a2).1; omega
    have hlt : i * k + j < m * k := by
      have : (i + 1) * k ≤ m * k := Nat.mul_le_mul_right _ hi
      rw [Nat.add_mul] at this; omega
    have h2 : (Builtin.zeroCells z.cells m)[i * k + j]? = z.cells[(i * k + j) % k]? := by
      have := zeros_get z.cells k m hsz hk (i * k + j) hlt
      unfold Builtin.zeroCells
      rw [hsz] at this ⊢
      exact this
    have h3 : (i * k + j) % k = j := by rw [Nat.mul_comm, Nat.mul_add_mod, Nat.mod_eq_of_lt hj]
    rw [Array.getElem?_toList, h2, h3] at a3
    exact l3 j c u a2 (by simpa using a3)
  · cases a1

theorem ok_clr {t e : TypeId} {x : Operand} {x' : SO} {inf : TypeInfo} {z : Value} {zs : List AVal} {ef : Eff} (hdn : ∀ d, o.dst = some d → d < n) (ho : o.op = .call { callee := .builtin .clear, args := #[x], argTypes := #[t] })
    (ht : P.underlying t = some (.slice e)) (hi : P.info? e = some inf) (hz : inf.zero = some z) (hzs : lits z.cells.toList = some zs) (hx : co x = some x') (hap : astep (.clr o.dst zs x') st f = some ef) : OpOk P n o st f ef := by
  intro a w G hr
  have hvx := co_ok hr hx
  simp only [astep] at hap
  have hexec : ∀ v w', (Builtin.clear_ #[t] o.type #[a.eval x]).run P w = .ok v w' → (execOp a.eval o).run P w = .ok (.value v) w' := fun v w' h => by
    simp [execOp, ho, resolve, invoke, builtin, h]
  have vtup : VR w G st.h (.tup []) (.tuple #[]) := .tup [] #[] rfl (fun j c v h => by simp at h)
  have zero : ∀ bx cx, a.eval x = .slice bx 0 cx → (Builtin.clear_ #[t] o.type #[a.eval x]).run P w = .ok (.tuple #[]) w := by
    intro bx cx ex
    rw [ex]
    cases bx <;> simp [Builtin.clear_, run_underlying ht]
  split at hap
  · rename_i hx0
    injection hap with hap; subst hap
    rw [hx0] at hvx
    refine ⟨_, w, G, .inl (hexec _ _ (zero none 0 hvx.nil_inv)), ?_, by rw [Eff.heap_nil]; exact Tr.refl _ _ _⟩
    simp only [Eff.app, Eff.heap_nil]
    exact hr.putAny (rd := []) hdn vtup
  · rename_i hx0
    injection hap with hap; subst hap
    rw [hx0] at hvx
    obtain ⟨bx, ex⟩ := hvx.emp_inv
    refine ⟨_, w, G, .inl (hexec _ _ (zero bx 0 ex)), ?_, by rw [Eff.heap_nil]; exact Tr.refl _ _ _⟩
    simp only [Eff.app, Eff.heap_nil]
    exact hr.putAny (rd := []) hdn vtup
  · rename_i id q off len hx0
    split at hap
    · rename_i k t' fu es hob
      split at hap
      · rename_i hzl
        injection hap with hap; subst hap
        rw [hx0] at hvx
        have hh := obj_inv' hob
        obtain ⟨ax, cap, ex, hf, hro⟩ := hvx.row_inv
        obtain ⟨hle, hm⟩ := (hro _ _ _ _ _ hh).2 rfl
        have hok := hr.heap.obj id
        rw [hh] at hok
        obtain ⟨hk, hel, hok⟩ := hok
        by_cases h0 : len = 0
        · have hsame : upd st.h id (.cells q k t' fu es) = st.h := by
            funext i
            by_cases e : i = id
            · subst e; rw [upd_same, hh]
            · rw [upd_ne _ _ e]
          subst h0
          refine ⟨_, w, G, .inl (hexec _ _ (zero ax cap ex)), ?_, ?_⟩
          · simp only [Nat.add_zero, List.replicate_zero, List.append_nil, List.take_append_drop, Eff.app, Eff.heap_wr, hsame]
            exact hr.putAny (rd := []) hdn vtup
          · simp only [Nat.add_zero, List.replicate_zero, List.append_nil, List.take_append_drop, Eff.heap_wr, hsame]
            exact Tr.refl _ _ _
        · rcases hm with ⟨_, h1, _⟩ | ⟨b, C, hM, hcap, hC⟩
          · omega
          · have hax : ax = some ⟨b, off * k, none⟩ := by
              rcases hcap with hcap | hcap
              · rcases hok with ⟨h3, _⟩ | ⟨b', C', cs, hM', _, _, _, hle', _⟩
                · rw [hM] at h3; cases h3
                · rw [hM] at hM'; cases hM'; omega
              · exact hcap
            obtain ⟨z1, z2, z3⟩ := zeros_told (w := w) (G := G) (h := st.h) hzs hzl hk len
            have z4 := zero_one hzs len
            obtain ⟨cs, hg, hfit, q1, q2⟩ := hr.heap.splice hh hM (off := off) (zs := List.replicate len zs) (us := (Builtin.zeroCells z.cells len).toList) (by simpa using hle) z1 z4 z2 z3
            have hst := run_storeCells_at P b (off * k) t' (Builtin.zeroCells z.cells len).toList 0 cs w hg (by simpa using hfit) z4
            simp only [Nat.add_zero] at hst
            have hrun : (Builtin.clear_ #[t] o.type #[a.eval x]).run P w = .ok (.tuple #[]) (w.setRow b (cs.toList.take (off * k) ++ (Builtin.zeroCells z.cells len).toList ++ cs.toList.drop (off * k + (Builtin.zeroCells z.cells len).toList.length)).toArray) := by
              rw [ex, hax]
              obtain ⟨len', rfl⟩ : ∃ l, len = l + 1 := ⟨len - 1, by omega⟩
              simp [Builtin.clear_, run_underlying ht, zeroValue, typeInfo, hi, hz, hst]
            simp only [List.length_replicate] at q1 q2
            refine ⟨_, _, G, .inl (hexec _ _ hrun), ?_, ?_⟩
            · simp only [Eff.app, Eff.heap_wr]
              exact (hr.ext (fun _ h => h) (q2.keepI hr.heap) q2.ext q1).putAny (rd := []) hdn (.tup [] #[] rfl (fun j c v h => by simp at h))
            · rw [Eff.heap_wr]
              exact q2
      · cases hap
    · cases hap
  · cases hap
end

section
variable {P : Program}
theorem run_apz_zero {w : World} {t u ty e : TypeId} {inf : TypeInfo} {k kn : IntKind} (ht : P.underlying t = some (.slice e)) (hu : P.underlying u = some (.int kn)) (hi : P.info? e = some inf) (b : Option Addr) (n cap : Nat) (hn : n ≤ cap) :
    (Builtin.append_ #[t, u] ty #[.slice b n cap, .int k 0]).run P w = .ok (.slice b n cap) w := by
  have hw : IntKind.i64.wrap 0 = 0 := by decide
  cases b <;> simp [Builtin.append_, run_underlying ht, run_underlying hu, sizeOf, typeInfo, hi, asInt, asIntOf, hw, hn, storeCells]

theorem run_apz_room {w : World} {t u ty e : TypeId} {inf : TypeInfo} {z : Value} {k kn : IntKind} (ht : P.underlying t = some (.slice e)) (hu : P.underlying u = some (.int kn)) (hi : P.info? e = some inf) (hz : inf.zero = some z) (hs : 0 < inf.size)
    (m : Nat) (hm : 0 < m) (h63 : (m : Int) ≤ 9223372036854775807) (h48 : m * inf.bytes ≤ 281474976710656) (b n cap : Nat) (cur : Array Value) (hg : w.heap[b]? = some (.cells cur e (0, 0))) (hroom : n + m ≤ cap)
    (hfit : n * inf.size + (Builtin.zeroCells z.cells m).toList.length ≤ cur.size) (h1 : ∀ u ∈ (Builtin.zeroCells z.cells m).toList, u.oneCell' = true) :
    (Builtin.append_ #[t, u] ty #[.slice (some ⟨b, 0, none⟩) n cap, .int k m]).run P w =
      .ok (.slice (some ⟨b, 0, none⟩) (n + m) cap) (w.setRow b (cur.toList.take (n * inf.size) ++ (Builtin.zeroCells z.cells m).toList ++ cur.toList.drop (n * inf.size + (Builtin.zeroCells z.cells m).toList.length)).toArray) := by
  have hw : IntKind.i64.wrap (m : Int) = m := by rw [IntKind.wrap_i64]; omega
  have h48i : ¬ (281474976710656 < (m : Int) * (inf.bytes : Int)) := by rw [← Int.natCast_mul]; omega
  have hneg : ¬ ((m : Int) < 0) := by omega
  have hns : ¬ (m * inf.size = 0) := Nat.mul_ne_zero (by omega) (by omega)
  have hst := run_storeCells_at P b (n * inf.size) e (Builtin.zeroCells z.cells m).toList 0 cur w hg (by simpa using hfit) h1
  simp only [Nat.add_zero] at hst
  have hadd : (⟨b, 0, none⟩ : Addr).add (n * inf.size) = ⟨b, n * inf.size, none⟩ := by simp [addr_add]
  simp [Builtin.append_, run_underlying ht, run_underlying hu, sizeOf, typeInfo, zeroValue, hi, hz, asInt, asIntOf, hw, hneg, h48i, hns, hroom, hadd, hst]

theorem run_apz_grow {w : World} {t u ty e : TypeId} {inf : TypeInfo} {z : Value} {k kn : IntKind} (ht : P.underlying t = some (.slice e)) (hu : P.underlying u = some (.int kn)) (hi : P.info? e = some inf) (hz : inf.zero = some z) (hs : 0 < inf.size)
    (m : Nat) (hm : 0 < m) (b : Option Addr) (n cap : Nat) (olds : List Value) (hlo : olds.length = n * inf.size) (holds : ∀ (j : Nat) v, olds[j]? = some v → ∃ ad, b = some ad ∧ w.cell? (ad.add j) = some v)
    (hb : b = none → n = 0 ∧ cap = 0) (h63 : n + m ≤ maxLen) (hbytes : (n + m) * inf.bytes ≤ 140737488355328) (hby : 0 < inf.bytes) (hg : cap < n + m) :
    ∃ cap', n + m ≤ cap' ∧ cap' ≤ maxLen ∧ (Builtin.append_ #[t, u] ty #[.slice b n cap, .int k m]).run P w =
      .ok (.slice (some ⟨w.heap.size, 0, none⟩) (n + m) cap') (w.drew.alloc (.cells (olds.toArray ++ (Builtin.zeroCells z.cells m).toList.toArray ++ Builtin.zeroCells z.cells (cap' - (n + m))) e)) := by
  have hsmall : n + m ≤ 9223372036854775807 := by simp only [maxLen] at h63; omega
  have hw : IntKind.i64.wrap (m : Int) = m := by rw [IntKind.wrap_i64]; omega
  have h48 : m * inf.bytes ≤ (n + m) * inf.bytes := Nat.mul_le_mul_right _ (by omega)
  have h48i : ¬ (281474976710656 < (m : Int) * (inf.bytes : Int)) := by rw [← Int.natCast_mul]; omega
  have hneg : ¬ ((m : Int) < 0) := by omega
  have hns : ¬ (m * inf.size = 0) := Nat.mul_ne_zero (by omega) (by omega)
  have hn : ¬ (n + m ≤ cap) := by omega
  have h63' : ¬ (9223372036854775807 < ((n : Int) + (m : Int))) := by omega
  have hfits := growslice_fits hg hbytes
  have h48' : ¬ (281474976710656 < Builtin.nextslicecap (n + m) cap * inf.bytes) := by omega
  refine ⟨grownCap w (n + m) cap e, grownCap_ge _ _ _ _, grownCap_le_maxLen _ _ _ _ h63, ?_⟩
  have hold : (Builtin.firstCells inf.size n (.slice b n cap)).run P w.drew = .ok olds.toArray w.drew := by
    cases b with
    | none =>
      obtain ⟨rfl, rfl⟩ := hb rfl
      have ho : olds = [] := List.eq_nil_of_length_eq_zero (by simpa using hlo)
      subst ho
      exact run_firstCells_none _ _ _ _ _
    | some b =>
      exact run_firstCells_some (P := P) w.drew inf.size n b n cap olds hlo (fun j v hv => by
        obtain ⟨ad, e, h⟩ := holds j v hv
        injection e with e
        subst e
        simpa using h)
  simp [Builtin.append_, run_underlying ht, run_underlying hu, sizeOf, typeInfo, zeroValue, hi, hz, asInt, asIntOf, hw, hneg, h48i, hns, hn, h63', h48', Question.forced, hold, newRow, grownCap]

section
variable {n : Nat} {o : Oper} {st : St} {f d : Nat}
theorem ok_apz {t u e : TypeId} {x y : Operand} {x' y' : SO} {inf : TypeInfo} {z : Value} {zs : List AVal} {kn k : IntKind} {m : Int} {ef : Eff} (hd : o.dst = some d) (hn : d < n) (hfree : st.h f = .free)
    (ho : o.op = .call { callee := .builtin .append, args := #[x, y], argTypes := #[t, u] }) (ht : P.underlying t = some (.slice e)) (hu : P.underlying u = some (.int kn)) (hi : P.info? e = some inf) (hz : inf.zero = some z) (hzs : lits z.cells.toList = some zs)
    (hzl : zs.length = inf.size) (hk : 0 < inf.size) (hby : 0 < inf.bytes) (hx : co x = some x') (hy : co y = some y') (hm : ev st.s y' = .int k m) (h0 : 0 ≤ m) (hbig : m * inf.bytes ≤ 140737488355328)
    (hap : appOf d e inf.size inf.bytes st.h f (ev st.s x') (List.replicate m.toNat zs) [] = some ef) : OpOk P n o st f ef :=
  app_core hd hn hfree ho hzs hzl hk hby hx hap fun a w G hr => by
    have hvy := co_ok hr hy
    rw [hm] at hvy
    obtain ⟨z1, z2, z3⟩ := zeros_told (w := w) (G := G) (h := st.h) hzs hzl hk m.toNat
    have z4 := zero_one hzs m.toNat
    obtain ⟨m', rfl⟩ : ∃ m' : Nat, m = m' := ⟨m.toNat, by omega⟩
    have e1 : ((m' : Int)).toNat = m' := Int.toNat_natCast m'
    rw [e1] at z1 z2 z3 z4 ⊢
    rw [hvy.int_inv]
    have hbig' : m' * inf.bytes ≤ 140737488355328 := by rw [← Int.natCast_mul] at hbig; omega
    have hle : m' ≤ m' * inf.bytes := Nat.le_mul_of_pos_right _ hby
    refine ⟨z3, _, z1, z4, z2, ⟨fun e0 b n cap hn => ?_, fun hm b n cap olds h1 h2 h3 h4 h5 h6 => ?_, fun hm b n cap cur h1 h2 h3 => ?_⟩⟩
    · have : m' = 0 := by simpa using e0
      subst this
      exact run_apz_zero ht hu hi b n cap hn
    · simp only [List.length_replicate] at hm h4 h5 h6 ⊢
      exact run_apz_grow ht hu hi hz hk m' hm b n cap olds h1 h2 h3 h4 h5 hby h6
    · simp only [List.length_replicate] at hm h2 ⊢
      exact run_apz_room ht hu hi hz hk m' hm (by omega) (by omega) b n cap cur h1 h2 h3 z4
end
end

theorem appOf_big {d : Nat} {t : TypeId} {k bytes f : Nat} {h : Nat → AObj} {x : AVal} {ys : List (List AVal)} {rd : List Nat} {ef : Eff} (hc : appOf d t k bytes h f x ys rd = some ef) : ys.length * bytes ≤ 140737488355328 := by
  unfold appOf at hc
  split at hc
  · split at hc
    · rename_i h1; exact h1
    · cases hc
  · split at hc
    · rename_i h1; exact h1
    · cases hc
  · rename_i id q off m
    split at hc
    · split at hc
      · rename_i h1
        have := h1.2.2.2.2
        rw [Nat.add_mul] at this
        omega
      · cases hc
    · cases hc
  · cases hc

/-- Entries of a map, and what is known of them. -/
def Ents (w : World) (G : Gh) (h : Nat → AObj) (es : List (Int × AVal)) (ents : List MapEntry) : Prop :=
  es.length = ents.length ∧ ∀ (i : Nat) n c e, es[i]? = some (n, c) → ents[i]? = some e → e.key = .int .i64 n ∧ VR w G h c e.val

theorem Ents.tail {w : World} {G : Gh} {h : Nat → AObj} {p : Int × AVal} {es : List (Int × AVal)} {e : MapEntry} {ents : List MapEntry} (H : Ents w G h (p :: es) (e :: ents)) : Ents w G h es ents :=
  ⟨by simpa using H.1, fun i n c e' h1 h2 => H.2 (i + 1) n c e' (by simpa using h1) (by simpa using h2)⟩

theorem Ents.find {w : World} {G : Gh} {h : Nat → AObj} (n : Int) : ∀ {es : List (Int × AVal)} {ents : List MapEntry}, Ents w G h es ents → ∀ i : Nat,
    (mapGet es n = none ∧ Instr.findNow (.int .i64) (.int .i64 n) ents i = some none ∧ ∀ c, mapSet es n c = es ++ [(n, c)]) ∨
    ∃ (j : Nat) (c : AVal) (e : MapEntry), es[j]? = some (n, c) ∧ ents[j]? = some e ∧ mapGet es n = some c ∧ Instr.findNow (.int .i64) (.int .i64 n) ents i = some (some (i + j, e.val)) ∧ ∀ c', mapSet es n c' = es.set j (n, c')
  | [], [], H, i => .inl ⟨rfl, rfl, fun _ => rfl⟩
  | [], e :: ents, H, i => by have := H.1; simp at this
  | p :: es, [], H, i => by have := H.1; simp at this
  | (m, x) :: es, e :: ents, H, i => by
    obtain ⟨hk, hv⟩ := H.2 0 m x e rfl rfl
    by_cases hm : m = n
    · subst hm
      refine .inr ⟨0, x, e, rfl, rfl, by simp [mapGet], ?_, fun c' => by simp [mapSet]⟩
      simp [Instr.findNow, hk, Instr.sameNow]
    · have hne : (n == m) = false := by simpa using fun e : n = m => hm e.symm
      rcases Ents.find n H.tail (i + 1) with ⟨h1, h2, h3⟩ | ⟨j, c, e', h1, h2, h3, h4, h5⟩
      · refine .inl ⟨by simp [mapGet, hm, h1], ?_, fun c => by simp [mapSet, hm, h3]⟩
        simp [Instr.findNow, hk, Instr.sameNow, hne, h2]
      · refine .inr ⟨j + 1, c, e', by simpa using h1, by simpa using h2, by simp [mapGet, hm, h3], ?_, fun c' => by simp [mapSet, hm, h5]⟩
        simp [Instr.findNow, hk, Instr.sameNow, hne, h4]
        omega

/-- A new map. -/
theorem HR.allocMap {w : World} {G : Gh} {h : Nat → AObj} (hr : HR w G h) {f : Nat} (hf : h f = .free) :
    let w' := w.alloc (.map #[] 0)
    let G' : Gh := ⟨G.I, upd G.M f (some (w.heap.size, 0))⟩
    let h' := upd h f (.map [])
    HR w' G' h' ∧ Ext G.M h G'.M h' ∧ Tr w G h w' G' h' := by
  intro w' G' h'
  have hG := hr.ownLt
  have hkeep : ∀ b, b < w.heap.size → w'.heap[b]? = w.heap[b]? := fun b hb => heap_alloc_old w _ b hb
  have hE : Ext G.M h G'.M h' := by
    refine ⟨fun id hid => ?_, fun id st' k' t' fu' es' hid h'' => ?_, fun id es' hid h'' => ?_⟩
    · by_cases e : id = f
      · subst e; exact absurd hf hid
      · show upd h f _ id ≠ _
        rw [upd_ne _ _ e]; exact hid
    · by_cases e : id = f
      · subst e; exact absurd hf hid
      · have h0 : h id = .cells st' k' t' fu' es' := by rw [← h'']; exact (upd_ne _ _ e).symm
        exact ⟨_, _, _, _, _, h0, Nat.le_refl _, fun _ => ⟨rfl, Nat.le_refl _, upd_ne _ _ e⟩⟩
    · by_cases e : id = f
      · subst e; exact absurd hf hid
      · have h0 : h id = .map es' := by rw [← h'']; exact (upd_ne _ _ e).symm
        exact ⟨_, h0, upd_ne _ _ e⟩
  have hI : ∀ b, G.I b → G'.I b := fun _ h => h
  have hIw : ∀ b, G.I b → w'.heap[b]? = w.heap[b]? := fun b hb => hkeep b (hr.lt b hb)
  have hlive : ∀ id, id ≠ f → h' id = h id := fun id e => upd_ne _ _ e
  have hM : ∀ id, id ≠ f → G'.M id = G.M id := fun id e => upd_ne _ _ e
  refine ⟨⟨fun id => ?_, fun id id' b C1 C2 l1 l2 m1 m2 => ?_, fun b hb => ?_⟩, hE, ⟨?_, fun b hb _ => hkeep b hb, rfl, rfl, rfl, hI, fun b hb => .inl hb, fun b hb => ?_, hE⟩⟩
  · by_cases e : id = f
    · subst e
      have : h' id = .map [] := upd_same _ _ _
      rw [this]
      refine ⟨w.heap.size, 0, #[], 0, upd_same _ _ _, fun hb => ?_, heap_alloc_new w _, rfl, fun i n c e h1 _ => by simp at h1⟩
      have := hr.lt _ hb
      omega
    · rw [hlive id e]
      exact (hr.obj id).mono (fun _ => hM id e) hI hIw (fun b C1 l m => ⟨fun hb => hr.notI ⟨id, C1, l, m⟩ hb, hkeep b (hG b C1 id l m)⟩) hE
  · by_cases e : id = f <;> by_cases e' : id' = f
    · rw [e, e']
    · subst e
      rw [hlive id' e'] at l2; rw [hM id' e'] at m2
      have m1' : some (w.heap.size, 0) = some (b, C1) := by rw [← m1]; exact (upd_same _ _ _).symm
      have : b < w.heap.size := hG _ _ _ l2 m2
      injection m1' with m1'; injection m1' with m1' _
      omega
    · subst e'
      rw [hlive id e] at l1; rw [hM id e] at m1
      have m2' : some (w.heap.size, 0) = some (b, C2) := by rw [← m2]; exact (upd_same _ _ _).symm
      have : b < w.heap.size := hG _ _ _ l1 m1
      injection m2' with m2'; injection m2' with m2' _
      omega
    · rw [hlive id e] at l1; rw [hM id e] at m1; rw [hlive id' e'] at l2; rw [hM id' e'] at m2
      exact hr.inj _ _ _ _ _ l1 l2 m1 m2
  · have := hr.lt b hb
    simp only [w', World.size_alloc]
    omega
  · simp [w']
  · obtain ⟨id, C1, l, m⟩ := hb
    by_cases e : id = f
    · subst e
      have m' : some (w.heap.size, 0) = some (b, C1) := by rw [← m]; exact (upd_same _ _ _).symm
      injection m' with m'; injection m' with m' _
      exact .inr (by omega)
    · rw [hlive id e] at l; rw [hM id e] at m
      exact .inl ⟨id, C1, l, m⟩

/-- A map changes. -/
theorem HR.changeMap {w : World} {G : Gh} {h : Nat → AObj} (hr : HR w G h) {id b C clock clock' : Nat} {es es' : List (Int × AVal)} {ents ents' : Array MapEntry}
    (hid : h id = .map es) (hM : G.M id = some (b, C)) (hg : w.heap[b]? = some (.map ents clock)) (hv : Ents w G h es' ents'.toList) :
    let w' : World := { w with heap := w.heap.setIfInBounds b (.map ents' clock') }
    let h' := upd h id (.map es')
    HR w' G h' ∧ Ext G.M h G.M h' ∧ Tr w G h w' G h' := by
  intro w' h'
  have hown : Owned G h b := ⟨id, C, by rw [hid]; rfl, hM⟩
  have hnI : ¬ G.I b := hr.notI hown
  have hother : ∀ i, i ≠ id → h' i = h i := fun i e => upd_ne _ _ e
  have hset := MapKept.heap_set (o' := .map ents' clock') hg
  have hkeep : ∀ c, c ≠ b → w'.heap[c]? = w.heap[c]? := fun c e => hset.2 c e
  have hE : Ext G.M h G.M h' := by
    refine ⟨fun i hi => ?_, fun i st0 k' t' fu0 es0 hi h'' => ?_, fun i es0 hi h'' => ?_⟩
    · by_cases e : i = id
      · subst e; have : h' i = _ := upd_same _ _ _; rw [this]; simp
      · rw [hother i e]; exact hi
    · by_cases e : i = id
      · subst e
        have h3 : h' i = .map es' := upd_same _ _ _
        rw [h3] at h''; cases h''
      · rw [hother i e] at h''
        exact ⟨_, _, _, _, _, h'', Nat.le_refl _, fun _ => ⟨rfl, Nat.le_refl _, rfl⟩⟩
    · by_cases e : i = id
      · subst e
        exact ⟨_, hid, rfl⟩
      · rw [hother i e] at h''
        exact ⟨_, h'', rfl⟩
  have hIw : ∀ c, G.I c → w'.heap[c]? = w.heap[c]? := fun c hc => hkeep c fun e => hnI (e ▸ hc)
  have hlive : ∀ i, (h' i).live = (h i).live := fun i => by
    by_cases e : i = id
    · subst e; have : h' i = _ := upd_same _ _ _; rw [this, hid]; rfl
    · rw [hother i e]
  refine ⟨⟨fun i => ?_, fun i i' c C1 C2 l1 l2 m1 m2 => ?_, fun c hc => ?_⟩, hE, ⟨?_, fun c hc ho => ?_, rfl, rfl, rfl, fun _ h => h, fun c hc => .inl hc, fun c hc => ?_, hE⟩⟩
  · by_cases e : i = id
    · subst e
      have : h' i = .map es' := upd_same _ _ _
      rw [this]
      refine ⟨b, C, ents', clock', hM, hnI, hset.1, by simpa using hv.1, fun i n c e h1 h2 => ?_⟩
      obtain ⟨q1, q2⟩ := hv.2 i n c e h1 (by simpa using h2)
      exact ⟨q1, q2.mono (fun _ h => h) hIw hE⟩
    · rw [hother i e]
      refine (hr.obj i).mono (fun _ => rfl) (fun _ h => h) hIw (fun c C1 l m => ⟨fun hb => hr.notI ⟨i, C1, l, m⟩ hb, hkeep c fun e2 => e ?_⟩) hE
      subst e2
      exact hr.inj _ _ _ _ _ l (by rw [hid]; rfl) m hM
  · rw [hlive] at l1 l2
    exact hr.inj _ _ _ _ _ l1 l2 m1 m2
  · have := hr.lt c hc
    simpa [w'] using this
  · simp [w']
  · exact hkeep c fun e => ho (e ▸ hown)
  · obtain ⟨i, C1, l, m⟩ := hc
    rw [hlive] at l
    exact .inl ⟨i, C1, l, m⟩

section
variable {P : Program} {n : Nat} {o : Oper} {st : St} {f d : Nat}

theorem ok_mkm {t : TypeId} (hd : o.dst = some d) (hn : d < n) (hfree : st.h f = .free) (ho : o.op = .makeMap t none) : OpOk P n o st f ⟨some d, .map f, [], [], [.map []]⟩ := by
  intro a w G hr
  obtain ⟨r1, r2, r3⟩ := hr.heap.allocMap hfree
  have hrun : (Instr.makeMap t none).run P w = .ok (.map (some w.heap.size)) (w.alloc (.map #[] 0)) := rfl
  refine ⟨.map (some w.heap.size), w.alloc (.map #[] 0), ⟨G.I, upd G.M f (some (w.heap.size, 0))⟩, .inl (by simp [execOp, ho, hrun]), ?_, ?_⟩
  · rw [hd]
    simp only [Eff.app, Eff.slots, Eff.heap_nw]
    exact (hr.ext r3.I (r3.keepI hr.heap) r2 r1).put hn (c := .map f) (v := .map (some w.heap.size))
      (.map _ _ (by show upd st.h f _ f ≠ _; rw [upd_same]; simp) fun es h => ⟨0, upd_same _ _ _⟩)
  · rw [Eff.heap_nw]
    exact r3

theorem ents_of {w : World} {G : Gh} {h : Nat → AObj} (hr : HR w G h) {id : Nat} {es : List (Int × AVal)} (hid : h id = .map es) : ∃ b C ents clock, G.M id = some (b, C) ∧ w.heap[b]? = some (.map ents clock) ∧ Ents w G h es ents.toList := by
  have := hr.obj id
  rw [hid] at this
  obtain ⟨b, C, ents, clock, h1, h2, h3, h4, h5⟩ := this
  exact ⟨b, C, ents, clock, h1, h3, by simpa using h4, fun i n c e a1 a2 => h5 i n c e a1 (by simpa using a2)⟩

theorem isKey_i64 (n : Int) : MapKept.IsKey (.int .i64) (.int .i64 n) := by simp [MapKept.IsKey]

theorem ok_mst {t kt et : TypeId} {m k x : Operand} {m' k' x' : SO} {id : Nat} {q : Int} {es : List (Int × AVal)} (hd : o.dst = none) (ho : o.op = .mapUpdate t m k x ∨ o.op = .insert t m k x) (ht : P.underlying t = some (.map kt et)) (hk : P.underlying kt = some (.int .i64))
    (hm' : co m = some m') (hk' : co k = some k') (hx' : co x = some x') (em : ev st.s m' = .map id) (ek : ev st.s k' = .int .i64 q) (hid : st.h id = .map es) :
    OpOk P n o st f ⟨none, .undef, [id], [(id, .map (mapSet es q (ev st.s x')))], []⟩ := by
  intro a w G hr
  have vm := co_ok hr hm'
  rw [em] at vm
  obtain ⟨r, e1, _, e3⟩ := vm.map_inv
  obtain ⟨C', e4⟩ := e3 es hid
  have vk := co_ok hr hk'
  rw [ek] at vk
  have e5 := vk.int_inv
  have vx := co_ok hr hx'
  obtain ⟨b, C, ents, clock, h1, h2, h3⟩ := ents_of hr.heap hid
  rw [e4] at h1
  injection h1 with h1; injection h1 with h1 h1'
  subst h1 h1'
  have key : ∃ ents' clock', (Instr.mapUpdate t (a.eval m) (a.eval k) (a.eval x)).run P w = .ok () { w with heap := w.heap.setIfInBounds r (.map ents' clock') } ∧ Ents w G st.h (mapSet es q (ev st.s x')) ents'.toList := by
    rw [e1, e5]
    rcases h3.find q 0 with ⟨g1, g2, g3⟩ | ⟨j, c, e, g1, g2, g3, g4, g5⟩
    · refine ⟨ents.push { key := .int .i64 q, val := a.eval x, born := clock }, clock + 1, ?_, ?_⟩
      · simp [Instr.mapUpdate, run_underlying ht, MapKept.run_getObj_map h2, MapKept.run_checkKey hk (isKey_i64 q), MapKept.run_findKey hk g2, MapKept.run_setObj_map _ h2, Result.andThen]
      · rw [g3]
        refine ⟨by have := h3.1; simp at this ⊢; exact this, fun i n c e a1 a2 => ?_⟩
        have hl := h3.1
        rw [Array.toList_push] at a2
        by_cases hi : i < es.length
        · rw [List.getElem?_append_left hi] at a1
          rw [List.getElem?_append_left (by omega)] at a2
          exact h3.2 i n c e a1 a2
        · have hi' : i = es.length := by
            have := (List.getElem?_eq_some_iff.1 a1).1
            simp at this; omega
          subst hi'
          rw [List.getElem?_append_right (Nat.le_refl _)] at a1
          rw [hl, List.getElem?_append_right (Nat.le_refl _)] at a2
          simp at a1 a2
          obtain ⟨rfl, rfl⟩ := a1
          subst a2
          exact ⟨rfl, vx⟩
    · obtain ⟨q1, q2⟩ := h3.2 j q c e g1 g2
      have g2' : ents[j]? = some e := by simpa using g2
      rw [Nat.zero_add] at g4
      refine ⟨ents.modify j fun e => { e with key := .int .i64 q, val := a.eval x }, clock, ?_, ?_⟩
      · simp [Instr.mapUpdate, run_underlying ht, MapKept.run_getObj_map h2, MapKept.run_checkKey hk (isKey_i64 q), MapKept.run_findKey hk g4, MapKept.run_setObj_map _ h2, Result.andThen, g2', q1, MapKept.run_keyThatStays (isKey_i64 q)]
      · rw [g5]
        refine ⟨by have := h3.1; simp at this ⊢; exact this, fun i n c e a1 a2 => ?_⟩
        by_cases hij : j = i
        · subst hij
          have hlt := (List.getElem?_eq_some_iff.1 g1).1
          rw [List.getElem?_set_self hlt] at a1
          injection a1 with a1; injection a1 with a1 a1'
          subst a1 a1'
          have a2' : (ents.modify j fun e => { e with key := .int .i64 q, val := a.eval x })[j]? = some e := by rw [← Array.getElem?_toList]; exact a2
          rw [Array.getElem?_modify] at a2'
          simp [g2'] at a2'
          subst a2'
          exact ⟨rfl, vx⟩
        · rw [List.getElem?_set_ne hij] at a1
          have a2' : (ents.modify j fun e => { e with key := .int .i64 q, val := a.eval x })[i]? = some e := by rw [← Array.getElem?_toList]; exact a2
          rw [Array.getElem?_modify, if_neg hij] at a2'
          exact h3.2 i n c e a1 (by simpa using a2')
  obtain ⟨ents', clock', k1, k2⟩ := key
  obtain ⟨r1, r2, r3⟩ := hr.heap.changeMap (clock' := clock') hid e4 h2 k2
  refine ⟨undef, { w with heap := w.heap.setIfInBounds r (.map ents' clock') }, G, .inr ⟨?_, rfl⟩, ?_, ?_⟩
  · rcases ho with ho | ho <;> simp [execOp, ho, k1]
  · rw [hd]
    simp only [Eff.app, Eff.slots, Eff.heap_wr]
    exact hr.ext (fun _ h => h) (r3.keepI hr.heap) r2 r1
  · rw [Eff.heap_wr]
    exact r3

/-- The zero of an element of a map. -/
def zeroVal (P : Program) (t : TypeId) : Option AVal :=
  match P.info? t with
  | some inf => match inf.zero with
    | some z => lit z
    | none => none
  | none => none

theorem ok_mgt {t kt et : TypeId} {m k : Operand} {m' k' : SO} {id : Nat} {q : Int} {es : List (Int × AVal)} {z : AVal} {ok : Bool} (hd : o.dst = some d) (hn : d < n) (ho : o.op = .lookup t m k ok) (ht : P.underlying t = some (.map kt et)) (hk : P.underlying kt = some (.int .i64)) (hz : zeroVal P et = some z)
    (hm' : co m = some m') (hk' : co k = some k') (em : ev st.s m' = .map id) (ek : ev st.s k' = .int .i64 q) (hid : st.h id = .map es) :
    OpOk P n o st f ⟨some d, match mapGet es q with | some c => if ok then .tup [c, .bool true] else c | none => if ok then .tup [z, .bool false] else z, [id], [], []⟩ := by
  refine OpOk.val hd hn fun a w G hr => ?_
  have vm := co_ok hr hm'
  rw [em] at vm
  obtain ⟨r, e1, _, e3⟩ := vm.map_inv
  obtain ⟨C', e4⟩ := e3 es hid
  have vk := co_ok hr hk'
  rw [ek] at vk
  have e5 := vk.int_inv
  obtain ⟨b, C, ents, clock, h1, h2, h3⟩ := ents_of hr.heap hid
  rw [e4] at h1
  injection h1 with h1; injection h1 with h1 h1'
  subst h1 h1'
  have two : ∀ {c : AVal} {v : Value} {b : Bool}, VR w G st.h c v → VR w G st.h (.tup [c, .bool b]) (.tuple #[v, .bool b]) := fun hv => by
    refine .tup _ _ rfl fun j c v h1 h2 => ?_
    match j with
    | 0 => simp at h1 h2; subst h1 h2; exact hv
    | 1 => simp at h1 h2; subst h1 h2; exact .cl _ _ (.bool _)
    | j + 2 => simp at h1
  rcases h3.find q 0 with ⟨g1, g2, _⟩ | ⟨j, c, e, g1, g2, g3, g4, _⟩
  · unfold zeroVal at hz
    split at hz
    · rename_i inf hi
      split at hz
      · rename_i zv hzv
        refine ⟨if ok then .tuple #[zv, .bool false] else zv, ?_, ?_⟩
        · cases ok <;> simp [execOp, ho, e1, e5, Instr.lookup, run_underlying ht, MapKept.run_getObj_map h2, MapKept.run_checkKey hk (isKey_i64 q), MapKept.run_findKey hk g2, zeroValue, typeInfo, hi, hzv, Result.andThen]
        · rw [g1]
          cases ok
          · exact lit_ok hz
          · exact two (lit_ok hz)
      · cases hz
    · cases hz
  · obtain ⟨q1, q2⟩ := h3.2 j q c e g1 g2
    refine ⟨if ok then .tuple #[e.val, .bool true] else e.val, ?_, ?_⟩
    · cases ok <;> simp [execOp, ho, e1, e5, Instr.lookup, run_underlying ht, MapKept.run_getObj_map h2, MapKept.run_checkKey hk (isKey_i64 q), MapKept.run_findKey hk g4, Result.andThen]
    · rw [g3]
      cases ok
      · exact q2
      · exact two q2

theorem ok_mks {t e : TypeId} {x y : Operand} {x' y' : SO} {inf : TypeInfo} {z : Value} {zs : List AVal} {k k' : IntKind} {m : Int} (hd : o.dst = some d) (hn : d < n) (hfree : st.h f = .free) (ho : o.op = .makeSlice t x y)
    (hu : P.underlying t = some (.slice e)) (hi : P.info? e = some inf) (hz : inf.zero = some z) (hzs : lits z.cells.toList = some zs) (hzl : zs.length = inf.size) (hk : 0 < inf.size) (hby : 0 < inf.bytes)
    (hx : co x = some x') (hy : co y = some y') (ex : ev st.s x' = .int k m) (ey : ev st.s y' = .int k' m) (h0 : 0 ≤ m) (hbig : m * inf.bytes ≤ 140737488355328) :
    OpOk P n o st f ⟨some d, .row f 0 0 m.toNat, [], [], [.cells 0 inf.size e true (List.replicate m.toNat zs)]⟩ := by
  intro a w G hr
  have vx := co_ok hr hx
  rw [ex] at vx
  have vy := co_ok hr hy
  rw [ey] at vy
  obtain ⟨len, rfl⟩ : ∃ len : Nat, m = len := ⟨m.toNat, by omega⟩
  rw [Int.toNat_natCast]
  obtain ⟨l1, l2, l3⟩ := lits_ok (w := w) (G := G) (h := st.h) hzs
  have hzsz : z.cells.size = inf.size := by rw [← hzl, l1]; simp
  have hz0 : ∀ m, m < len * inf.size → (madeCells z.cells (len * inf.size))[m]? = z.cells[m % inf.size]? := fun m hm => zeros_get z.cells inf.size len hzsz hk m hm
  have hbig' : len * inf.bytes ≤ 140737488355328 := by rw [← Int.natCast_mul] at hbig; omega
  have hle : len ≤ len * inf.bytes := Nat.le_mul_of_pos_right _ hby
  have hrun := run_make (P := P) w t e inf z hu hi hz k k' len len (by omega) (Int.le_refl _) (by rw [Int.mul_comm, ← Int.natCast_mul]; omega) (by omega)
  rw [Int.toNat_natCast] at hrun
  obtain ⟨q1, q2, q3⟩ := hr.heap.alloc hr.heap.ownLt hfree inf.size len e true (List.replicate len zs) (madeCells z.cells (len * inf.size)) hk (fun e he => by rw [List.eq_of_mem_replicate he]; exact hzl) (by simp [size_madeCells]) (by simp) (by simp) (by simp only [maxLen]; omega)
    (fun j v hj => by
      have hlt : j < len * inf.size := by have := (Array.getElem?_eq_some_iff.1 hj).1; simpa [size_madeCells] using this
      rw [hz0 j hlt] at hj
      exact l2 _ _ (by simpa using hj))
    (fun i e j c v he hc hv => by
      rw [List.getElem?_replicate] at he
      split at he
      · rename_i hil
        injection he with he
        subst he
        have hj : j < inf.size := by have := (List.getElem?_eq_some_iff.1 hc).1; omega
        have h9 : (i + 1) * inf.size ≤ len * inf.size := Nat.mul_le_mul_right _ hil
        rw [Nat.add_mul] at h9
        rw [hz0 _ (by omega), Nat.mul_comm i, Nat.mul_add_mod, Nat.mod_eq_of_lt hj] at hv
        exact l3 _ _ _ hc (by simpa using hv)
      · cases he)
  refine ⟨.slice (some ⟨w.heap.size, 0, none⟩) len len, w.alloc (.cells (madeCells z.cells (len * inf.size)) e), ⟨G.I, upd G.M f (some (w.heap.size, len))⟩, .inl (by simp [execOp, ho, vx.int_inv, vy.int_inv, hrun]), ?_, ?_⟩
  · rw [hd]
    simp only [Eff.app, Eff.slots, Eff.heap_nw]
    exact (hr.ext q3.I (q3.keepI hr.heap) q2 q1).put hn (c := .row f 0 0 len) (v := .slice (some ⟨w.heap.size, 0, none⟩) len len)
      (.row _ _ _ _ _ _ (by show upd st.h f _ f ≠ _; rw [upd_same]; simp) fun st' k t' fu es' h => by
        have h' : upd st.h f (.cells 0 inf.size e true (List.replicate len zs)) f = .cells st' k t' fu es' := h
        rw [upd_same] at h'
        injection h' with e1 e2 e3 e4 e5
        subst e1 e5
        exact ⟨Nat.le_refl _, fun _ => ⟨by simp, .inr ⟨w.heap.size, len, upd_same _ _ _, .inr (by simp), by omega⟩⟩⟩)
  · rw [Eff.heap_nw]
    exact q3
end

section
variable {P : Program} {n : Nat} {o : Oper} {st : St} {f d : Nat}

/-- A part of a value of several cells. -/
theorem run_part_any {w : World} {G : Gh} {h : Nat → AObj} {vs : Array Value} {cs : List AVal} {t : TypeId} {ds : TypeDesc} {inf : TypeInfo} {off : Nat} {c : AVal} (hu : P.underlying t = some ds) (hi : P.info? t = some inf) (hl : cs.length = vs.size)
    (h1 : ∀ (j : Nat) v, vs[j]? = some v → v.oneCell' = true) (hr : ∀ (j : Nat) c v, cs[j]? = some c → vs[j]? = some v → VR w G h c v) (hc : loadFrom (isAg P t) inf.size (cs.drop off) = some c) :
    ∃ v, (part t vs off).run P w = .ok v w ∧ VR w G h c v := by
  unfold part
  rw [Sem.run_bind, run_isAg hu w]
  unfold loadFrom at hc
  cases hag : isAg P t with
  | true =>
    simp only [hag, if_true] at hc
    split at hc
    · rename_i hle
      injection hc with hc; subst hc
      refine ⟨.agg (vs.extract off (off + inf.size)), by simp [sizeOf, typeInfo, hi], .agg _ _ ?_ (fun j v hv => ?_) fun j c v hc hv => ?_⟩
      · simp at hle ⊢; omega
      · rw [Array.getElem?_extract] at hv
        split at hv
        · exact h1 _ _ hv
        · cases hv
      · rw [Array.getElem?_extract] at hv
        rw [List.getElem?_take] at hc
        split at hc
        · rw [List.getElem?_drop] at hc
          split at hv
          · exact hr _ _ _ hc hv
          · cases hv
        · cases hc
    · cases hc
  | false =>
    simp only [hag, Bool.false_eq_true, if_false] at hc
    split at hc
    · rename_i c' r hd
      injection hc with hc; subst hc
      have h2 : cs[off]? = some c' := by
        have : (cs.drop off)[0]? = some c' := by rw [hd]; rfl
        simpa using this
      have hlt := (List.getElem?_eq_some_iff.1 h2).1
      have h3 : vs[off]? = some vs[off] := Array.getElem?_eq_getElem (by omega)
      exact ⟨vs[off], by simp [h3], hr _ _ _ h2 h3⟩
    · cases hc

theorem ok_fld {t : TypeId} {x : Operand} {fi : Nat} {x' : SO} {fs : Array Field} {fd : Field} {ds : TypeDesc} {inf : TypeInfo} {cs : List AVal} {c : AVal} (hd : o.dst = some d) (hn : d < n) (ho : o.op = .field t x fi) (hs : P.underlying t = some (.struct fs)) (hf : fs[fi]? = some fd)
    (hu : P.underlying fd.type = some ds) (hi : P.info? fd.type = some inf) (hx : co x = some x') (hcs : ev st.s x' = .agg cs) (hc : loadFrom (isAg P fd.type) inf.size (cs.drop fd.offset) = some c) : OpOk P n o st f ⟨some d, c, [], [], []⟩ :=
  .val hd hn fun a w G hr => by
    have hv := co_ok hr hx
    rw [hcs] at hv
    obtain ⟨vs, e, hl, h1, hrr⟩ := hv.agg_inv
    obtain ⟨v, r1, r2⟩ := run_part_any (P := P) (w := w) hu hi hl h1 hrr hc
    exact ⟨v, by simp [execOp, ho, Instr.field, run_underlying hs, hf, e, asAgg, r1], r2⟩

theorem run_bound3 {w : World} {k : IntKind} {l : Int} {y : Nat} {code : BoundsCode} (h0 : 0 ≤ l) (h1 : l ≤ y) : (Instr.sliceBound (.int k l) y code).run P w = .ok l.toNat w := by
  simp [Instr.sliceBound, asIntOf, h0, h1]

theorem run_slc3 {t e : TypeId} {inf : TypeInfo} {w : World} (ht : P.underlying t = some (.slice e)) (hi : P.info? e = some inf) (ad : Option Addr) (len cap : Nat) (lo : Option Value) (l h m : Int) (k' k'' : IntKind)
    (h1 : (lo = none ∧ l = 0) ∨ ∃ k, lo = some (.int k l)) (h0 : 0 ≤ l) (hlh : l ≤ h) (hm : h ≤ m) (hc : m ≤ cap) :
    (Instr.sliceAt t (.slice ad len cap) lo (some (.int k' h)) (some (.int k'' m))).run P w = .ok (.slice (if m.toNat = l.toNat then ad else ad.map (·.add (l.toNat * inf.size))) (h.toNat - l.toNat) (m.toNat - l.toNat)) w := by
  obtain ⟨ht', he⟩ := elem_of ht
  rw [run_sliceAt_slice w t _ _ _ _ ht']
  have b1 := run_bound3 (P := P) (w := w) (k := k'') (code := .slice3Acap) (by omega : 0 ≤ m) hc
  have b2 := run_bound3 (P := P) (w := w) (k := k') (code := .slice3B) (by omega : 0 ≤ h) (y := m.toNat) (by omega)
  rcases h1 with ⟨rfl, rfl⟩ | ⟨k, rfl⟩
  · simp [Instr.slice, run_underlying ht, Instr.sliceBounds, b1, b2, sizeOf, typeInfo, hi]
  · have b3 := run_bound3 (P := P) (w := w) (k := k) (code := .slice3C) h0 (y := h.toNat) (by omega)
    simp [Instr.slice, run_underlying ht, Instr.sliceBounds, b1, b2, b3, sizeOf, typeInfo, hi]

theorem ok_slc3 {t e : TypeId} {x mx : Operand} {lo : Option Operand} {hi' : Operand} {x' mx' hi'' : SO} {lo' : Option SO} {inf : TypeInfo} {ef : Eff} (hd : o.dst = some d) (hn : d < n) (ho : o.op = .slice t x lo (some hi') (some mx))
    (ht : P.underlying t = some (.slice e)) (hi : P.info? e = some inf) (hx : co x = some x') (hlo : OptCo lo lo') (hhi : co hi' = some hi'') (hmx : co mx = some mx') (hap : astep (.slc d inf.size x' lo' (some hi'') (some mx')) st f = some ef) : OpOk P n o st f ef := by
  simp only [astep] at hap
  split at hap
  · rename_i len hlen
    split at hap
    · rename_i h m hh hm
      split at hap
      · rename_i hhm
        split at hap
        · rename_i v1 rd v2 rd' s1 s2
          injection hap with hap; subst hap
          refine .val hd hn fun a w G hr => ?_
          have hv := co_ok hr hx
          -- the bounds
          have hl : ∃ l, bound st.s lo' 0 = some l ∧ 0 ≤ l ∧ l ≤ h := by
            cases hb : bound st.s lo' 0 with
            | none => rw [hb] at s1; simp [slcOf] at s1
            | some l =>
              rw [hb] at s1
              simp only [slcOf] at s1
              split at s1
              · rename_i hc; exact ⟨l, rfl, hc⟩
              · cases s1
          obtain ⟨l, hl, h0, hlh⟩ := hl
          have b1 := bound_ok hr hlo hl
          have b2 := bound_ok hr (x := some hi') (x' := some hi'') hhi hh
          have b3 := bound_ok hr (x := some mx) (x' := some mx') hmx hm
          rcases b2 with ⟨e, _⟩ | ⟨y2, k2, e2, e2'⟩
          · cases e
          rcases b3 with ⟨e, _⟩ | ⟨y3, k3, e3, e3'⟩
          · cases e
          injection e2 with e2; subst e2
          injection e3 with e3; subst e3
          have run : ∀ ad cap, a.eval x = .slice ad len cap → m ≤ cap → (execOp a.eval o).run P w = .ok (.value (.slice (if m.toNat = l.toNat then ad else ad.map (·.add (l.toNat * inf.size))) (h.toNat - l.toNat) (m.toNat - l.toNat))) w := by
            intro ad cap ex hc
            have := run_slc3 (P := P) (w := w) ht hi ad len cap (lo.map a.eval) l h m k2 k3
              (by rcases b1 with ⟨rfl, e⟩ | ⟨y, k, rfl, e⟩
                  · exact .inl ⟨rfl, e⟩
                  · exact .inr ⟨k, by simp [e]⟩) h0 hlh hhm hc
            simp [execOp, ho, ex, e2', e3', this]
          have fin : (∃ ad cap, a.eval x = .slice ad len cap ∧ m ≤ cap) → ∃ v, (execOp a.eval o).run P w = .ok (.value v) w ∧ VR w G st.h (if m = 0 then .emp else .undef) v := by
            rintro ⟨ad, cap, ex, hc⟩
            refine ⟨_, run ad cap ex hc, ?_⟩
            split
            · rename_i hm0
              have e1 : m.toNat = 0 := by omega
              have e2 : h.toNat = 0 := by omega
              simp only [e1, e2, Nat.zero_sub]
              exact .cl _ _ (.emp _)
            · exact .undef _
          refine fin ?_
          -- the capacity
          have hl2 : (0 : Int) ≤ 0 ∧ (0 : Int) ≤ m := ⟨Int.le_refl _, by omega⟩
          have s2' := s2
          simp only [slcOf] at s2'
          rw [if_pos hl2] at s2'
          split at s2'
          · rename_i hxe
            rw [hxe] at hv hlen
            split at s2'
            · rename_i hz
              simp [lenOf] at hlen; subst hlen
              exact ⟨none, 0, hv.nil_inv, by omega⟩
            · cases s2'
          · rename_i hxe
            rw [hxe] at hv hlen
            split at s2'
            · rename_i hz
              simp [lenOf] at hlen; subst hlen
              obtain ⟨ad, ex⟩ := hv.emp_inv
              exact ⟨ad, 0, ex, by omega⟩
            · cases s2'
          · rename_i k' xs hxe
            rw [hxe] at hv hlen
            split at s2'
            · rename_i hc
              simp [lenOf] at hlen; subst hlen
              obtain ⟨ad, cap, ex, hcap, _⟩ := hv.sl_inv
              exact ⟨ad, cap, ex, by omega⟩
            · cases s2'
          · rename_i id q off len' hxe
            rw [hxe] at hv hlen
            split at s2'
            · rename_i k' t' fu es hob
              split at s2'
              · rename_i hc
                simp [lenOf] at hlen; subst hlen
                have hid := obj_inv' hob
                obtain ⟨ad, cap, ex, _, hro⟩ := hv.row_inv
                obtain ⟨_, r2⟩ := hro _ _ _ _ _ hid
                obtain ⟨r3, r4⟩ := r2 rfl
                refine ⟨ad, cap, ex, ?_⟩
                have hok := hr.heap.obj id
                rw [hid] at hok
                obtain ⟨_, _, hok⟩ := hok
                rcases hok with ⟨g1, g2⟩ | ⟨b, C, cs, g1, g2, g3, g4, g5, g6⟩
                · subst g2
                  simp at hc r3
                  have := hc.2
                  omega
                · rcases r4 with ⟨r4, _⟩ | ⟨b', C', r4, _, r6⟩
                  · rw [g1] at r4; cases r4
                  · rw [g1] at r4
                    injection r4 with r4; injection r4 with r4 r4'
                    subst r4 r4'
                    have := hc.2
                    omega
              · cases s2'
            · cases s2'
          · cases s2'
        · cases hap
      · cases hap
    · cases hap
  · cases hap

/-- All of an object's room is told. -/
theorem HR.tellCap {w : World} {G : Gh} {h : Nat → AObj} (hr : HR w G h) {id q k : Nat} {t : TypeId} {fu : Bool} {es : List (List AVal)} (hid : h id = .cells q k t fu es) {off len : Nat} {a : Option Addr} {cap : Nat} (hro : RowOk G id k es.length off len a cap) :
    ∃ m : Nat, (fu = true → m = 0) ∧ (cap : Int) = es.length + m - off ∧
      let h' := upd h id (.cells q k t true (es ++ List.replicate m (List.replicate k .undef)))
      HR w G h' ∧ Ext G.M h G.M h' ∧ Tr w G h w G h' := by
  have hok := hr.obj id
  rw [hid] at hok
  obtain ⟨hk, hel, hok⟩ := hok
  have mk : ∃ m : Nat, (fu = true → m = 0) ∧ (cap : Int) = es.length + m - off ∧ ∀ h', h' = upd h id (.cells q k t true (es ++ List.replicate m (List.replicate k .undef))) → Ext G.M h G.M h' → ObjOk w G h' id (.cells q k t true (es ++ List.replicate m (List.replicate k .undef))) := by
    rcases hok with ⟨g1, g2⟩ | ⟨b, C, cs, g1, g2, g3, g4, g5, g6, g7, g8, g9⟩
    · subst g2
      refine ⟨0, fun _ => rfl, ?_, fun h' _ _ => ⟨hk, by simp, .inl ⟨g1, rfl⟩⟩⟩
      obtain ⟨r1, r2⟩ := hro
      simp at r1
      rcases r2 with ⟨_, _, r2⟩ | ⟨b, C, r2, _⟩
      · simp; omega
      · rw [g1] at r2; cases r2
    · refine ⟨C - es.length, fun e => by rw [g6 e]; omega, ?_, fun h' hh hE => ⟨hk, fun e he => ?_, .inr ⟨b, C, cs, g1, g2, g3, g4, by simp; omega, fun _ => by simp; omega, g7, g8, fun i e j c v b1 b2 b3 => ?_⟩⟩⟩
      · obtain ⟨r1, r2⟩ := hro
        rcases r2 with ⟨r2, _⟩ | ⟨b', C', r2, _, r4⟩
        · rw [g1] at r2; cases r2
        · rw [g1] at r2
          injection r2 with r2; injection r2 with r2 r2'
          subst r2 r2'
          omega
      · rcases List.mem_append.1 he with h | h
        · exact hel e h
        · rw [List.eq_of_mem_replicate h]; simp
      · by_cases hlt : i < es.length
        · rw [List.getElem?_append_left hlt] at b1
          exact (g9 i e j c v b1 b2 b3).mono (fun _ h => h) (fun _ _ => rfl) hE
        · rw [List.getElem?_append_right (by omega)] at b1
          have : e = List.replicate k .undef := List.eq_of_mem_replicate (List.mem_of_getElem? b1)
          subst this
          have : c = .undef := List.eq_of_mem_replicate (List.mem_of_getElem? b2)
          subst this
          exact .undef _
  obtain ⟨m, m1, m2, m3⟩ := mk
  refine ⟨m, m1, m2, ?_⟩
  intro h'
  have hother : ∀ i, i ≠ id → h' i = h i := fun i e => upd_ne _ _ e
  have hE : Ext G.M h G.M h' := by
    refine ⟨fun i hi => ?_, fun i st0 k' t' fu0 es0 hi h'' => ?_, fun i es0 hi h'' => ?_⟩
    · by_cases e : i = id
      · subst e; have : h' i = _ := upd_same _ _ _; rw [this]; simp
      · rw [hother i e]; exact hi
    · by_cases e : i = id
      · subst e
        have h3 : h' i = .cells q k t true (es ++ List.replicate m (List.replicate k .undef)) := upd_same _ _ _
        rw [h3] at h''
        injection h'' with e1 e2 e3 e4 e5
        subst e1 e2 e3 e4 e5
        exact ⟨_, _, _, _, _, hid, Nat.le_refl _, fun e => ⟨rfl, by simp, rfl⟩⟩
      · rw [hother i e] at h''
        exact ⟨_, _, _, _, _, h'', Nat.le_refl _, fun _ => ⟨rfl, Nat.le_refl _, rfl⟩⟩
    · by_cases e : i = id
      · subst e
        have h3 : h' i = .cells q k t true (es ++ List.replicate m (List.replicate k .undef)) := upd_same _ _ _
        rw [h3] at h''; cases h''
      · rw [hother i e] at h''
        exact ⟨_, h'', rfl⟩
  have hlive : ∀ i, (h' i).live = (h i).live := fun i => by
    by_cases e : i = id
    · subst e; have : h' i = _ := upd_same _ _ _; rw [this, hid]; rfl
    · rw [hother i e]
  refine ⟨⟨fun i => ?_, fun i i' c C1 C2 l1 l2 m1 m2 => ?_, hr.lt⟩, hE, ⟨Nat.le_refl _, fun _ _ _ => rfl, rfl, rfl, rfl, fun _ h => h, fun c hc => .inl hc, fun c hc => ?_, hE⟩⟩
  · by_cases e : i = id
    · subst e
      have : h' i = _ := upd_same _ _ _
      rw [this]
      exact m3 h' rfl hE
    · rw [hother i e]
      exact (hr.obj i).mono (fun _ => rfl) (fun _ h => h) (fun _ _ => rfl) (fun c C1 l m => ⟨fun hb => hr.notI ⟨i, C1, l, m⟩ hb, rfl⟩) hE
  · rw [hlive] at l1 l2
    exact hr.inj _ _ _ _ _ l1 l2 m1 m2
  · obtain ⟨i, C1, l, m⟩ := hc
    rw [hlive] at l
    exact .inl ⟨i, C1, l, m⟩

theorem run_cap {x : Operand} {t e : TypeId} {a : Go.Act} {w : World} {ad : Option Addr} {len cap : Nat} (ho : o.op = .call { callee := .builtin .cap, args := #[x], argTypes := #[t] }) (ht : P.underlying t = some (.slice e)) (ex : a.eval x = .slice ad len cap) :
    (execOp a.eval o).run P w = .ok (.value (.int .i64 cap)) w := by
  simp [execOp, ho, resolve, invoke, builtin, Builtin.cap_, run_underlying ht, ex, goInt]
end
end Go.Av
