/- The seat: part A7. -/
import Derived.Test.YtmhchaedhmnofaaGreatA6
import Derived.Lib.Overlaps
/- The abstract machine, part 34: calls that make or change objects. -/
set_option linter.unusedVariables false
set_option linter.unusedSimpArgs false
namespace Go.Av

def unch (ws : List Nat) : Nat → Heap → Heap → Prop
  | j, o :: H, o' :: H' => (j ∈ ws ∨ o' = o) ∧ unch ws (j + 1) H H'
  | _, _, _ => True

theorem unch_get {ws : List Nat} : ∀ {i : Nat} {H H' : Heap}, unch ws i H H' → H.length ≤ H'.length → ∀ j, j < H.length → i + j ∉ ws → getO H' j = getO H j
  | i, [], _, _, _, j, hj, _ => by simp at hj
  | i, o :: H, [], _, hl, j, hj, _ => by simp at hl
  | i, o :: H, o' :: H', h, hl, j, hj, hn => by
    cases j with
    | zero => rcases h.1 with a | a
              · exact absurd a hn
              · exact a
    | succ j => exact unch_get (i := i + 1) h.2 (by simpa using hl) j (by simpa using hj) (by rwa [show i + 1 + j = i + (j + 1) by omega])

section
variable {P : Program} {n m0 : Nat} {dr : Bool} {rt : List Nat} {E : Lg → Slots → Heap → Prop} {s : Slots} {H : Heap}

/-- A call that is given some objects, changes some of them, and makes new ones. -/
theorem CX_w (ρ ws : List Nat) {d : Option Nat} {f : SO} {xs : List SO} {g : FuncId} {first caps cargs : List AVal} {Hc Hc' H1 : Heap} {r r1 : AVal} (hA : ACalls P g cargs Hc r Hc')
    (hf : ev (get s) f = .func g first caps) (hargs : renL (rho ρ Hc.length H.length) cargs = first ++ evs (get s) xs ++ caps) (hlt : ltL Hc.length cargs = true) (hltH : Hc.all (ltO Hc.length) = true)
    (hρ : ρ.length = Hc.length) (hnd : ρ.Nodup) (hb : (ρ.all fun x => decide (x < H.length)) = true) (hobj : ρ.map (getO H) = Hc.map (renO (rho ρ Hc.length H.length)))
    (hm : Hc.length ≤ Hc'.length) (hu : unch ws 0 Hc Hc') (hws : (ws.all fun x => decide (x < Hc.length)) = true) (hr : ren (rho ρ Hc.length H.length) r = r1)
    (hH1 : setAll (ws.map fun j => (ρ.getD j 0, renO (rho ρ Hc.length H.length) (getO Hc' j))) H ++ (Hc'.drop Hc.length).map (renO (rho ρ Hc.length H.length)) = H1)
    (hE : E ⟨d, rt, ρ, ws.map fun j => ρ.getD j 0, H.length, Hc'.length - Hc.length⟩ (putS d r1 s) H1) : CX P n m0 dr d f xs rt E s H := by
  refine CX_gen (cargs := cargs) (Hc := Hc) (Hc' := Hc') (rv := r) ρ ws hf hargs hlt hltH hρ hnd (fun x hx => of_decide_eq_true (List.all_eq_true.1 hb x hx)) (fun j hj => ?_) hA hm (fun j hj hn => unch_get hu hm j hj (by rwa [Nat.zero_add])) (fun j hj => of_decide_eq_true (List.all_eq_true.1 hws j hj)) ?_
  · have h1 : (ρ.map (getO H))[j]? = (Hc.map (renO (rho ρ Hc.length H.length)))[j]? := by rw [hobj]
    have hj' : j < ρ.length := by omega
    rw [List.getElem?_map, List.getElem?_map, List.getElem?_eq_getElem hj', List.getElem?_eq_getElem hj] at h1
    simp only [Option.map_some, Option.some.injEq] at h1
    simp only [List.getD, getO, List.getElem?_eq_getElem hj', List.getElem?_eq_getElem hj, Option.getD_some] at h1 ⊢
    exact h1
  · subst hr hH1
    exact hE

/-- A call that makes objects. -/
theorem CX_new {d : Option Nat} {f : SO} {xs : List SO} {g : FuncId} {first caps args : List AVal} {Hc' : Heap} {r r1 : AVal} (hA : ACalls P g args [] r Hc')
    (hf : ev (get s) f = .func g first caps) (hargs : first ++ evs (get s) xs ++ caps = args) (hl : ltL 0 args = true) (hH : Hc'.all (ltO 0) = true) (hr : ren (rho [] 0 H.length) r = r1)
    (hE : E ⟨d, rt, [], [], H.length, Hc'.length⟩ (putS d r1 s) (H ++ Hc')) : CX P n m0 dr d f xs rt E s H := by
  refine CX_w [] [] hA hf ?_ hl rfl rfl List.nodup_nil rfl rfl (Nat.zero_le _) trivial rfl hr (H1 := H ++ Hc') ?_ hE
  · rw [hargs]; exact renL_lt (m := 0) (fun id h => by omega) args hl
  · show H ++ (Hc'.drop 0).map _ = _
    congr 1
    rw [List.drop_zero]
    refine List.ext_getElem? fun i => ?_
    rw [List.getElem?_map]
    cases h : Hc'[i]? with
    | none => rfl
    | some o =>
      show some (renO _ o) = some o
      rw [renO_lt (m := 0) (fun id h => by omega) (List.all_eq_true.1 hH o (List.mem_of_getElem? h))]
end
end Go.Av
/- The abstract machine, part 35: returns that hand on some objects. -/
set_option linter.unusedVariables false
set_option linter.unusedSimpArgs false
namespace Go.Av
section
variable {n m0 : Nat} {s : Slots} {H : Heap}
/-- A return: of all objects, these are handed on, in this order. -/
theorem Rt_sel (ρ : List Nat) {rs : List RS} {r r0 : AVal} {H' : Heap} (hret : retO (S s H) rs = some r0) (hr : ren (fun id => ρ.getD id 0) r = r0) (hl : ltv H'.length r = true) (hH : H'.all (ltO H'.length) = true)
    (hρ : ρ.length = H'.length) (hnd : ρ.Nodup) (hobj : ρ.map (getO H) = H'.map (renO fun id => ρ.getD id 0)) (hm : m0 ≤ H'.length) (hid : ((List.range m0).all fun i => decide (ρ.getD i 0 = i)) = true) : Rt n m0 (Ret rs m0 r H') s H := by
  intro w0 G0 h0 hb a w G hrel ht
  refine ⟨G, S s H, hrel, ht, r0, fun id => ρ.getD id 0, hret, hr.symm, hl, fun id h => ⟨?_, ltO_get hH id⟩, fun i j hi hj h => ?_, hm, fun id h => ?_⟩
  · have h1 : (ρ.map (getO H))[id]? = (H'.map (renO fun id => ρ.getD id 0))[id]? := by rw [hobj]
    have h' : id < ρ.length := by omega
    rw [List.getElem?_map, List.getElem?_map, List.getElem?_eq_getElem h', List.getElem?_eq_getElem h] at h1
    simp only [Option.map_some, Option.some.injEq] at h1
    show getO H (ρ.getD id 0) = _
    simp only [List.getD, getO, List.getElem?_eq_getElem h', List.getElem?_eq_getElem h, Option.getD_some] at h1 ⊢
    exact h1
  · have hi' : i < ρ.length := by omega
    have hj' : j < ρ.length := by omega
    simp only [List.getD, List.getElem?_eq_getElem hi', List.getElem?_eq_getElem hj', Option.getD_some] at h
    exact (List.getElem_inj hnd).1 h
  · exact of_decide_eq_true (List.all_eq_true.1 hid id (List.mem_range.2 h))
end
end Go.Av
/- The abstract machine, part 36: rewriting of the rarer operations, on rows. -/
set_option linter.unusedVariables false
set_option linter.unusedSimpArgs false
namespace Go.Av
section
variable {H : Heap} {od : Option Nat}
def slc3R (o : Option (Nat × TypeId × Bool × List (List AVal))) (k id off : Nat) (l h m : Int) : Option (AVal × List Nat) :=
  match o with
  | some (k', _, _, es) => if 0 ≤ l ∧ l ≤ h ∧ h ≤ m ∧ k' = k ∧ off + m ≤ es.length then some (if m = 0 then .emp else .undef, [id, id]) else none
  | none => none
theorem slc3R_some {k' k id off : Nat} {t : TypeId} {fu : Bool} {es : List (List AVal)} {l h m : Int} : slc3R (some (k', t, fu, es)) k id off l h m = if 0 ≤ l ∧ l ≤ h ∧ h ≤ m ∧ k' = k ∧ off + m ≤ es.length then some (if m = 0 then .emp else .undef, [id, id]) else none := rfl
def slc3W (g : Nat → AObj) (k id q off : Nat) (lo hi mx : Option Int) : Option (AVal × List Nat) :=
  match lo, hi, mx with
  | some l, some h, some m => slc3R (objO (g id) q) k id off l h m
  | _, _, _ => none
theorem slc3W_some {k id q off : Nat} {l h m : Int} : slc3W (getO H) k id q off (some l) (some h) (some m) = slc3R (objO (getO H id) q) k id off l h m := rfl
theorem slc3V_row {k id q off len : Nat} {lo : Option Int} {hi mx : Nat → Option Int} : slc3V (getO H) k (.row id q off len) lo hi mx = slc3W (getO H) k id q off lo (hi len) (mx len) := by
  simp only [slc3V, lenOf, slc3W]
  cases hi len with
  | none => cases lo <;> rfl
  | some h =>
    cases mx len with
    | none => cases lo <;> rfl
    | some m =>
      cases lo with
      | none => simp [slcOf]
      | some l =>
        simp only [slcOf, obj_getO, slc3R]
        cases objO (getO H id) q with
        | none => simp
        | some y =>
          obtain ⟨k', t, fu, es⟩ := y
          by_cases h1 : h ≤ m <;> by_cases h2 : 0 ≤ l <;> by_cases h3 : l ≤ h <;> by_cases h4 : k' = k <;> by_cases h5 : off + m ≤ es.length <;> by_cases h6 : off + h ≤ es.length <;> simp [h1, h2, h3, h4, h5, h6]
          all_goals first | omega | (rw [if_pos (by omega)]; simp)
def clrR (od : Option Nat) (zs : List AVal) (o : Option (Nat × TypeId × Bool × List (List AVal))) (id q off len : Nat) : Option Eff :=
  match o with
  | some (k, t, fu, es) => if zs.length = k then some ⟨od, .tup [], [id], [(id, .cells q k t fu (es.take off ++ List.replicate len zs ++ es.drop (off + len)))], []⟩ else none
  | none => none
theorem clrV_row {zs : List AVal} {id q off len : Nat} : clrV od zs (getO H) (.row id q off len) = clrR od zs (objO (getO H id) q) id q off len := by
  simp only [clrV, obj_getO, clrR]
  cases objO (getO H id) q <;> rfl
theorem clrR_some {zs : List AVal} {k id q off len : Nat} {t : TypeId} {fu : Bool} {es : List (List AVal)} : clrR od zs (some (k, t, fu, es)) id q off len = if zs.length = k then some ⟨od, .tup [], [id], [(id, .cells q k t fu (es.take off ++ List.replicate len zs ++ es.drop (off + len)))], []⟩ else none := rfl
def cpyR (od : Option Nat) (k : Nat) (o : Option (Nat × TypeId × Bool × List (List AVal))) (id q off len : Nat) (ys : List (List AVal)) (rd : List Nat) : Option Eff :=
  match o with
  | some (k', t, fu, es) => if k' = k then some ⟨od, .int .i64 (min ys.length len : Nat), id :: rd, [(id, .cells q k t fu (es.take off ++ ys.take (min ys.length len) ++ es.drop (off + min ys.length len)))], []⟩ else none
  | none => none
theorem cpyV_row {k id q off len : Nat} {ys : List (List AVal)} {rd : List Nat} : cpyV od k (getO H) (.row id q off len) (some (ys, rd)) = cpyR od k (objO (getO H id) q) id q off len ys rd := by
  simp only [cpyV, obj_getO, cpyR]
  cases objO (getO H id) q <;> rfl
theorem cpyR_some {k' k id q off len : Nat} {t : TypeId} {fu : Bool} {es ys : List (List AVal)} {rd : List Nat} : cpyR od k (some (k', t, fu, es)) id q off len ys rd = if k' = k then some ⟨od, .int .i64 (min ys.length len : Nat), id :: rd, [(id, .cells q k t fu (es.take off ++ ys.take (min ys.length len) ++ es.drop (off + min ys.length len)))], []⟩ else none := rfl
theorem apzV_int {d : Nat} {t : TypeId} {k bytes f : Nat} {zs : List AVal} {x : AVal} {kk : IntKind} {m : Int} : apzV d t k bytes zs (getO H) f x (.int kk m) = if 0 ≤ m ∧ m ≤ 140737488355328 ∧ zs.length = k then appOf d t k bytes (getO H) f x (List.replicate m.toNat zs) [] else none := rfl
end
attribute [go_sem] slc3R_some slc3W_some slc3V_row clrV_row clrR_some cpyV_row cpyR_some apzV_int
end Go.Av
/- The abstract machine, part 37: calls that use an object up. -/
set_option linter.unusedVariables false
set_option linter.unusedSimpArgs false
namespace Go.Av
mutual
theorem ltv_mono {m m' : Nat} (h : m ≤ m') : ∀ (c : AVal), ltv m c = true → ltv m' c = true
  | .row id st off len, hl => by simp only [ltv, decide_eq_true_eq] at hl ⊢; omega
  | .ptr id st i o, hl => by simp only [ltv, decide_eq_true_eq] at hl ⊢; omega
  | .map id, hl => by simp only [ltv, decide_eq_true_eq] at hl ⊢; omega
  | .agg cs, hl => by simp only [ltv] at hl ⊢; exact ltL_mono h cs hl
  | .tup cs, hl => by simp only [ltv] at hl ⊢; exact ltL_mono h cs hl
  | .func f as bs, hl => by simp only [ltv, Bool.and_eq_true] at hl ⊢; exact ⟨ltL_mono h as hl.1, ltL_mono h bs hl.2⟩
  | .undef, _ => by simp [ltv]
  | .bool _, _ => by simp [ltv]
  | .int _ _, _ => by simp [ltv]
  | .str _, _ => by simp [ltv]
  | .nil, _ => by simp [ltv]
  | .emp, _ => by simp [ltv]
  | .sl _ _, _ => by simp [ltv]
  | .nptr, _ => by simp [ltv]
  | .iptr _ _, _ => by simp [ltv]
  | .nfunc, _ => by simp [ltv]
theorem ltL_mono {m m' : Nat} (h : m ≤ m') : ∀ (cs : List AVal), ltL m cs = true → ltL m' cs = true
  | [], _ => rfl
  | c :: cs, hl => by
    simp only [ltL, Bool.and_eq_true] at hl ⊢
    exact ⟨ltv_mono h c hl.1, ltL_mono h cs hl.2⟩
end
theorem ltO_mono {m m' : Nat} (h : m ≤ m') {o : AObj} (hl : ltO m o = true) : ltO m' o = true := by
  cases o with
  | free => rfl
  | dead => rfl
  | cells st k t fu es => exact List.all_eq_true.2 fun e he => ltL_mono h e (List.all_eq_true.1 hl e he)
  | map es => exact List.all_eq_true.2 fun e he => ltv_mono h e.2 (List.all_eq_true.1 hl e he)
section
variable {P : Program} {n m0 : Nat} {dr : Bool} {rt : List Nat} {E : Lg → Slots → Heap → Prop} {s : Slots} {H : Heap}
/-- A call that changes one object. -/
theorem CX_put (id : Nat) {d : Option Nat} {f : SO} {xs : List SO} {g : FuncId} {first caps cargs : List AVal} {o o' : AObj} {r : AVal} (hA : ACalls P g cargs [o] r [o'])
    (hf : ev (get s) f = .func g first caps) (hargs : renL (rho [id] 1 H.length) cargs = first ++ evs (get s) xs ++ caps) (hlt : ltL 1 cargs = true) (ho : ltO 0 o = true) (ho' : ltO 0 o' = true)
    (hid : getO H id = o) (hb : decide (id < H.length) = true) (hr : ltv 0 r = true) (hE : E ⟨d, rt, [id], [id], H.length, 0⟩ (putS d r s) (H.set id o')) : CX P n m0 dr d f xs rt E s H := by
  refine CX_w [id] [0] (H1 := H.set id o') hA hf hargs hlt ?_ rfl (List.nodup_cons.2 ⟨by simp, List.nodup_nil⟩) ?_ ?_ (Nat.le_refl _) ⟨.inl (by simp), trivial⟩ rfl (ren_lt (m := 0) (fun id h => by omega) r hr) ?_ hE
  · rw [List.all_cons, List.all_nil, Bool.and_true]
    exact ltO_mono (Nat.zero_le _) ho
  · rw [List.all_cons, List.all_nil, Bool.and_true]; exact hb
  · rw [List.map_cons, List.map_nil, List.map_cons, List.map_nil, renO_lt (m := 0) (fun id h => by omega) ho, hid]
  · show setAll [(id, renO _ o')] H ++ [] = _
    rw [List.append_nil, renO_lt (m := 0) (fun id h => by omega) ho']; rfl
/-- A call that uses an object up. -/
theorem CX_eat (id : Nat) {d : Option Nat} {f : SO} {xs : List SO} {g : FuncId} {first caps cargs : List AVal} {o : AObj} {r : AVal} (hA : ACalls P g cargs [o] r [.dead])
    (hf : ev (get s) f = .func g first caps) (hargs : renL (rho [id] 1 H.length) cargs = first ++ evs (get s) xs ++ caps) (hlt : ltL 1 cargs = true) (ho : ltO 0 o = true)
    (hid : getO H id = o) (hb : decide (id < H.length) = true) (hr : ltv 0 r = true) (hE : E ⟨d, rt, [id], [id], H.length, 0⟩ (putS d r s) (H.set id .dead)) : CX P n m0 dr d f xs rt E s H := by
  refine CX_w [id] [0] (H1 := H.set id .dead) hA hf hargs hlt ?_ rfl (List.nodup_cons.2 ⟨by simp, List.nodup_nil⟩) ?_ ?_ (Nat.le_refl _) ⟨.inl (by simp), trivial⟩ rfl (ren_lt (m := 0) (fun id h => by omega) r hr) ?_ hE
  · rw [List.all_cons, List.all_nil, Bool.and_true]
    exact ltO_mono (Nat.zero_le _) ho
  · rw [List.all_cons, List.all_nil, Bool.and_true]; exact hb
  · rw [List.map_cons, List.map_nil, List.map_cons, List.map_nil, renO_lt (m := 0) (fun id h => by omega) ho, hid]
  · show setAll [(id, renO _ AObj.dead)] H ++ [] = _
    rw [List.append_nil]; rfl
end
end Go.Av
/- The abstract machine, part 38: the library's own question whether two slices overlap. -/
set_option linter.unusedVariables false
set_option linter.unusedSimpArgs false
namespace Go.Av
theorem overlaps_ok {P : Program} {f : FuncId} {fn : Func} {tS tR e : TypeId} {k : Nat} (hf : P.funcs[f]? = some fn) (hname : (fn.name == "runtime.NumGoroutine") = false) (hb : fn.body.isNone = true) (hn : Extern.findNext fn = none)
    (he : Extern.find fn = some (Extern.SlicesOverlaps.overlaps #[tS, tS] #[tR])) (ht : P.underlying tS = some (.slice e)) (hz : ∀ w, (Go.sizeOf e).run P w = .ok k w) {qA qB oB lB : Nat} {t : TypeId} {fa fb : Bool} {v : List AVal} {es : List (List AVal)} (hl : 1 ≤ lB) :
    ACalls P f [.row 0 qA 0 1, .row 1 qB oB lB] [.cells qA k t fa [v], .cells qB k t fb es] (.bool false) [.cells qA k t fa [v], .cells qB k t fb es] := by
  intro w G vs hr hsz hvs
  have hs2 : vs.size = 2 := hsz
  have v0 := hvs 0 _ vs[0] rfl (Array.getElem?_eq_getElem (by omega))
  have v1 := hvs 1 _ vs[1] rfl (Array.getElem?_eq_getElem (by omega))
  have hvs2 : vs = #[vs[0], vs[1]] := by
    apply Array.ext
    · simp [hs2]
    · intro i h1 h2
      have : i = 0 ∨ i = 1 := by simp at h2; omega
      rcases this with rfl | rfl <;> rfl
  have oA := hr.obj 0
  have oB' := hr.obj 1
  obtain ⟨hk, -, oA⟩ := (show ObjOk w G _ 0 (.cells qA k t fa [v]) from oA)
  obtain ⟨-, -, oB'⟩ := (show ObjOk w G _ 1 (.cells qB k t fb es) from oB')
  generalize vs[0] = x at *
  generalize vs[1] = y at *
  subst hvs2
  cases v0 with
  | cl _ _ h => cases h
  | row _ _ _ _ capA aA hfA hoA =>
  cases v1 with
  | cl _ _ h => cases h
  | row _ _ _ _ capB aB hfB hoB =>
  obtain ⟨hA1, hA2⟩ := (hoA qA k t fa [v] rfl).2 rfl
  obtain ⟨hB1, hB2⟩ := (hoB qB k t fb es rfl).2 rfl
  rcases hA2 with ⟨_, h, _⟩ | ⟨bA, CA, mA, cA, sA⟩
  · omega
  rcases hB2 with ⟨_, h, _⟩ | ⟨bB, CB, mB, cB, sB⟩
  · omega
  rcases oA with ⟨_, h⟩ | ⟨bA', CA', csA, mA', nA, hpA, szA, leA, -, -, -, -⟩
  · cases h
  rcases oB' with ⟨_, h⟩ | ⟨bB', CB', csB, mB', nB, hpB, szB, leB, -, -, -, -⟩
  · subst h; simp at hB1; omega
  rw [mA] at mA'; injection mA' with mA'; obtain ⟨rfl, rfl⟩ := Prod.mk.inj mA'
  rw [mB] at mB'; injection mB' with mB'; obtain ⟨rfl, rfl⟩ := Prod.mk.inj mB'
  have hne : bA ≠ bB := by
    intro h
    subst h
    have := hr.inj 0 1 bA _ _ rfl rfl mA mB
    cases this
  have cA' : aA = some ⟨bA, 0 * k, none⟩ := by
    rcases cA with h | h
    · simp at leA; omega
    · exact h
  have cB' : aB = some ⟨bB, oB * k, none⟩ := by
    rcases cB with h | h
    · omega
    · exact h
  subst cA' cB'
  have hCB : 0 < CB := by omega
  refine ⟨.value (.bool false), w, ?_, G, .cl _ _ (.bool _), hr, Tr.refl _ _ _⟩
  rw [run_callFunc_extern hf hname hb hn he, Lib.run_overlaps_apart w tS tR e ht k hz ⟨bA, 0 * k, none⟩ ⟨bB, oB * k, none⟩ 1 capA lB capB hne t t csA.size csB.size]
  · rfl
  · simp [World.shape?, hpA]
  · simp [World.shape?, hpB]
  · have : 0 < CB * k := Nat.mul_pos hCB hk
    omega
  · simp [World.frozen?, hpA]
  · simp [World.frozen?, hpA]
end Go.Av
/- The abstract machine, part 39: a nil slice, told as the row of an object that has no block. -/
set_option linter.unusedVariables false
set_option linter.unusedSimpArgs false
namespace Go.Av
section
variable {n m0 : Nat} {s : Slots} {H : Heap}
theorem Gs_virt (d : Nat) {k : Nat} (t : TypeId) (fu : Bool) (hk : 0 < k) (hd : get s d = .nil) : Gs n m0 s H ((d, .row H.length 1 0 0) :: s) (H ++ [.cells 1 k t fu []]) := by
  intro w0 G0 h0 hb0 a w G hr ht
  have hfree : getO H H.length = .free := getO_free (Nat.le_refl _)
  have hnew : getO (H ++ [AObj.cells 1 k t fu []]) H.length = .cells 1 k t fu [] := by simp [getO, List.getD]
  have hold : ∀ j, j ≠ H.length → getO (H ++ [AObj.cells 1 k t fu []]) j = getO H j := fun j hj => by
    rcases Nat.lt_or_ge j H.length with h | h
    · simp [getO, List.getD, List.getElem?_append_left h]
    · rw [getO_free (H := H) h, getO_free]
      simp
      omega
  have hne : ∀ j, getO H j ≠ .free → j ≠ H.length := fun j hj e => hj (by rw [e]; exact hfree)
  let G' : Gh := { G with M := fun j => if j = H.length then none else G.M j }
  have hM : ∀ j, j ≠ H.length → G'.M j = G.M j := fun j hj => by show (if j = H.length then none else G.M j) = _; rw [if_neg hj]
  have hM0 : G'.M H.length = none := by show (if H.length = H.length then none else G.M H.length) = _; rw [if_pos rfl]
  have hE : Ext G.M (getO H) G'.M (getO (H ++ [AObj.cells 1 k t fu []])) := by
    refine ⟨fun j hj => ?_, fun j st k0 t0 fu0 es0 hj h'' => ?_, fun j es0 hj h'' => ?_⟩
    · rw [hold j (hne j hj)]; exact hj
    · rw [hold j (hne j hj)] at h''
      exact ⟨_, _, _, _, _, h'', Nat.le_refl _, fun _ => ⟨rfl, Nat.le_refl _, hM j (hne j hj)⟩⟩
    · rw [hold j (hne j hj)] at h''
      exact ⟨_, h'', hM j (hne j hj)⟩
  have vr : ∀ {c v}, VR w G (getO H) c v → VR w G' (getO (H ++ [AObj.cells 1 k t fu []])) c v := fun hv => hv.mono (fun _ h => h) (fun _ _ => rfl) hE
  have hl : ∀ j, (getO H j).live = true → j ≠ H.length := fun j hj => hne j (by intro e; rw [e] at hj; cases hj)
  have hHR : HR w G' (getO (H ++ [AObj.cells 1 k t fu []])) := by
    refine ⟨fun j => ?_, fun j j' b C C' l l' m m' => ?_, hr.heap.lt⟩
    · by_cases hj : j = H.length
      · subst hj
        rw [hnew]
        exact ⟨hk, by simp, .inl ⟨hM0, rfl⟩⟩
      · have hoj := hr.heap.obj j
        rw [hold j hj]
        rw [show (S s H).h = getO H from rfl] at hoj
        cases h : getO H j with
        | free => trivial
        | dead => trivial
        | cells st k0 t0 fu0 es =>
          rw [h] at hoj
          obtain ⟨h1, h2, h3⟩ := hoj
          refine ⟨h1, h2, ?_⟩
          rw [hM j hj]
          rcases h3 with h3 | ⟨b, C, cs, a1, a2, a3, a4, a5, a6, a7, a8, a9⟩
          · exact .inl h3
          · exact .inr ⟨b, C, cs, a1, a2, a3, a4, a5, a6, a7, a8, fun i e j c v b1 b2 b3 => vr (a9 i e j c v b1 b2 b3)⟩
        | map es =>
          rw [h] at hoj
          obtain ⟨b, C, ents, clock, a1, a2, a3, a4, a5⟩ := hoj
          exact ⟨b, C, ents, clock, by rw [hM j hj]; exact a1, a2, a3, a4, fun i n c e b1 b2 => ⟨(a5 i n c e b1 b2).1, vr (a5 i n c e b1 b2).2⟩⟩
    · have hj : j ≠ H.length := fun e => by rw [e, hM0] at m; cases m
      have hj' : j' ≠ H.length := fun e => by rw [e, hM0] at m'; cases m'
      rw [hold j hj] at l
      rw [hold j' hj'] at l'
      rw [hM j hj] at m
      rw [hM j' hj'] at m'
      exact hr.heap.inj _ _ _ _ _ l l' m m'
  have hTr : Tr w G (getO H) w G' (getO (H ++ [AObj.cells 1 k t fu []])) := by
    refine ⟨Nat.le_refl _, fun _ _ _ => rfl, rfl, rfl, rfl, fun _ h => h, fun b hb => .inl hb, fun b ⟨j, C, l, m⟩ => .inl ?_, hE⟩
    have hj : j ≠ H.length := fun e => by rw [e, hM0] at m; cases m
    rw [hold j hj] at l
    rw [hM j hj] at m
    exact ⟨j, C, l, m⟩
  refine ⟨G', ⟨fun t' => ?_, hr.defers, hr.size, hHR⟩, ht.trans hTr⟩
  show VR w G' _ (get ((d, AVal.row H.length 1 0 0) :: s) t') _
  simp only [get]
  by_cases e : d = t'
  · rw [if_pos e]
    subst e
    have h1 := hr.slots d
    rw [show (S s H).s d = get s d from rfl, hd] at h1
    rw [h1.nil_inv]
    refine .row _ _ _ _ _ _ (by rw [show (S ((d, AVal.row H.length 1 0 0) :: s) (H ++ [AObj.cells 1 k t fu []])).h = getO (H ++ [AObj.cells 1 k t fu []]) from rfl, hnew]; intro h; cases h) fun st' k' t' fu' es h => ?_
    rw [show (S ((d, AVal.row H.length 1 0 0) :: s) (H ++ [AObj.cells 1 k t fu []])).h = getO (H ++ [AObj.cells 1 k t fu []]) from rfl, hnew] at h
    cases h
    exact ⟨Nat.le_refl _, fun _ => ⟨Nat.le_refl _, .inl ⟨hM0, rfl, rfl⟩⟩⟩
  · rw [if_neg e]
    exact vr (hr.slots t')
end
end Go.Av
/- The abstract machine, part 40: a call that uses an object up, and looks at another. -/
set_option linter.unusedVariables false
set_option linter.unusedSimpArgs false
namespace Go.Av
section
variable {P : Program} {n m0 : Nat} {dr : Bool} {rt : List Nat} {E : Lg → Slots → Heap → Prop} {s : Slots} {H : Heap}
theorem CX_eat2 (id id2 : Nat) {d : Option Nat} {f : SO} {xs : List SO} {g : FuncId} {first caps cargs : List AVal} {o o2 : AObj} {r : AVal} (hA : ACalls P g cargs [o, o2] r [.dead, o2])
    (hf : ev (get s) f = .func g first caps) (hargs : renL (rho [id, id2] 2 H.length) cargs = first ++ evs (get s) xs ++ caps) (hlt : ltL 2 cargs = true) (ho : ltO 0 o = true) (ho2 : ltO 0 o2 = true)
    (hne : decide (id = id2) = false) (hid : getO H id = o) (hid2 : getO H id2 = o2) (hb : decide (id < H.length) = true) (hb2 : decide (id2 < H.length) = true) (hr : ltv 0 r = true) (hE : E ⟨d, rt, [id, id2], [id], H.length, 0⟩ (putS d r s) (H.set id .dead)) : CX P n m0 dr d f xs rt E s H := by
  refine CX_w [id, id2] [0] (H1 := H.set id .dead) hA hf hargs hlt ?_ rfl (List.nodup_cons.2 ⟨by simpa using of_decide_eq_false hne, List.nodup_cons.2 ⟨by simp, List.nodup_nil⟩⟩) ?_ ?_ (Nat.le_refl _) ⟨.inl (by simp), .inr rfl, trivial⟩ rfl (ren_lt (m := 0) (fun id h => by omega) r hr) ?_ hE
  · rw [List.all_cons, List.all_cons, List.all_nil, Bool.and_true, ltO_mono (Nat.zero_le _) ho, ltO_mono (Nat.zero_le _) ho2]; rfl
  · rw [List.all_cons, List.all_cons, List.all_nil, Bool.and_true, hb, hb2]; rfl
  · rw [List.map_cons, List.map_cons, List.map_nil, List.map_cons, List.map_cons, List.map_nil, renO_lt (m := 0) (fun id h => by omega) ho, renO_lt (m := 0) (fun id h => by omega) ho2, hid, hid2]
  · show setAll [(id, renO _ AObj.dead)] H ++ [] = _
    rw [List.append_nil]; rfl
end
end Go.Av
/- The abstract machine, part 41: a call that changes two objects. -/
set_option linter.unusedVariables false
set_option linter.unusedSimpArgs false
namespace Go.Av
section
variable {P : Program} {n m0 : Nat} {dr : Bool} {rt : List Nat} {E : Lg → Slots → Heap → Prop} {s : Slots} {H : Heap}
theorem CX_put2 (id id2 : Nat) {d : Option Nat} {f : SO} {xs : List SO} {g : FuncId} {first caps cargs : List AVal} {o o2 o' o2' : AObj} {r : AVal} (hA : ACalls P g cargs [o, o2] r [o', o2'])
    (hf : ev (get s) f = .func g first caps) (hargs : renL (rho [id, id2] 2 H.length) cargs = first ++ evs (get s) xs ++ caps) (hlt : ltL 2 cargs = true) (ho : ltO 2 o = true) (ho2 : ltO 2 o2 = true) (ho' : ltO 0 o' = true) (ho2' : ltO 0 o2' = true)
    (hne : decide (id = id2) = false) (hid : getO H id = renO (rho [id, id2] 2 H.length) o) (hid2 : getO H id2 = renO (rho [id, id2] 2 H.length) o2) (hb : decide (id < H.length) = true) (hb2 : decide (id2 < H.length) = true) (hr : ltv 0 r = true)
    (hE : E ⟨d, rt, [id, id2], [id, id2], H.length, 0⟩ (putS d r s) ((H.set id2 o2').set id o')) : CX P n m0 dr d f xs rt E s H := by
  refine CX_w [id, id2] [0, 1] (H1 := (H.set id2 o2').set id o') hA hf hargs hlt ?_ rfl (List.nodup_cons.2 ⟨by simpa using of_decide_eq_false hne, List.nodup_cons.2 ⟨by simp, List.nodup_nil⟩⟩) ?_ ?_ (Nat.le_refl _) ⟨.inl (by simp), .inl (by simp), trivial⟩ rfl (ren_lt (m := 0) (fun id h => by omega) r hr) ?_ hE
  · rw [List.all_cons, List.all_cons, List.all_nil, Bool.and_true]
    show (ltO 2 o && ltO 2 o2) = true
    rw [ho, ho2]; rfl
  · rw [List.all_cons, List.all_cons, List.all_nil, Bool.and_true, hb, hb2]; rfl
  · rw [List.map_cons, List.map_cons, List.map_nil, List.map_cons, List.map_cons, List.map_nil, hid, hid2]; rfl
  · show setAll [(id, renO _ o'), (id2, renO _ o2')] H ++ [] = _
    rw [List.append_nil, renO_lt (m := 0) (fun id h => by omega) ho', renO_lt (m := 0) (fun id h => by omega) ho2']; rfl
end
end Go.Av
