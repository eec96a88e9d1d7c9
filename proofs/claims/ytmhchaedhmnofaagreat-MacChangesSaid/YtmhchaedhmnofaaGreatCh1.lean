/- The seat: part Ch1. -/
import Derived.Calls
import Derived.Orders
import Derived.Laws.Rows
import Derived.Laws.CopyRow
import Derived.Laws.AppendOwn
import Derived.Laws.Slices
import Derived.Laws.BytesArg
import Derived.Laws.StructEq
import Derived.Laws.Small
import Derived.WideLaws
import Derived.Laws.MakeOwn
import Derived.Lib.ConvBytes
import Derived.Great.FillDense
import Derived.Great.BuildSlice
set_option linter.unusedVariables false
set_option linter.unusedSimpArgs false
/- The abstract machine, part 1: abstract values, abstract heaps, and what they say of Go's values and worlds. -/
namespace Go.Av

inductive AVal where
  | undef
  | bool (b : Bool)
  | int (k : IntKind) (n : Int)
  | str (s : ByteArray)
  | nil
  | emp
  | sl (k : Nat) (xs : List (List AVal))
  | row (id st off len : Nat)
  | nptr
  | ptr (id st i o : Nat)
  | iptr (cs : List AVal) (o : Nat)
  | agg (cs : List AVal)
  | tup (vs : List AVal)
  | func (f : FuncId) (first caps : List AVal)
  | nfunc
  | map (id : Nat)
  deriving Inhabited

inductive AObj where
  | free
  | dead
  | cells (st k : Nat) (t : TypeId) (fu : Bool) (es : List (List AVal))
  | map (es : List (Int × AVal))
  deriving Inhabited

/-- What is known besides: blocks that nobody writes any more, and where each object lies, with its capacity in elements. -/
structure Gh where
  I : Nat → Prop
  M : Nat → Option (Nat × Nat)

/-- Values that lead to nothing that is written any more. -/
inductive CR (w : World) (I : Nat → Prop) : AVal → Value → Prop
  | bool (b : Bool) : CR w I (.bool b) (.bool b)
  | int (k : IntKind) (n : Int) : CR w I (.int k n) (.int k n)
  | str (s : ByteArray) : CR w I (.str s) (.string s)
  | nil : CR w I .nil (.slice none 0 0)
  | emp (a : Option Addr) : CR w I .emp (.slice a 0 0)
  | slz (k : Nat) (a : Option Addr) (cap : Nat) : CR w I (.sl k []) (.slice a 0 cap)
  | sl (k : Nat) (xs : List (List AVal)) (b o cap : Nat) (f : Nat → Nat → Value) (hI : I b) (hcap : xs.length ≤ cap) (hk : ∀ e ∈ xs, e.length = k)
      (hc : ∀ (i : Nat) e (j : Nat) c, xs[i]? = some e → e[j]? = some c → w.cell? ⟨b, o + (i * k + j), none⟩ = some (f i j))
      (hr : ∀ (i : Nat) e (j : Nat) c, xs[i]? = some e → e[j]? = some c → CR w I c (f i j)) :
      CR w I (.sl k xs) (.slice (some ⟨b, o, none⟩) xs.length cap)
  | nptr : CR w I .nptr (.pointer none)
  | iptr (cs : List AVal) (o b p : Nat) (f : Nat → Value) (hI : I b)
      (hc : ∀ (j : Nat) c, cs[j]? = some c → w.cell? ⟨b, p + j, none⟩ = some (f j))
      (hr : ∀ (j : Nat) c, cs[j]? = some c → CR w I c (f j)) :
      CR w I (.iptr cs o) (.pointer (some ⟨b, p + o, none⟩))
  | nfunc : CR w I .nfunc .nilFunc

theorem CR.one {w : World} {I : Nat → Prop} {c : AVal} {v : Value} (h : CR w I c v) : v.oneCell' = true := by
  cases h <;> rfl

/-- The same block reads the same. -/
theorem cell_of_block {w w' : World} {b o : Nat} (h : w'.heap[b]? = w.heap[b]?) : w'.cell? ⟨b, o, none⟩ = w.cell? ⟨b, o, none⟩ := by
  simp [World.cell?, h]

theorem CR.mono {w w' : World} {I I' : Nat → Prop} {c : AVal} {v : Value} (h : CR w I c v)
    (hI : ∀ b, I b → I' b) (hw : ∀ b, I b → w'.heap[b]? = w.heap[b]?) : CR w' I' c v := by
  induction h with
  | bool b => exact .bool b
  | int k n => exact .int k n
  | str s => exact .str s
  | nil => exact .nil
  | emp a => exact .emp a
  | slz k a cap => exact .slz k a cap
  | sl k xs b o cap f hb hcap hk hc _ ih =>
    exact .sl k xs b o cap f (hI b hb) hcap hk (fun i e j c h1 h2 => (cell_of_block (hw b hb)).trans (hc i e j c h1 h2)) ih
  | nptr => exact .nptr
  | iptr cs o b p f hb hc _ ih =>
    exact .iptr cs o b p f (hI b hb) (fun j c h1 => (cell_of_block (hw b hb)).trans (hc j c h1)) ih
  | nfunc => exact .nfunc

/-- A row's header, of an object of n elements of k cells: where it lies and what room it has. -/
def RowOk (G : Gh) (id k n off len : Nat) (a : Option Addr) (cap : Nat) : Prop :=
  off + len ≤ n ∧ ((G.M id = none ∧ len = 0 ∧ cap = 0) ∨ ∃ b C, G.M id = some (b, C) ∧ (cap = 0 ∨ a = some ⟨b, off * k, none⟩) ∧ off + cap = C)

inductive VR (w : World) (G : Gh) (h : Nat → AObj) : AVal → Value → Prop
  | undef (v : Value) : VR w G h .undef v
  | cl (c : AVal) (v : Value) (hc : CR w G.I c v) : VR w G h c v
  | row (id st off len cap : Nat) (a : Option Addr) (hf : h id ≠ .free)
      (ho : ∀ st' k t fu es, h id = .cells st' k t fu es → st ≤ st' ∧ (st = st' → RowOk G id k es.length off len a cap)) : VR w G h (.row id st off len) (.slice a len cap)
  | ptr (id st i o : Nat) (a : Addr) (hf : h id ≠ .free)
      (ho : ∀ st' k t fu es, h id = .cells st' k t fu es → st ≤ st' ∧ (st = st' → ∃ b C, G.M id = some (b, C) ∧ a = ⟨b, i * k + o, none⟩)) : VR w G h (.ptr id st i o) (.pointer (some a))
  | map (id r : Nat) (hf : h id ≠ .free) (ho : ∀ es, h id = .map es → ∃ C, G.M id = some (r, C)) : VR w G h (.map id) (.map (some r))
  | agg (cs : List AVal) (vs : Array Value) (hl : cs.length = vs.size) (h1 : ∀ (j : Nat) v, vs[j]? = some v → v.oneCell' = true)
      (hr : ∀ (j : Nat) c v, cs[j]? = some c → vs[j]? = some v → VR w G h c v) : VR w G h (.agg cs) (.agg vs)
  | tup (cs : List AVal) (vs : Array Value) (hl : cs.length = vs.size)
      (hr : ∀ (j : Nat) c v, cs[j]? = some c → vs[j]? = some v → VR w G h c v) : VR w G h (.tup cs) (.tuple vs)
  | func (f : FuncId) (as bs : List AVal) (xs ys : Array Value) (hl : as.length = xs.size) (hl' : bs.length = ys.size)
      (hr : ∀ (j : Nat) c v, as[j]? = some c → xs[j]? = some v → VR w G h c v)
      (hr' : ∀ (j : Nat) c v, bs[j]? = some c → ys[j]? = some v → VR w G h c v) : VR w G h (.func f as bs) (.func (.func f) xs ys)

/-- How heaps may go on: an object of the same stamp has no fewer elements, and lies where it lay. -/
structure Ext (M : Nat → Option (Nat × Nat)) (h : Nat → AObj) (M' : Nat → Option (Nat × Nat)) (h' : Nat → AObj) : Prop where
  free : ∀ id, h id ≠ .free → h' id ≠ .free
  cells : ∀ id st k t fu es', h id ≠ .free → h' id = .cells st k t fu es' → ∃ st0 k0 t0 fu0 es, h id = .cells st0 k0 t0 fu0 es ∧ st0 ≤ st ∧
    (st0 = st → k0 = k ∧ es.length ≤ es'.length ∧ M' id = M id)
  map : ∀ id es', h id ≠ .free → h' id = .map es' → ∃ es, h id = .map es ∧ M' id = M id

theorem Ext.refl (M : Nat → Option (Nat × Nat)) (h : Nat → AObj) : Ext M h M h :=
  ⟨fun _ h => h, fun _ _ _ _ _ _ _ h => ⟨_, _, _, _, _, h, Nat.le_refl _, fun _ => ⟨rfl, Nat.le_refl _, rfl⟩⟩, fun _ _ _ h => ⟨_, h, rfl⟩⟩

theorem VR.mono {w w' : World} {G G' : Gh} {h h' : Nat → AObj} {c : AVal} {v : Value} (hv : VR w G h c v)
    (hI : ∀ b, G.I b → G'.I b) (hw : ∀ b, G.I b → w'.heap[b]? = w.heap[b]?) (he : Ext G.M h G'.M h') : VR w' G' h' c v := by
  induction hv with
  | undef v => exact .undef v
  | cl c v hc => exact .cl c v (hc.mono hI hw)
  | row id st off len cap a hf ho =>
    refine .row id st off len cap a (he.free id hf) fun st' k t fu es' h' => ?_
    obtain ⟨st0, k0, t0, fu0, es, h0, hle, hJ⟩ := he.cells id st' k t fu es' hf h'
    obtain ⟨h1, h2⟩ := ho st0 k0 t0 fu0 es h0
    refine ⟨by omega, fun e => ?_⟩
    obtain ⟨hk, hl, hM⟩ := hJ (by omega)
    obtain ⟨h3, h4⟩ := h2 (by omega)
    subst hk
    refine ⟨by omega, ?_⟩
    rw [hM]
    exact h4
  | ptr id st i o a hf ho =>
    refine .ptr id st i o a (he.free id hf) fun st' k t fu es' h' => ?_
    obtain ⟨st0, k0, t0, fu0, es, h0, hle, hJ⟩ := he.cells id st' k t fu es' hf h'
    obtain ⟨h1, h2⟩ := ho st0 k0 t0 fu0 es h0
    refine ⟨by omega, fun e => ?_⟩
    obtain ⟨hk, hl, hM⟩ := hJ (by omega)
    subst hk
    rw [hM]
    exact h2 (by omega)
  | map id r hf ho =>
    refine .map id r (he.free id hf) fun es' h' => ?_
    obtain ⟨es, h0, hM⟩ := he.map id es' hf h'
    rw [hM]
    exact ho es h0
  | agg cs vs hl h1 _ ih => exact .agg cs vs hl h1 ih
  | tup cs vs hl _ ih => exact .tup cs vs hl ih
  | func f as bs xs ys hl hl' _ _ ih ih' => exact .func f as bs xs ys hl hl' ih ih'

/-- An object and its block. -/
def ObjOk (w : World) (G : Gh) (h : Nat → AObj) (id : Nat) : AObj → Prop
  | .free => True
  | .dead => True
  | .cells _ k t fu es => 0 < k ∧ (∀ e ∈ es, e.length = k) ∧ ((G.M id = none ∧ es = []) ∨ ∃ b C cs, G.M id = some (b, C) ∧ ¬ G.I b ∧
      w.heap[b]? = some (.cells cs t (0, 0)) ∧ cs.size = C * k ∧ es.length ≤ C ∧ (fu = true → es.length = C) ∧ C ≤ maxLen ∧ (∀ (j : Nat) v, cs[j]? = some v → v.oneCell' = true) ∧
      ∀ (i : Nat) e (j : Nat) c v, es[i]? = some e → e[j]? = some c → cs[i * k + j]? = some v → VR w G h c v)
  | .map es => ∃ b C ents clock, G.M id = some (b, C) ∧ ¬ G.I b ∧ w.heap[b]? = some (.map ents clock) ∧ es.length = ents.size ∧
      ∀ (i : Nat) n c e, es[i]? = some (n, c) → ents[i]? = some e → e.key = .int .i64 n ∧ VR w G h c e.val

def AObj.live : AObj → Bool
  | .cells .. | .map _ => true
  | _ => false

/-- The blocks of live objects. -/
def Owned (G : Gh) (h : Nat → AObj) (b : Nat) : Prop := ∃ id C, (h id).live = true ∧ G.M id = some (b, C)

structure HR (w : World) (G : Gh) (h : Nat → AObj) : Prop where
  obj : ∀ id, ObjOk w G h id (h id)
  inj : ∀ id id' b C C', (h id).live = true → (h id').live = true → G.M id = some (b, C) → G.M id' = some (b, C') → id = id'
  lt : ∀ b, G.I b → b < w.heap.size

/-- What has become of the world: nothing but own blocks has changed. -/
structure Tr (w : World) (G : Gh) (h : Nat → AObj) (w' : World) (G' : Gh) (h' : Nat → AObj) : Prop where
  size : w.heap.size ≤ w'.heap.size
  keep : ∀ b, b < w.heap.size → ¬ Owned G h b → w'.heap[b]? = w.heap[b]?
  os : w'.os = w.os
  tape : w'.tape = w.tape
  output : w'.output = w.output
  I : ∀ b, G.I b → G'.I b
  I' : ∀ b, G'.I b → G.I b ∨ Owned G h b ∨ w.heap.size ≤ b
  own' : ∀ b, Owned G' h' b → Owned G h b ∨ w.heap.size ≤ b
  ext : Ext G.M h G'.M h'

theorem Ext.trans {M M' M'' : Nat → Option (Nat × Nat)} {h h' h'' : Nat → AObj} (a : Ext M h M' h') (b : Ext M' h' M'' h'') : Ext M h M'' h'' where
  free := fun id hf => b.free id (a.free id hf)
  cells := fun id st k t fu es hf hh => by
    obtain ⟨st1, k1, t1, fu1, es1, e1, l1, c1⟩ := b.cells id st k t fu es (a.free id hf) hh
    obtain ⟨st0, k0, t0, fu0, es0, e0, l0, c0⟩ := a.cells id st1 k1 t1 fu1 es1 hf e1
    refine ⟨st0, k0, t0, fu0, es0, e0, Nat.le_trans l0 l1, fun e => ?_⟩
    obtain ⟨p1, p2, p3⟩ := c0 (by omega)
    obtain ⟨q1, q2, q3⟩ := c1 (by omega)
    exact ⟨p1.trans q1, Nat.le_trans p2 q2, q3.trans p3⟩
  map := fun id es hf hh => by
    obtain ⟨es1, e1, c1⟩ := b.map id es (a.free id hf) hh
    obtain ⟨es0, e0, c0⟩ := a.map id es1 hf e1
    exact ⟨es0, e0, c1.trans c0⟩

theorem Tr.refl (w : World) (G : Gh) (h : Nat → AObj) : Tr w G h w G h :=
  ⟨Nat.le_refl _, fun _ _ _ => rfl, rfl, rfl, rfl, fun _ h => h, fun _ h => .inl h, fun _ h => .inl h, Ext.refl _ _⟩

theorem Tr.trans {w w' w'' : World} {G G' G'' : Gh} {h h' h'' : Nat → AObj} (a : Tr w G h w' G' h') (b : Tr w' G' h' w'' G'' h'') : Tr w G h w'' G'' h'' where
  size := Nat.le_trans a.size b.size
  keep := fun k hk ho => (b.keep k (Nat.lt_of_lt_of_le hk a.size) (fun ho' => by
    rcases a.own' k ho' with h | h
    · exact ho h
    · omega)).trans (a.keep k hk ho)
  os := b.os.trans a.os
  tape := b.tape.trans a.tape
  output := b.output.trans a.output
  I := fun k hk => b.I k (a.I k hk)
  I' := fun k hk => by
    rcases b.I' k hk with h | h | h
    · exact a.I' k h
    · rcases a.own' k h with h | h
      · exact .inr (.inl h)
      · exact .inr (.inr h)
    · exact .inr (.inr (Nat.le_trans a.size h))
  own' := fun k hk => by
    rcases b.own' k hk with h | h
    · exact a.own' k h
    · exact .inr (Nat.le_trans a.size h)
  ext := a.ext.trans b.ext

/-- Own blocks are no frozen ones. -/
theorem HR.notI {w : World} {G : Gh} {h : Nat → AObj} (hr : HR w G h) {b : Nat} (ho : Owned G h b) : ¬ G.I b := by
  obtain ⟨id, C, hl, hM⟩ := ho
  have := hr.obj id
  cases hid : h id with
  | free => simp [hid, AObj.live] at hl
  | dead => simp [hid, AObj.live] at hl
  | cells st k t fu es =>
    rw [hid] at this
    obtain ⟨_, _, h3⟩ := this
    rcases h3 with ⟨h3, _⟩ | ⟨b', C', cs, hM', hI, _⟩
    · rw [hM] at h3; cases h3
    · rw [hM] at hM'; cases hM'; exact hI
  | map es =>
    rw [hid] at this
    obtain ⟨b', C', ents, clock, hM', hI, _⟩ := this
    rw [hM] at hM'; cases hM'; exact hI

theorem Tr.keepI {w w' : World} {G G' : Gh} {h h' : Nat → AObj} (t : Tr w G h w' G' h') (hr : HR w G h) : ∀ b, G.I b → w'.heap[b]? = w.heap[b]? :=
  fun b hb => t.keep b (hr.lt b hb) fun ho => hr.notI ho hb

/-- The state of a function at work: its temporaries, and the heap. -/
structure St where
  s : Nat → AVal
  h : Nat → AObj

structure Rel (n : Nat) (st : St) (a : Go.Act) (w : World) (G : Gh) : Prop where
  slots : ∀ t, VR w G st.h (st.s t) (a.tmps.getD t undef)
  defers : a.defers = []
  size : a.tmps.size = n
  heap : HR w G st.h


def upd {β : Type} (f : Nat → β) (i : Nat) (x : β) : Nat → β := fun j => if j = i then x else f j
theorem upd_same {β : Type} (f : Nat → β) (i : Nat) (x : β) : upd f i x i = x := by simp [upd]
theorem upd_ne {β : Type} (f : Nat → β) {i j : Nat} (x : β) (h : j ≠ i) : upd f i x j = f j := by simp [upd, h]

/-- The world's memory is as it was, but for draws. -/
theorem HR.drew {w : World} {G : Gh} {h : Nat → AObj} (hr : HR w G h) : HR w.drew G h where
  obj := fun id => by
    have := hr.obj id
    have hv : ∀ c v, VR w G h c v → VR w.drew G h c v := fun c v hv => hv.mono (fun _ h => h) (fun _ _ => rfl) (Ext.refl _ _)
    cases hid : h id with
    | free => trivial
    | dead => trivial
    | cells st k t fu es =>
      rw [hid] at this
      obtain ⟨h1, h2, h3⟩ := this
      refine ⟨h1, h2, h3.imp (fun x => x) fun ⟨b, C, cs, a1, a2, a3, a4, a5, a6, a7, a8, a9⟩ => ⟨b, C, cs, a1, a2, a3, a4, a5, a6, a7, a8, fun i e j c v b1 b2 b3 => hv _ _ (a9 i e j c v b1 b2 b3)⟩⟩
    | map es =>
      rw [hid] at this
      obtain ⟨b, C, ents, clock, a1, a2, a3, a4, a5⟩ := this
      exact ⟨b, C, ents, clock, a1, a2, a3, a4, fun i n c e b1 b2 => ⟨(a5 i n c e b1 b2).1, hv _ _ (a5 i n c e b1 b2).2⟩⟩
  inj := hr.inj
  lt := hr.lt

/-- An object goes on as it was in a later world that keeps its block. -/
theorem ObjOk.mono {w w' : World} {G G' : Gh} {h h' : Nat → AObj} {id : Nat} {o : AObj} (ho : ObjOk w G h id o)
    (hM : o.live = true → G'.M id = G.M id) (hI : ∀ b, G.I b → G'.I b) (hw : ∀ b, G.I b → w'.heap[b]? = w.heap[b]?)
    (hn : ∀ b C, o.live = true → G.M id = some (b, C) → ¬ G'.I b ∧ w'.heap[b]? = w.heap[b]?) (he : Ext G.M h G'.M h') : ObjOk w' G' h' id o := by
  have hv : ∀ c v, VR w G h c v → VR w' G' h' c v := fun c v hv => hv.mono hI hw he
  cases o with
  | free => trivial
  | dead => trivial
  | cells st k t fu es =>
    obtain ⟨h1, h2, h3⟩ := ho
    refine ⟨h1, h2, ?_⟩
    rw [hM rfl]
    rcases h3 with h3 | ⟨b, C, cs, a1, a2, a3, a4, a5, a6, a7, a8, a9⟩
    · exact .inl h3
    · obtain ⟨n1, n2⟩ := hn b C rfl a1
      exact .inr ⟨b, C, cs, a1, n1, n2.trans a3, a4, a5, a6, a7, a8, fun i e j c v b1 b2 b3 => hv _ _ (a9 i e j c v b1 b2 b3)⟩
  | map es =>
    obtain ⟨b, C, ents, clock, a1, a2, a3, a4, a5⟩ := ho
    obtain ⟨n1, n2⟩ := hn b C rfl a1
    exact ⟨b, C, ents, clock, (hM rfl).trans a1, n1, n2.trans a3, a4, fun i n c e b1 b2 => ⟨(a5 i n c e b1 b2).1, hv _ _ (a5 i n c e b1 b2).2⟩⟩

/-- Going on: each temporary still means what it meant. -/
theorem Rel.ext {n : Nat} {st : St} {a : Go.Act} {w w' : World} {G G' : Gh} {h' : Nat → AObj} (hr : Rel n st a w G)
    (hI : ∀ b, G.I b → G'.I b) (hw : ∀ b, G.I b → w'.heap[b]? = w.heap[b]?) (he : Ext G.M st.h G'.M h') (hh : HR w' G' h') :
    Rel n ⟨st.s, h'⟩ a w' G' :=
  ⟨fun t => (hr.slots t).mono hI hw he, hr.defers, hr.size, hh⟩

theorem Rel.put {n : Nat} {st : St} {a : Go.Act} {w : World} {G : Gh} (hr : Rel n st a w G) {d : Nat} {c : AVal} {v : Value} (hd : d < n)
    (hv : VR w G st.h c v) : Rel n ⟨upd st.s d c, st.h⟩ (a.put (some d) v) w G where
  slots := fun t => by
    by_cases ht : t = d
    · subst ht
      have : (a.put (some t) v).tmps.getD t undef = v := by
        have := hr.size
        simp [Act.put, this, hd]
      rw [this]
      show VR w G st.h (upd st.s t c t) v
      rw [upd_same]
      exact hv
    · have : (a.put (some d) v).tmps.getD t undef = a.tmps.getD t undef := by
        simp [Act.put, Array.getElem?_setIfInBounds_ne (Ne.symm ht)]
      rw [this]
      show VR w G st.h (upd st.s d c t) _
      rw [upd_ne _ _ ht]
      exact hr.slots t
  defers := hr.defers
  size := by simpa [Act.put] using hr.size
  heap := hr.heap

/-- A new object. The block is the world's next one; or there is none, where it has no element. -/
theorem HR.alloc {w : World} {G : Gh} {h : Nat → AObj} (hr : HR w G h) (hG : ∀ b C id, (h id).live = true → G.M id = some (b, C) → b < w.heap.size) {f : Nat} (hf : h f = .free) (k C : Nat) (t : TypeId) (fu : Bool)
    (es : List (List AVal)) (cs : Array Value) (hk : 0 < k) (he : ∀ e ∈ es, e.length = k) (hs : cs.size = C * k) (hl : es.length ≤ C)
    (hfu : fu = true → es.length = C) (hC : C ≤ maxLen) (h1 : ∀ (j : Nat) v, cs[j]? = some v → v.oneCell' = true)
    (hv : ∀ (i : Nat) e (j : Nat) c v, es[i]? = some e → e[j]? = some c → cs[i * k + j]? = some v → VR w G h c v) :
    let w' := w.alloc (.cells cs t)
    let G' : Gh := ⟨G.I, upd G.M f (some (w.heap.size, C))⟩
    let h' := upd h f (.cells 0 k t fu es)
    HR w' G' h' ∧ Ext G.M h G'.M h' ∧ Tr w G h w' G' h' := by
  intro w' G' h'
  have hkeep : ∀ b, b < w.heap.size → w'.heap[b]? = w.heap[b]? := fun b hb => heap_alloc_old w _ b hb
  have hE : Ext G.M h G'.M h' := by
    refine ⟨fun id hid => ?_, fun id st' k' t' fu' es' hid h'' => ?_, fun id es' hid h'' => ?_⟩
    · by_cases e : id = f
      · subst e; exact absurd hf hid
      · show upd h f _ id ≠ _
        rw [upd_ne _ _ e]; exact hid
    · by_cases e : id = f
      · subst e; exact absurd hf hid
      · have h0 : h id = .cells st' k' t' fu' es' := by rw [← h'']; exact (upd_ne _ _ e).symm
        exact ⟨_, _, _, _, _, h0, Nat.le_refl _, fun _ => ⟨rfl, Nat.le_refl _, upd_ne _ _ e⟩⟩
    · by_cases e : id = f
      · subst e; exact absurd hf hid
      · have h0 : h id = .map es' := by rw [← h'']; exact (upd_ne _ _ e).symm
        exact ⟨_, h0, upd_ne _ _ e⟩
  have hI : ∀ b, G.I b → G'.I b := fun _ h => h
  have hIw : ∀ b, G.I b → w'.heap[b]? = w.heap[b]? := fun b hb => hkeep b (hr.lt b hb)
  have hlive : ∀ id, id ≠ f → h' id = h id := fun id e => upd_ne _ _ e
  have hM : ∀ id, id ≠ f → G'.M id = G.M id := fun id e => upd_ne _ _ e
  refine ⟨⟨fun id => ?_, fun id id' b C1 C2 l1 l2 m1 m2 => ?_, fun b hb => ?_⟩, hE, ⟨?_, fun b hb _ => hkeep b hb, rfl, rfl, rfl, hI, fun b hb => .inl hb, fun b hb => ?_, hE⟩⟩
  · by_cases e : id = f
    · subst e
      have : h' id = .cells 0 k t fu es := upd_same _ _ _
      rw [this]
      refine ⟨hk, he, .inr ⟨w.heap.size, C, cs, upd_same _ _ _, fun hb => ?_, heap_alloc_new w _, hs, hl, hfu, hC, h1, fun i e j c v b1 b2 b3 => (hv i e j c v b1 b2 b3).mono hI hIw hE⟩⟩
      have := hr.lt _ hb
      omega
    · rw [hlive id e]
      exact (hr.obj id).mono (fun _ => hM id e) hI hIw (fun b C1 l m => ⟨fun hb => hr.notI ⟨id, C1, l, m⟩ hb, hkeep b (hG b C1 id l m)⟩) hE
  · by_cases e : id = f <;> by_cases e' : id' = f
    · rw [e, e']
    · subst e
      rw [hlive id' e'] at l2; rw [hM id' e'] at m2
      have m1' : some (w.heap.size, C) = some (b, C1) := by rw [← m1]; exact (upd_same _ _ _).symm
      have : b < w.heap.size := hG _ _ _ l2 m2
      injection m1' with m1'; injection m1' with m1' _
      omega
    · subst e'
      rw [hlive id e] at l1; rw [hM id e] at m1
      have m2' : some (w.heap.size, C) = some (b, C2) := by rw [← m2]; exact (upd_same _ _ _).symm
      have : b < w.heap.size := hG _ _ _ l1 m1
      injection m2' with m2'; injection m2' with m2' _
      omega
    · rw [hlive id e] at l1; rw [hM id e] at m1; rw [hlive id' e'] at l2; rw [hM id' e'] at m2
      exact hr.inj _ _ _ _ _ l1 l2 m1 m2
  · have := hr.lt b hb
    simp only [w', World.size_alloc]
    omega
  · simp [w']
  · obtain ⟨id, C1, l, m⟩ := hb
    by_cases e : id = f
    · subst e
      have m' : some (w.heap.size, C) = some (b, C1) := by rw [← m]; exact (upd_same _ _ _).symm
      injection m' with m'; injection m' with m' _
      exact .inr (by omega)
    · rw [hlive id e] at l; rw [hM id e] at m
      exact .inl ⟨id, C1, l, m⟩

/-- Own blocks are there. -/
theorem HR.ownLt {w : World} {G : Gh} {h : Nat → AObj} (hr : HR w G h) : ∀ b C id, (h id).live = true → G.M id = some (b, C) → b < w.heap.size := by
  intro b C id hl hM
  have := hr.obj id
  cases hid : h id with
  | free => simp [hid, AObj.live] at hl
  | dead => simp [hid, AObj.live] at hl
  | cells st k t fu es =>
    rw [hid] at this
    obtain ⟨_, _, h3⟩ := this
    rcases h3 with ⟨h3, _⟩ | ⟨b', C', cs, hM', hI, hg, _⟩
    · rw [hM] at h3; cases h3
    · rw [hM] at hM'; cases hM'; exact (Array.getElem?_eq_some_iff.1 hg).1
  | map es =>
    rw [hid] at this
    obtain ⟨b', C', ents, clock, hM', hI, hg, _⟩ := this
    rw [hM] at hM'; cases hM'; exact (Array.getElem?_eq_some_iff.1 hg).1

/-- An object without a block of its own: no element yet. -/
theorem HR.virt {w : World} {G : Gh} {h : Nat → AObj} (hr : HR w G h) {f : Nat} (hf : h f = .free) (k : Nat) (t : TypeId) (fu : Bool) (hk : 0 < k) :
    let G' : Gh := ⟨G.I, upd G.M f none⟩
    let h' := upd h f (.cells 0 k t fu [])
    HR w G' h' ∧ Ext G.M h G'.M h' ∧ Tr w G h w G' h' := by
  intro G' h'
  have hlive : ∀ id, id ≠ f → h' id = h id := fun id e => upd_ne _ _ e
  have hM : ∀ id, id ≠ f → G'.M id = G.M id := fun id e => upd_ne _ _ e
  have hE : Ext G.M h G'.M h' := by
    refine ⟨fun id hid => ?_, fun id st' k' t' fu' es' hid h'' => ?_, fun id es' hid h'' => ?_⟩
    · by_cases e : id = f
      · subst e; exact absurd hf hid
      · rw [hlive id e]; exact hid
    · by_cases e : id = f
      · subst e; exact absurd hf hid
      · rw [hlive id e] at h''
        exact ⟨_, _, _, _, _, h'', Nat.le_refl _, fun _ => ⟨rfl, Nat.le_refl _, hM id e⟩⟩
    · by_cases e : id = f
      · subst e; exact absurd hf hid
      · rw [hlive id e] at h''
        exact ⟨_, h'', hM id e⟩
  refine ⟨⟨fun id => ?_, fun id id' b C1 C2 l1 l2 m1 m2 => ?_, hr.lt⟩, hE, ⟨Nat.le_refl _, fun _ _ _ => rfl, rfl, rfl, rfl, fun _ h => h, fun b hb => .inl hb, fun b hb => ?_, hE⟩⟩
  · by_cases e : id = f
    · subst e
      have : h' id = .cells 0 k t fu [] := upd_same _ _ _
      rw [this]
      exact ⟨hk, by simp, .inl ⟨upd_same _ _ _, rfl⟩⟩
    · rw [hlive id e]
      exact (hr.obj id).mono (fun _ => hM id e) (fun _ h => h) (fun _ _ => rfl) (fun b C1 l m => ⟨fun hb => hr.notI ⟨id, C1, l, m⟩ hb, rfl⟩) hE
  · have e : id ≠ f := fun e => by subst e; have : G'.M id = none := upd_same _ _ _; rw [this] at m1; cases m1
    have e' : id' ≠ f := fun e => by subst e; have : G'.M id' = none := upd_same _ _ _; rw [this] at m2; cases m2
    rw [hlive id e] at l1; rw [hM id e] at m1; rw [hlive id' e'] at l2; rw [hM id' e'] at m2
    exact hr.inj _ _ _ _ _ l1 l2 m1 m2
  · obtain ⟨id, C1, l, m⟩ := hb
    have e : id ≠ f := fun e => by subst e; have : G'.M id = none := upd_same _ _ _; rw [this] at m; cases m
    rw [hlive id e] at l; rw [hM id e] at m
    exact .inl ⟨id, C1, l, m⟩

/-- An object changes in place: the same block, other cells. -/
theorem HR.change {w : World} {G : Gh} {h : Nat → AObj} (hr : HR w G h) {id st st' k b C : Nat} {t : TypeId} {fu fu' : Bool} {es es' : List (List AVal)} {cs cs' : Array Value}
    (hid : h id = .cells st k t fu es) (hM : G.M id = some (b, C)) (hg : w.heap[b]? = some (.cells cs t (0, 0))) (hst : st ≤ st')
    (hle : st = st' → es.length ≤ es'.length) (he : ∀ e ∈ es', e.length = k) (hs : cs'.size = C * k) (hl : es'.length ≤ C) (hfu : fu' = true → es'.length = C)
    (h1 : ∀ (j : Nat) v, cs'[j]? = some v → v.oneCell' = true)
    (hv : ∀ (i : Nat) e (j : Nat) c v, es'[i]? = some e → e[j]? = some c → cs'[i * k + j]? = some v → VR w G h c v) :
    let w' := w.setRow b cs'
    let h' := upd h id (.cells st' k t fu' es')
    HR w' G h' ∧ Ext G.M h G.M h' ∧ Tr w G h w' G h' := by
  intro w' h'
  have hok := hr.obj id
  rw [hid] at hok
  obtain ⟨hk, _, hok⟩ := hok
  have hC : C ≤ maxLen := by
    rcases hok with ⟨h3, _⟩ | ⟨b', C', cs0, hM', _, _, _, _, _, hC, _⟩
    · rw [hM] at h3; cases h3
    · rw [hM] at hM'; cases hM'; exact hC
  have hown : Owned G h b := ⟨id, C, by rw [hid]; rfl, hM⟩
  have hnI : ¬ G.I b := hr.notI hown
  have hother : ∀ i, i ≠ id → h' i = h i := fun i e => upd_ne _ _ e
  have hkeep : ∀ c, c ≠ b → w'.heap[c]? = w.heap[c]? := fun c e => setRow_other w b c cs' e
  have hE : Ext G.M h G.M h' := by
    refine ⟨fun i hi => ?_, fun i st0 k' t' fu0 es0 hi h'' => ?_, fun i es0 hi h'' => ?_⟩
    · by_cases e : i = id
      · subst e; have : h' i = _ := upd_same _ _ _; rw [this]; simp
      · rw [hother i e]; exact hi
    · by_cases e : i = id
      · subst e
        have h3 : h' i = .cells st' k t fu' es' := upd_same _ _ _
        rw [h3] at h''
        injection h'' with e1 e2 e3 e4 e5
        subst e1 e2 e3 e4 e5
        exact ⟨_, _, _, _, _, hid, hst, fun e => ⟨rfl, hle e, rfl⟩⟩
      · rw [hother i e] at h''
        exact ⟨_, _, _, _, _, h'', Nat.le_refl _, fun _ => ⟨rfl, Nat.le_refl _, rfl⟩⟩
    · by_cases e : i = id
      · subst e
        have h3 : h' i = .cells st' k t fu' es' := upd_same _ _ _
        rw [h3] at h''; cases h''
      · rw [hother i e] at h''
        exact ⟨_, h'', rfl⟩
  have hIw : ∀ c, G.I c → w'.heap[c]? = w.heap[c]? := fun c hc => hkeep c fun e => hnI (e ▸ hc)
  have hlive : ∀ i, (h' i).live = (h i).live := fun i => by
    by_cases e : i = id
    · subst e; have : h' i = _ := upd_same _ _ _; rw [this, hid]; rfl
    · rw [hother i e]
  refine ⟨⟨fun i => ?_, fun i i' c C1 C2 l1 l2 m1 m2 => ?_, fun c hc => ?_⟩, hE, ⟨?_, fun c hc ho => ?_, rfl, rfl, rfl, fun _ h => h, fun c hc => .inl hc, fun c hc => ?_, hE⟩⟩
  · by_cases e : i = id
    · subst e
      have : h' i = .cells st' k t fu' es' := upd_same _ _ _
      rw [this]
      exact ⟨hk, he, .inr ⟨b, C, cs', hM, hnI, setRow_heap w b cs cs' t _ hg, hs, hl, hfu, hC, h1, fun i e j c v b1 b2 b3 => (hv i e j c v b1 b2 b3).mono (fun _ h => h) hIw hE⟩⟩
    · rw [hother i e]
      refine (hr.obj i).mono (fun _ => rfl) (fun _ h => h) hIw (fun c C1 l m => ⟨fun hb => hr.notI ⟨i, C1, l, m⟩ hb, hkeep c fun e2 => e ?_⟩) hE
      subst e2
      exact hr.inj _ _ _ _ _ l (by rw [hid]; rfl) m hM
  · rw [hlive] at l1 l2
    exact hr.inj _ _ _ _ _ l1 l2 m1 m2
  · have := hr.lt c hc
    simpa [w'] using this
  · simp [w']
  · exact hkeep c fun e => ho (e ▸ hown)
  · obtain ⟨i, C1, l, m⟩ := hc
    rw [hlive] at l
    exact .inl ⟨i, C1, l, m⟩

/-- An object moves to a new block (append has made one). -/
theorem HR.move {w : World} {G : Gh} {h : Nat → AObj} (hr : HR w G h) {id st st' k C : Nat} {t : TypeId} {fu fu' : Bool} {es es' : List (List AVal)} {cs' : Array Value}
    (hid : h id = .cells st k t fu es) (hst : st < st')
    (he : ∀ e ∈ es', e.length = k) (hs : cs'.size = C * k) (hl : es'.length ≤ C) (hfu : fu' = true → es'.length = C) (hC : C ≤ maxLen)
    (h1 : ∀ (j : Nat) v, cs'[j]? = some v → v.oneCell' = true)
    (hv : ∀ (i : Nat) e (j : Nat) c v, es'[i]? = some e → e[j]? = some c → cs'[i * k + j]? = some v → VR w G h c v) :
    let w' := w.alloc (.cells cs' t)
    let G' : Gh := ⟨G.I, upd G.M id (some (w.heap.size, C))⟩
    let h' := upd h id (.cells st' k t fu' es')
    HR w' G' h' ∧ Ext G.M h G'.M h' ∧ Tr w G h w' G' h' := by
  intro w' G' h'
  have hok := hr.obj id
  rw [hid] at hok
  obtain ⟨hk, _, hok⟩ := hok
  have hother : ∀ i, i ≠ id → h' i = h i := fun i e => upd_ne _ _ e
  have hM' : ∀ i, i ≠ id → G'.M i = G.M i := fun i e => upd_ne _ _ e
  have hkeep : ∀ b, b < w.heap.size → w'.heap[b]? = w.heap[b]? := fun b hb => heap_alloc_old w _ b hb
  have hE : Ext G.M h G'.M h' := by
    refine ⟨fun i hi => ?_, fun i st0 k' t' fu0 es0 hi h'' => ?_, fun i es0 hi h'' => ?_⟩
    · by_cases e : i = id
      · subst e; have : h' i = _ := upd_same _ _ _; rw [this]; simp
      · rw [hother i e]; exact hi
    · by_cases e : i = id
      · subst e
        have h3 : h' i = .cells st' k t fu' es' := upd_same _ _ _
        rw [h3] at h''
        injection h'' with e1 e2 e3 e4 e5
        subst e1 e2 e3 e4 e5
        exact ⟨_, _, _, _, _, hid, by omega, fun e => by omega⟩
      · rw [hother i e] at h''
        exact ⟨_, _, _, _, _, h'', Nat.le_refl _, fun _ => ⟨rfl, Nat.le_refl _, hM' i e⟩⟩
    · by_cases e : i = id
      · subst e
        have h3 : h' i = .cells st' k t fu' es' := upd_same _ _ _
        rw [h3] at h''; cases h''
      · rw [hother i e] at h''
        exact ⟨_, h'', hM' i e⟩
  have hIw : ∀ c, G.I c → w'.heap[c]? = w.heap[c]? := fun c hc => hkeep c (hr.lt c hc)
  have hlive : ∀ i, (h' i).live = (h i).live := fun i => by
    by_cases e : i = id
    · subst e; have : h' i = _ := upd_same _ _ _; rw [this, hid]; rfl
    · rw [hother i e]
  refine ⟨⟨fun i => ?_, fun i i' c C1 C2 l1 l2 m1 m2 => ?_, fun c hc => ?_⟩, hE, ⟨?_, fun c hc ho => hkeep c hc, rfl, rfl, rfl, fun _ h => h, fun c hc => .inl hc, fun c hc => ?_, hE⟩⟩
  · by_cases e : i = id
    · subst e
      have : h' i = .cells st' k t fu' es' := upd_same _ _ _
      rw [this]
      refine ⟨hk, he, .inr ⟨w.heap.size, C, cs', upd_same _ _ _, fun hb => ?_, heap_alloc_new w _, hs, hl, hfu, hC, h1, fun i e j c v b1 b2 b3 => (hv i e j c v b1 b2 b3).mono (fun _ h => h) hIw hE⟩⟩
      have := hr.lt _ hb
      omega
    · rw [hother i e]
      exact (hr.obj i).mono (fun _ => hM' i e) (fun _ h => h) hIw (fun c C1 l m => ⟨fun hb => hr.notI ⟨i, C1, l, m⟩ hb, hkeep c (hr.ownLt _ _ _ l m)⟩) hE
  · rw [hlive] at l1 l2
    by_cases e : i = id <;> by_cases e' : i' = id
    · rw [e, e']
    · subst e
      rw [hM' i' e'] at m2
      have m1' : some (w.heap.size, C) = some (c, C1) := by rw [← m1]; exact (upd_same _ _ _).symm
      have := hr.ownLt _ _ _ l2 m2
      injection m1' with m1'; injection m1' with m1' _
      omega
    · subst e'
      rw [hM' i e] at m1
      have m2' : some (w.heap.size, C) = some (c, C2) := by rw [← m2]; exact (upd_same _ _ _).symm
      have := hr.ownLt _ _ _ l1 m1
      injection m2' with m2'; injection m2' with m2' _
      omega
    · rw [hM' i e] at m1; rw [hM' i' e'] at m2
      exact hr.inj _ _ _ _ _ l1 l2 m1 m2
  · have := hr.lt c hc
    simp only [w', World.size_alloc]
    omega
  · simp [w']
  · obtain ⟨i, C1, l, m⟩ := hc
    rw [hlive] at l
    by_cases e : i = id
    · subst e
      have m' : some (w.heap.size, C) = some (c, C1) := by rw [← m]; exact (upd_same _ _ _).symm
      injection m' with m'; injection m' with m' _
      exact .inr (by omega)
    · rw [hM' i e] at m
      exact .inl ⟨i, C1, l, m⟩

theorem Tr.drew {w : World} {G : Gh} {h : Nat → AObj} : Tr w G h w.drew G h :=
  ⟨Nat.le_refl _, fun _ _ _ => rfl, rfl, rfl, rfl, fun _ h => h, fun _ h => .inl h, fun _ h => .inl h, Ext.refl _ _⟩


inductive SO where
  | t (n : Nat)
  | c (v : AVal)
  deriving Inhabited

inductive SOp where
  | mv (d : Nat) (x : SO)
  | pick (d : Nat) (c x y : SO)
  | bin (d : Nat) (op : BinOp) (x y : SO)
  | binB (d : Nat) (neq : Bool) (x y : SO)
  | binS (d : Nat) (op : BinOp) (x y : SO)
  | binA (d : Nat) (neq : Bool) (ks : List Nat) (x y : SO)
  | binN (d kd : Nat) (neq : Bool) (x : SO)
  | binP (d : Nat) (neq : Bool) (x y : SO)
  | not (d : Nat) (x : SO)
  | neg (d : Nat) (x : SO)
  | conv (d : Nat) (k : IntKind) (x : SO)
  | strof (d : Nat) (x : SO)
  | fa (d : Nat) (x : SO) (o : Nat)
  | ia (d : Nat) (x i : SO) (k : Nat)
  | iaA (d : Nat) (x i : SO) (k n : Nat)
  | ixS (d : Nat) (x i : SO)
  | ld (d : Nat) (x : SO) (agg : Bool) (n : Nat)
  | st (x v : SO) (n : Nat)
  | box (d : Nat) (t : TypeId) (x : SO)
  | alc (d : Nat) (t : TypeId) (zs : List AVal)
  | bld (d : Nat) (zs : List AVal) (ps : List (Nat × Nat × SO))
  | bsl (d : Nat) (t : TypeId) (k : Nat) (zs : List AVal) (n : Nat) (ps : List (Nat × SO))
  | slc (d : Nat) (k : Nat) (x : SO) (lo hi mx : Option SO)
  | slS (d : Nat) (x : SO) (lo hi : Option SO)
  | len (d : Nat) (str : Bool) (x : SO)
  | mn (d : Nat) (x y : SO)
  | mx (d : Nat) (x y : SO)
  | app (d : Nat) (t : TypeId) (k bytes : Nat) (x y : SO)
  | apz (d : Nat) (t : TypeId) (k bytes : Nat) (zs : List AVal) (x n : SO)
  | cpy (d : Option Nat) (k : Nat) (x y : SO)
  | clr (d : Option Nat) (zs : List AVal) (x : SO)
  | cap (d : Nat) (x : SO)
  | mks (d : Nat) (t : TypeId) (k bytes : Nat) (zs : List AVal) (n c : SO)
  | ext (d : Nat) (x : SO) (i : Nat)
  | fld (d : Nat) (x : SO) (o : Nat) (agg : Bool) (n : Nat)
  | nck (d : Nat) (x : SO)
  | mkf (d : Nat) (f : FuncId) (as bs : List SO)
  | mkm (d : Nat)
  | mst (m k x : SO)
  | mgt (d : Nat) (m k : SO) (z : AVal) (ok : Bool)
  | call (d : Option Nat) (f : SO) (xs : List SO)
  | g (t : Nat) (want : Bool) (d : Option Nat) (o : SOp)
  | bad
  deriving Inhabited

/-- What an operation does: a temporary's new value; the objects that it looks at; the objects that it changes; new objects. -/
structure Eff where
  d : Option Nat
  v : AVal
  rd : List Nat
  wr : List (Nat × AObj)
  nw : List AObj

def ev (s : Nat → AVal) : SO → AVal
  | .t n => s n
  | .c v => v

def evs (s : Nat → AVal) : List SO → List AVal
  | [] => []
  | x :: xs => ev s x :: evs s xs

def cellsOf : AVal → List AVal
  | .agg cs => cs
  | v => [v]

/-- Is it the value of one cell, or of several, as a variable holds it? -/
def AVal.flat : AVal → Bool
  | .tup _ | .undef => false
  | _ => true

def binI (op : BinOp) : AVal → AVal → Option AVal
  | .int k a, .int k' b =>
    match op with
    | .shl => if 0 ≤ b then some (.int k (k.wrap (a * 2 ^ (min b.toNat k.bits)))) else none
    | .shr => if 0 ≤ b then some (.int k (a.fdiv (2 ^ (min b.toNat k.bits)))) else none
    | op => if k = k' then
        match op with
        | .add => some (.int k (k.wrap (a + b)))
        | .sub => some (.int k (k.wrap (a - b)))
        | .mul => some (.int k (k.wrap (a * b)))
        | .quo => if b = 0 then none else some (.int k (k.wrap (a.tdiv b)))
        | .rem => if b = 0 then none else some (.int k (a.tmod b))
        | .and => some (.int k (k.wrap (BitVec.ofInt k.bits a &&& BitVec.ofInt k.bits b).toNat))
        | .or => some (.int k (k.wrap (BitVec.ofInt k.bits a ||| BitVec.ofInt k.bits b).toNat))
        | .xor => some (.int k (k.wrap (BitVec.ofInt k.bits a ^^^ BitVec.ofInt k.bits b).toNat))
        | .andNot => some (.int k (k.wrap (BitVec.ofInt k.bits a &&& ~~~ BitVec.ofInt k.bits b).toNat))
        | .eql => some (.bool (decide (a = b)))
        | .neq => some (.bool (!decide (a = b)))
        | .lss => some (.bool (decide (a < b)))
        | .leq => some (.bool (decide (a ≤ b)))
        | .gtr => some (.bool (decide (b < a)))
        | .geq => some (.bool (decide (b ≤ a)))
        | _ => none
      else none
  | _, _ => none

def binBool (neq : Bool) : AVal → AVal → Option AVal
  | .bool a, .bool b => some (.bool (if neq then !(a == b) else a == b))
  | _, _ => none

def binStr (op : BinOp) : AVal → AVal → Option AVal
  | .str a, .str b =>
    match op with
    | .add => if a.size + b.size ≤ 9223372036854775807 then some (.str (a ++ b)) else none
    | .eql => some (.bool (decide (a = b)))
    | .neq => some (.bool (!decide (a = b)))
    | _ => none
  | _, _ => none

/-- The equality of two cells of a kind: 1 a number, 2 a truth value, 3 a string. -/
def eqCell (k : Nat) : AVal → AVal → Option Bool
  | .int q a, .int q' b => if k = 1 ∧ q = q' then some (decide (a = b)) else none
  | .bool a, .bool b => if k = 2 then some (a == b) else none
  | .str a, .str b => if k = 3 then some (decide (a = b)) else none
  | _, _ => none

/-- The equality of two rows of plain cells. -/
def eqCells : List Nat → List AVal → List AVal → Option Bool
  | [], [], [] => some true
  | k :: ks, a :: as, b :: bs =>
    match eqCell k a b with
    | some x => match eqCells ks as bs with
      | some y => some (x && y)
      | none => none
    | none => none
  | _, _, _ => none

def binAgg (neq : Bool) (ks : List Nat) : AVal → AVal → Option AVal
  | .agg as, .agg bs => match eqCells ks as bs with
    | some x => some (.bool (if neq then !x else x))
    | none => none
  | _, _ => none

/-- Is an abstract value one of a slice, a function, a pointer? -/
def kindOf : AVal → Nat
  | .nil | .emp | .sl .. | .row .. => 1
  | .func .. | .nfunc => 2
  | .ptr .. | .iptr .. | .nptr => 3
  | _ => 0

/-- Is it nil? -/
def isNil : AVal → Option Bool
  | .nil | .nptr | .nfunc => some true
  | .ptr .. | .iptr .. | .func .. => some false
  | .row _ _ _ len => if len = 0 then none else some false
  | .sl _ (_ :: _) => some false
  | _ => none

def obj (h : Nat → AObj) (id st : Nat) : Option (Nat × TypeId × Bool × List (List AVal)) :=
  match h id with
  | .cells st' k t fu es => if st' = st then some (k, t, fu, es) else none
  | _ => none

/-- Is it nil, and what was looked at? -/
def nilOf (h : Nat → AObj) (v : AVal) : Option (Bool × List Nat) :=
  match v with
  | .row id q _ len => match obj h id q with
    | some _ => if len = 0 then none else some (false, [id])
    | none => none
  | v => match isNil v with
    | some b => some (b, [])
    | none => none

/-- The elements of a slice, and the objects that were looked at. -/
def conts (h : Nat → AObj) (k : Nat) : AVal → Option (List (List AVal) × List Nat)
  | .nil | .emp => some ([], [])
  | .sl k' xs => if k' = k then some (xs, []) else none
  | .row id st off len => match obj h id st with
    | some (k', _, _, es) => if k' = k then some ((es.drop off).take len, [id]) else none
    | none => none
  | _ => none

def loadFrom (agg : Bool) (n : Nat) (cs : List AVal) : Option AVal :=
  if agg then (if n ≤ cs.length then some (.agg (cs.take n)) else none)
  else match cs with
    | c :: _ => some c
    | [] => none

/-- A bound of a slice expression. -/
def bound (s : Nat → AVal) (x : Option SO) (dflt : Nat) : Option Int :=
  match x with
  | none => some dflt
  | some x => match ev s x with
    | .int _ n => some n
    | _ => none

def slcOf (h : Nat → AObj) (k : Nat) (x : AVal) (l hi : Option Int) (full : Bool) : Option (AVal × List Nat) :=
  match l, hi with
  | some l, some hi =>
    if 0 ≤ l ∧ l ≤ hi then
      match x with
      | .nil => if hi = 0 then some (.nil, []) else none
      | .emp => if hi = 0 then some (.emp, []) else none
      | .sl k' xs => if k' = k ∧ hi ≤ xs.length then some (.sl k ((xs.take hi.toNat).drop l.toNat), []) else none
      | .row id st off _ => match obj h id st with
        | some (k', _, _, es) => if k' = k ∧ off + hi ≤ es.length then some (if full then .undef else .row id st (off + l.toNat) (hi.toNat - l.toNat), [id]) else none
        | none => none
      | _ => none
    else none
  | _, _ => none

def lenOf : AVal → Option Nat
  | .nil | .emp => some 0
  | .sl _ xs => some xs.length
  | .row _ _ _ len => some len
  | .str s => some s.size
  | _ => none

/-- The length of a string, or of a slice. -/
def lenX (str : Bool) (v : AVal) : Option Nat :=
  match v with
  | .nil | .emp => if str = true then none else some 0
  | .sl _ xs => if str = true then none else some xs.length
  | .row _ _ _ len => if str = true then none else some len
  | .str s => if str = true then some s.size else none
  | _ => none

def minOf : AVal → AVal → Option AVal
  | .int k a, .int k' b => if k' = k then some (.int k (min a b)) else none
  | _, _ => none

def maxOf : AVal → AVal → Option AVal
  | .int k a, .int k' b => if k' = k then some (.int k (max a b)) else none
  | _, _ => none

/-- Parts are put into a row of cells. -/
def fillA (s : Nat → AVal) (cs : List AVal) : List (Nat × Nat × SO) → Option (List AVal)
  | [] => some cs
  | (o, n, x) :: ps =>
    let xs := cellsOf (ev s x)
    if (ev s x).flat ∧ xs.length = n ∧ o + n ≤ cs.length then fillA s (cs.take o ++ xs ++ cs.drop (o + n)) ps else none

/-- The elements of a slice literal. -/
def fillE (s : Nat → AVal) (k : Nat) (es : List (List AVal)) : List (Nat × SO) → Option (List (List AVal))
  | [] => some es
  | (i, x) :: ps =>
    let xs := cellsOf (ev s x)
    if (ev s x).flat ∧ xs.length = k ∧ i < es.length then fillE s k (es.set i xs) ps else none

/-- append(x, ys...). -/
def appOf (d : Nat) (t : TypeId) (k bytes : Nat) (h : Nat → AObj) (f : Nat) (x : AVal) (ys : List (List AVal)) (rd : List Nat) : Option Eff :=
  match x with
  | .nil | .emp => if ys.length * bytes ≤ 140737488355328 then some ⟨some d, .row f 0 0 ys.length, rd, [], [.cells 0 k t false ys]⟩ else none
  | .row id st off n => match obj h id st with
    | some (k', t', fu, es) =>
      if k' = k ∧ t' = t ∧ off = 0 ∧ n ≤ es.length ∧ (n + ys.length) * bytes ≤ 140737488355328 then
        if n = es.length then some ⟨some d, .row id (st + 1) 0 (n + ys.length), id :: rd, [(id, .cells (st + 1) k t false (es ++ ys))], []⟩
        else if n + ys.length ≤ es.length then
          some ⟨some d, .row id st 0 (n + ys.length), id :: rd, [(id, .cells st k t fu (es.take n ++ ys ++ es.drop (n + ys.length)))], []⟩
        else if fu = true then some ⟨some d, .row f 0 0 (n + ys.length), id :: rd, [], [.cells 0 k t false (es.take n ++ ys)]⟩
        else some ⟨some d, .row id (st + 1) 0 (n + ys.length), id :: rd, [(id, .cells (st + 1) k t false (es.take n ++ ys))], []⟩
      else none
    | none => none
  | _ => none

def mapGet (es : List (Int × AVal)) (n : Int) : Option AVal :=
  match es with
  | [] => none
  | (m, c) :: es => if m = n then some c else mapGet es n

def mapSet (es : List (Int × AVal)) (n : Int) (c : AVal) : List (Int × AVal) :=
  match es with
  | [] => [(n, c)]
  | (m, x) :: es => if m = n then (n, c) :: es else (m, x) :: mapSet es n c

def strNums : List (List AVal) → Option (List Int)
  | [] => some []
  | [.int .u8 n] :: es => match strNums es with
    | some bs => some (n :: bs)
    | none => none
  | _ => none

def val1 (d : Nat) (x : Option AVal) : Option Eff :=
  match x with
  | some v => some ⟨some d, v, [], [], []⟩
  | none => none

/-- What an operation does, f being the first free place of the heap. -/
def astep (o : SOp) (st : St) (f : Nat) : Option Eff :=
  match o with
  | .mv d x => some ⟨some d, ev st.s x, [], [], []⟩
  | .pick d c x y => match ev st.s c with
    | .bool b => some ⟨some d, if b = true then ev st.s x else ev st.s y, [], [], []⟩
    | _ => none
  | .bin d op x y => val1 d (binI op (ev st.s x) (ev st.s y))
  | .binB d neq x y => val1 d (binBool neq (ev st.s x) (ev st.s y))
  | .binS d op x y => val1 d (binStr op (ev st.s x) (ev st.s y))
  | .binA d neq ks x y => val1 d (binAgg neq ks (ev st.s x) (ev st.s y))
  | .binN d kd neq x => if kindOf (ev st.s x) = kd then match nilOf st.h (ev st.s x) with
      | some (b, rd) => some ⟨some d, .bool (if neq then !b else b), rd, [], []⟩
      | none => none
    else none
  | .not d x => match ev st.s x with
    | .bool b => some ⟨some d, .bool (!b), [], [], []⟩
    | _ => none
  | .neg d x => match ev st.s x with
    | .int k n => some ⟨some d, .int k (k.wrap (0 - n)), [], [], []⟩
    | _ => none
  | .conv d k x => match ev st.s x with
    | .int _ n => some ⟨some d, .int k (k.wrap n), [], [], []⟩
    | _ => none
  | .strof d x => match conts st.h 1 (ev st.s x) with
    | some (es, rd) => match strNums es with
      | some bs => some ⟨some d, .str (strOfNums bs), rd, [], []⟩
      | none => none
    | none => none
  | .fa d x o => match ev st.s x with
    | .ptr id q i p => some ⟨some d, .ptr id q i (p + o), [], [], []⟩
    | .iptr cs p => some ⟨some d, .iptr cs (p + o), [], [], []⟩
    | _ => none
  | .ia d x i k => match ev st.s x, ev st.s i with
    | .sl k' xs, .int _ n => if k' = k ∧ 0 ≤ n then
        match xs[n.toNat]? with
        | some e => some ⟨some d, .iptr e 0, [], [], []⟩
        | none => none
      else none
    | .row id q off len, .int _ n => match obj st.h id q with
      | some (k', _, _, _) => if k' = k ∧ 0 ≤ n ∧ n < len then some ⟨some d, .ptr id q (off + n.toNat) 0, [id], [], []⟩ else none
      | none => none
    | _, _ => none
  | .iaA d x i k n => match ev st.s x, ev st.s i with
    | .ptr id q i p, .int _ j => if 0 ≤ j ∧ j < n then some ⟨some d, .ptr id q i (p + j.toNat * k), [], [], []⟩ else none
    | .iptr cs p, .int _ j => if 0 ≤ j ∧ j < n then some ⟨some d, .iptr cs (p + j.toNat * k), [], [], []⟩ else none
    | _, _ => none
  | .ixS d x i => match ev st.s x, ev st.s i with
    | .str s, .int _ n => if 0 ≤ n then
        match s[n.toNat]? with
        | some b => some ⟨some d, .int .u8 b.toNat, [], [], []⟩
        | none => none
      else none
    | _, _ => none
  | .ld d x agg n => match ev st.s x with
    | .ptr id q i p => match obj st.h id q with
      | some (_, _, _, es) => match es[i]? with
        | some e => match loadFrom agg n (e.drop p) with
          | some v => some ⟨some d, v, [id], [], []⟩
          | none => none
        | none => none
      | none => none
    | .iptr cs p => val1 d (loadFrom agg n (cs.drop p))
    | _ => none
  | .st x v n => match ev st.s x with
    | .ptr id q i p => match obj st.h id q with
      | some (k, t, fu, es) => match es[i]? with
        | some e =>
          if (ev st.s v).flat ∧ (cellsOf (ev st.s v)).length = n ∧ p + n ≤ e.length then
            some ⟨none, .undef, [id], [(id, .cells q k t fu (es.set i (e.take p ++ cellsOf (ev st.s v) ++ e.drop (p + n))))], []⟩
          else none
        | none => none
      | none => none
    | _ => none
  | .box d t x => if (ev st.s x).flat ∧ 0 < (cellsOf (ev st.s x)).length then
      some ⟨some d, .ptr f 0 0 0, [], [], [.cells 0 (cellsOf (ev st.s x)).length t true [cellsOf (ev st.s x)]]⟩ else none
  | .alc d t zs => if 0 < zs.length then some ⟨some d, .ptr f 0 0 0, [], [], [.cells 0 zs.length t true [zs]]⟩ else none
  | .bld d zs ps => match fillA st.s zs ps with
    | some cs => some ⟨some d, .agg cs, [], [], []⟩
    | none => none
  | .bsl d t k zs n ps => if 0 < k then match fillE st.s k (List.replicate n zs) ps with
      | some es => some ⟨some d, .row f 0 0 n, [], [], [.cells 0 k t true es]⟩
      | none => none
    else none
  | .slc d k x lo hi mx => match lenOf (ev st.s x) with
    | some n => match mx with
      | none => match slcOf st.h k (ev st.s x) (bound st.s lo 0) (bound st.s hi n) false with
        | some (v, rd) => some ⟨some d, v, rd, [], []⟩
        | none => none
      | some m => match bound st.s hi n, bound st.s (some m) n with
        | some h', some m' => if h' ≤ m' then
            match slcOf st.h k (ev st.s x) (bound st.s lo 0) (some h') true, slcOf st.h k (ev st.s x) (some 0) (some m') true with
            | some (_, rd), some (_, rd') => some ⟨some d, if m' = 0 then .emp else .undef, rd ++ rd', [], []⟩
            | _, _ => none
          else none
        | _, _ => none
    | none => none
  | .slS d x lo hi => match ev st.s x with
    | .str s => match bound st.s lo 0, bound st.s hi s.size with
      | some l, some h' => if 0 ≤ l ∧ l ≤ h' ∧ h' ≤ s.size then some ⟨some d, .str (s.extract l.toNat h'.toNat), [], [], []⟩ else none
      | _, _ => none
    | _ => none
  | .len d str x => match lenX str (ev st.s x) with
    | some n => some ⟨some d, .int .i64 n, [], [], []⟩
    | none => none
  | .mn d x y => val1 d (minOf (ev st.s x) (ev st.s y))
  | .mx d x y => val1 d (maxOf (ev st.s x) (ev st.s y))
  | .app d t k bytes x y => match conts st.h k (ev st.s y) with
    | some (ys, rd) => appOf d t k bytes st.h f (ev st.s x) ys rd
    | none => none
  | .apz d t k bytes zs x n => match ev st.s n with
    | .int _ m => if 0 ≤ m ∧ m ≤ 140737488355328 ∧ zs.length = k then appOf d t k bytes st.h f (ev st.s x) (List.replicate m.toNat zs) [] else none
    | _ => none
  | .cpy d k x y => match conts st.h k (ev st.s y) with
    | some (ys, rd) => match ev st.s x with
      | .nil | .emp => some ⟨d, .int .i64 0, rd, [], []⟩
      | .row id q off len => match obj st.h id q with
        | some (k', t, fu, es) => if k' = k then
            some ⟨d, .int .i64 (min ys.length len : Nat), id :: rd, [(id, .cells q k t fu (es.take off ++ ys.take (min ys.length len) ++ es.drop (off + min ys.length len)))], []⟩
          else none
        | none => none
      | _ => none
    | none => none
  | .clr d zs x => match ev st.s x with
    | .nil | .emp => some ⟨d, .tup [], [], [], []⟩
    | .row id q off len => match obj st.h id q with
      | some (k, t, fu, es) => if zs.length = k then
          some ⟨d, .tup [], [id], [(id, .cells q k t fu (es.take off ++ List.replicate len zs ++ es.drop (off + len)))], []⟩
        else none
      | none => none
    | _ => none
  | .mks d t k bytes zs n c => match ev st.s n, ev st.s c with
    | .int _ m, .int _ m' => if m' = m ∧ 0 ≤ m ∧ m * bytes ≤ 140737488355328 ∧ zs.length = k ∧ 0 < k ∧ 0 < bytes then
        some ⟨some d, .row f 0 0 m.toNat, [], [], [.cells 0 k t true (List.replicate m.toNat zs)]⟩ else none
    | _, _ => none
  | .ext d x i => match ev st.s x with
    | .tup vs => match vs[i]? with
      | some v => some ⟨some d, v, [], [], []⟩
      | none => none
    | _ => none
  | .fld d x o agg n => match ev st.s x with
    | .agg cs => val1 d (loadFrom agg n (cs.drop o))
    | _ => none
  | .nck d x => match ev st.s x with
    | .ptr id q i p => some ⟨some d, .ptr id q i p, [], [], []⟩
    | .iptr cs p => some ⟨some d, .iptr cs p, [], [], []⟩
    | .func f as bs => some ⟨some d, .func f as bs, [], [], []⟩
    | _ => none
  | .mkf d f as bs => some ⟨some d, .func f (evs st.s as) (evs st.s bs), [], [], []⟩
  | .mkm d => some ⟨some d, .map f, [], [], [.map []]⟩
  | .mst m k x => match ev st.s m, ev st.s k with
    | .map id, .int .i64 n => match st.h id with
      | .map es => if (ev st.s x).flat then some ⟨none, .undef, [id], [(id, .map (mapSet es n (ev st.s x)))], []⟩ else none
      | _ => none
    | _, _ => none
  | .mgt d m k z ok => match ev st.s m, ev st.s k with
    | .map id, .int .i64 n => match st.h id with
      | .map es => match mapGet es n with
        | some c => some ⟨some d, if ok then .tup [c, .bool true] else c, [id], [], []⟩
        | none => some ⟨some d, if ok then .tup [z, .bool false] else z, [id], [], []⟩
      | _ => none
    | _, _ => none
  | .binP .. => none
  | .cap .. => none
  | .call .. => none
  | .g .. => none
  | .bad => none

/-- The heap behind an operation. -/
def Eff.heap (e : Eff) (h : Nat → AObj) (f : Nat) : Nat → AObj := fun id =>
  if f ≤ id ∧ id < f + e.nw.length then e.nw.getD (id - f) .free
  else match e.wr.find? (fun p => p.1 == id) with
    | some p => p.2
    | none => h id

def Eff.slots (e : Eff) (s : Nat → AVal) : Nat → AVal :=
  match e.d with
  | some d => upd s d e.v
  | none => s

def Eff.app (e : Eff) (st : St) (f : Nat) : St := ⟨e.slots st.s, e.heap st.h f⟩


def lit : Value → Option AVal
  | .bool b => some (.bool b)
  | .int k n => some (.int k n)
  | .string s => some (.str s)
  | .slice none 0 0 => some .nil
  | .pointer none => some .nptr
  | .nilFunc => some .nfunc
  | _ => none

def lits : List Value → Option (List AVal)
  | [] => some []
  | v :: vs => match lit v, lits vs with
    | some c, some cs => some (c :: cs)
    | _, _ => none

def co : Operand → Option SO
  | .tmp t => some (.t t)
  | .const v => match lit v with
    | some c => some (.c c)
    | none => none
  | .func f => some (.c (.func f [] []))
  | .global _ => none

def cos : List Operand → Option (List SO)
  | [] => some []
  | x :: xs => match co x, cos xs with
    | some y, some ys => some (y :: ys)
    | _, _ => none

theorem lit_ok {w : World} {G : Gh} {h : Nat → AObj} {v : Value} {c : AVal} (e : lit v = some c) : VR w G h c v := by
  unfold lit at e
  split at e <;> first | (cases e; done) | (injection e with e; subst e; exact .cl _ _ (by constructor)) | skip

section inv
variable {w : World} {G : Gh} {h : Nat → AObj} {v : Value}
theorem VR.int_inv {k : IntKind} {n : Int} (x : VR w G h (.int k n) v) : v = .int k n := by
  cases x with | cl _ _ hc => cases hc; rfl
theorem VR.bool_inv {b : Bool} (x : VR w G h (.bool b) v) : v = .bool b := by
  cases x with | cl _ _ hc => cases hc; rfl
theorem VR.str_inv {s : ByteArray} (x : VR w G h (.str s) v) : v = .string s := by
  cases x with | cl _ _ hc => cases hc; rfl
theorem VR.nil_inv (x : VR w G h .nil v) : v = .slice none 0 0 := by
  cases x with | cl _ _ hc => cases hc; rfl
theorem VR.emp_inv (x : VR w G h .emp v) : ∃ a, v = .slice a 0 0 := by
  cases x with | cl _ _ hc => cases hc; exact ⟨_, rfl⟩
theorem VR.nptr_inv (x : VR w G h .nptr v) : v = .pointer none := by
  cases x with | cl _ _ hc => cases hc; rfl
theorem VR.nfunc_inv (x : VR w G h .nfunc v) : v = .nilFunc := by
  cases x with | cl _ _ hc => cases hc; rfl
theorem VR.agg_inv {cs : List AVal} (x : VR w G h (.agg cs) v) : ∃ vs, v = .agg vs ∧ cs.length = vs.size ∧ (∀ (j : Nat) v, vs[j]? = some v → v.oneCell' = true) ∧
    ∀ (j : Nat) c v, cs[j]? = some c → vs[j]? = some v → VR w G h c v := by
  cases x with
  | cl _ _ hc => cases hc
  | agg _ vs hl h1 hr => exact ⟨vs, rfl, hl, h1, hr⟩
theorem VR.tup_inv {cs : List AVal} (x : VR w G h (.tup cs) v) : ∃ vs, v = .tuple vs ∧ cs.length = vs.size ∧ ∀ (j : Nat) c v, cs[j]? = some c → vs[j]? = some v → VR w G h c v := by
  cases x with
  | cl _ _ hc => cases hc
  | tup _ vs hl hr => exact ⟨vs, rfl, hl, hr⟩
theorem VR.func_inv {f : FuncId} {as bs : List AVal} (x : VR w G h (.func f as bs) v) : ∃ xs ys, v = .func (.func f) xs ys ∧ as.length = xs.size ∧ bs.length = ys.size ∧
    (∀ (j : Nat) c v, as[j]? = some c → xs[j]? = some v → VR w G h c v) ∧ ∀ (j : Nat) c v, bs[j]? = some c → ys[j]? = some v → VR w G h c v := by
  cases x with
  | cl _ _ hc => cases hc
  | func _ _ _ xs ys hl hl' hr hr' => exact ⟨xs, ys, rfl, hl, hl', hr, hr'⟩
theorem VR.ptr_inv {id st i o : Nat} (x : VR w G h (.ptr id st i o) v) : ∃ a, v = .pointer (some a) ∧ h id ≠ .free ∧
    ∀ st' k t fu es, h id = .cells st' k t fu es → st ≤ st' ∧ (st = st' → ∃ b C, G.M id = some (b, C) ∧ a = ⟨b, i * k + o, none⟩) := by
  cases x with
  | cl _ _ hc => cases hc
  | ptr _ _ _ _ a hf ho => exact ⟨a, rfl, hf, ho⟩
theorem VR.row_inv {id st off len : Nat} (x : VR w G h (.row id st off len) v) : ∃ a cap, v = .slice a len cap ∧ h id ≠ .free ∧
    ∀ st' k t fu es, h id = .cells st' k t fu es → st ≤ st' ∧ (st = st' → RowOk G id k es.length off len a cap) := by
  cases x with
  | cl _ _ hc => cases hc
  | row _ _ _ _ cap a hf ho => exact ⟨a, cap, rfl, hf, ho⟩
theorem VR.map_inv {id : Nat} (x : VR w G h (.map id) v) : ∃ r, v = .map (some r) ∧ h id ≠ .free ∧ ∀ es, h id = .map es → ∃ C, G.M id = some (r, C) := by
  cases x with
  | cl _ _ hc => cases hc
  | map _ r hf ho => exact ⟨r, rfl, hf, ho⟩
theorem VR.sl_inv {k : Nat} {xs : List (List AVal)} (x : VR w G h (.sl k xs) v) : ∃ a cap, v = .slice a xs.length cap ∧
    xs.length ≤ cap ∧ (xs = [] ∨ ∃ (b o : Nat) (f : Nat → Nat → Value), a = some ⟨b, o, none⟩ ∧ G.I b ∧ (∀ e ∈ xs, e.length = k) ∧
      (∀ (i : Nat) e (j : Nat) c, xs[i]? = some e → e[j]? = some c → w.cell? ⟨b, o + (i * k + j), none⟩ = some (f i j)) ∧
      ∀ (i : Nat) e (j : Nat) c, xs[i]? = some e → e[j]? = some c → CR w G.I c (f i j)) := by
  cases x with
  | cl _ _ hc =>
    cases hc with
    | slz _ a cap => exact ⟨a, cap, rfl, by simp, .inl rfl⟩
    | sl _ _ b o cap f hI hcap hk hc hr => exact ⟨_, cap, rfl, hcap, .inr ⟨b, o, f, rfl, hI, hk, hc, hr⟩⟩
theorem VR.iptr_inv {cs : List AVal} {o : Nat} (x : VR w G h (.iptr cs o) v) : ∃ (b p : Nat) (f : Nat → Value), v = .pointer (some ⟨b, p + o, none⟩) ∧ G.I b ∧
      (∀ (j : Nat) c, cs[j]? = some c → w.cell? ⟨b, p + j, none⟩ = some (f j)) ∧ ∀ (j : Nat) c, cs[j]? = some c → CR w G.I c (f j) := by
  cases x with
  | cl _ _ hc =>
    cases hc with
    | iptr _ _ b p f hI hc hr => exact ⟨b, p, f, rfl, hI, hc, hr⟩

/-- A value of one variable has cells that can be stored. -/
theorem VR.cells {c : AVal} (x : VR w G h c v) (hf : c.flat = true) : (cellsOf c).length = v.cells.size ∧ (∀ (j : Nat) u, v.cells[j]? = some u → u.oneCell' = true) ∧
    ∀ (j : Nat) d u, (cellsOf c)[j]? = some d → v.cells[j]? = some u → VR w G h d u := by
  have one : ∀ c : AVal, cellsOf c = [c] → v.cells = #[v] → v.oneCell' = true → VR w G h c v → (cellsOf c).length = v.cells.size ∧ (∀ (j : Nat) u, v.cells[j]? = some u → u.oneCell' = true) ∧
      ∀ (j : Nat) d u, (cellsOf c)[j]? = some d → v.cells[j]? = some u → VR w G h d u := by
    intro c e1 e2 e3 e4
    rw [e1, e2]
    refine ⟨rfl, fun j u hu => ?_, fun j d u hd hu => ?_⟩
    · cases j with
      | zero => simp at hu; exact hu ▸ e3
      | succ j => simp at hu
    · cases j with
      | zero => simp at hd hu; subst hd hu; exact e4
      | succ j => simp at hu
  cases c with
  | undef => simp [AVal.flat] at hf
  | tup vs => simp [AVal.flat] at hf
  | agg cs =>
    obtain ⟨vs, rfl, hl, h1, hr⟩ := x.agg_inv
    exact ⟨hl, h1, hr⟩
  | bool b => have := x.bool_inv; subst this; exact one _ rfl rfl rfl x
  | int k n => have := x.int_inv; subst this; exact one _ rfl rfl rfl x
  | str s => have := x.str_inv; subst this; exact one _ rfl rfl rfl x
  | nil => have := x.nil_inv; subst this; exact one _ rfl rfl rfl x
  | emp => obtain ⟨a, rfl⟩ := x.emp_inv; exact one _ rfl rfl rfl x
  | sl k xs => obtain ⟨a, cap, rfl, _⟩ := x.sl_inv; exact one _ rfl rfl rfl x
  | row id st off len => obtain ⟨a, cap, rfl, _⟩ := x.row_inv; exact one _ rfl rfl rfl x
  | nptr => have := x.nptr_inv; subst this; exact one _ rfl rfl rfl x
  | ptr id st i o => obtain ⟨a, rfl, _⟩ := x.ptr_inv; exact one _ rfl rfl rfl x
  | iptr cs o => obtain ⟨b, p, f, rfl, _⟩ := x.iptr_inv; exact one _ rfl rfl rfl x
  | func f as bs => obtain ⟨xs, ys, rfl, _⟩ := x.func_inv; exact one _ rfl rfl rfl x
  | nfunc => have := x.nfunc_inv; subst this; exact one _ rfl rfl rfl x
  | map id => obtain ⟨r, rfl, _⟩ := x.map_inv; exact one _ rfl rfl rfl x
end inv

theorem co_ok {n : Nat} {st : St} {a : Go.Act} {w : World} {G : Gh} (hr : Rel n st a w G) {x : Operand} {y : SO} (e : co x = some y) : VR w G st.h (ev st.s y) (a.eval x) := by
  unfold co at e
  split at e
  · injection e with e; subst e; exact hr.slots _
  · split at e
    · rename_i c hc; injection e with e; subst e; exact lit_ok hc
    · cases e
  · injection e with e; subst e
    exact .func _ [] [] #[] #[] rfl rfl (fun j c v h => by simp at h) (fun j c v h => by simp at h)
  · cases e

/-- An operation does what its effect says. -/
def OpOk (P : Program) (n : Nat) (o : Oper) (st : St) (f : Nat) (e : Eff) : Prop :=
  ∀ a w G, Rel n st a w G → ∃ v w' G', ((execOp a.eval o).run P w = .ok (.value v) w' ∨ ((execOp a.eval o).run P w = .ok .skip w' ∧ v = undef)) ∧
    Rel n (e.app st f) (a.put o.dst v) w' G' ∧ Tr w G st.h w' G' (e.heap st.h f)

theorem Eff.heap_nil {d : Option Nat} {v : AVal} {rd : List Nat} (h : Nat → AObj) (f : Nat) : Eff.heap ⟨d, v, rd, [], []⟩ h f = h := by
  funext id
  simp [Eff.heap]
  omega

theorem OpOk.val {P : Program} {n : Nat} {o : Oper} {st : St} {f d : Nat} {c : AVal} {rd : List Nat} (hd : o.dst = some d) (hn : d < n)
    (h : ∀ a w G, Rel n st a w G → ∃ v, (execOp a.eval o).run P w = .ok (.value v) w ∧ VR w G st.h c v) : OpOk P n o st f ⟨some d, c, rd, [], []⟩ := by
  intro a w G hr
  obtain ⟨v, h1, h2⟩ := h a w G hr
  refine ⟨v, w, G, .inl h1, ?_, ?_⟩
  · rw [hd]
    simp only [Eff.app, Eff.slots, Eff.heap_nil]
    exact hr.put hn h2
  · rw [Eff.heap_nil]
    exact Tr.refl _ _ _


section
variable {P : Program} {n : Nat} {o : Oper} {st : St} {f d : Nat}

theorem beqd {α : Type} [BEq α] [LawfulBEq α] [DecidableEq α] (a b : α) : (a == b) = decide (a = b) := by by_cases h : a = b <;> simp [h]

theorem ok_mv {x : Operand} {x' : SO} (hd : o.dst = some d) (hn : d < n) (ho : o.op = .move x ∨ o.op = .assign x) (hx : co x = some x') :
    OpOk P n o st f ⟨some d, ev st.s x', [], [], []⟩ :=
  .val hd hn fun a w G hr => ⟨a.eval x, by rcases ho with ho | ho <;> simp [execOp, ho], co_ok hr hx⟩

theorem ok_pick {c x y : Operand} {c' x' y' : SO} {b : Bool} (hd : o.dst = some d) (hn : d < n) (ho : o.op = .pick c x y) (hc : co c = some c') (hx : co x = some x') (hy : co y = some y')
    (hb : ev st.s c' = .bool b) : OpOk P n o st f ⟨some d, if b = true then ev st.s x' else ev st.s y', [], [], []⟩ :=
  .val hd hn fun a w G hr => by
    have h := co_ok hr hc
    rw [hb] at h
    refine ⟨if b = true then a.eval x else a.eval y, by simp [execOp, ho, h.bool_inv, asBool], ?_⟩
    cases b
    · exact co_ok hr hy
    · exact co_ok hr hx

theorem ok_bin {op : BinOp} {t t' : TypeId} {x y : Operand} {x' y' : SO} {c : AVal} (hd : o.dst = some d) (hn : d < n) (ho : o.op = .binOp op t x y t') (hx : co x = some x') (hy : co y = some y')
    (hb : binI op (ev st.s x') (ev st.s y') = some c) : OpOk P n o st f ⟨some d, c, [], [], []⟩ :=
  .val hd hn fun a w G hr => by
    have h1 := co_ok hr hx
    have h2 := co_ok hr hy
    revert hb h1 h2
    generalize ev st.s x' = u
    generalize ev st.s y' = v
    intro hb h1 h2
    unfold binI at hb
    split at hb
    · rename_i k p k' q
      have e1 := h1.int_inv
      have e2 := h2.int_inv
      have hg : (eqGuard op t x y (.int k p) (.int k' q)).run P w = .ok () w := by
        unfold eqGuard
        cases op <;> simp
      split at hb
      · split at hb
        · rename_i hq
          injection hb with hb; subst hb
          have : ¬ q < 0 := by omega
          (refine ⟨_, ?_, .cl _ _ (.int _ _)⟩; simp [execOp, ho, e1, e2, hg, binOp, Op.shift, this])
        · cases hb
      · split at hb
        · rename_i hq
          injection hb with hb; subst hb
          have : ¬ q < 0 := by omega
          (refine ⟨_, ?_, .cl _ _ (.int _ _)⟩; simp [execOp, ho, e1, e2, hg, binOp, Op.shift, this])
        · cases hb
      · split at hb
        · rename_i hk
          subst hk
          split at hb
          all_goals first
            | (cases hb; done)
            | (split at hb
               · cases hb
               · rename_i hq
                 injection hb with hb; subst hb
                 (refine ⟨_, ?_, .cl _ _ (.int _ _)⟩; simp [execOp, ho, e1, e2, hg, binOp, Op.intDiv, hq]))
            | (injection hb with hb; subst hb
               first
                 | (refine ⟨_, ?_, .cl _ _ (.int _ _)⟩; simp [execOp, ho, e1, e2, hg, binOp, Op.intArith]; done)
                 | (refine ⟨_, ?_, .cl _ _ (.int _ _)⟩; simp only [execOp, ho, e1, e2, hg, binOp, Sem.run_bind, Result.andThen_ok, if_true, if_false, ne_eq, not_true_eq_false]; rfl)
                 | (refine ⟨_, ?_, .cl _ _ (.bool _)⟩; simp [execOp, ho, e1, e2, hg, binOp, Op.intCmp, beqd, bne]; done))
        · cases hb
    · cases hb

theorem ok_binB {op : BinOp} {t t' : TypeId} {x y : Operand} {x' y' : SO} {c : AVal} {neq : Bool} (hd : o.dst = some d) (hn : d < n) (ho : o.op = .binOp op t x y t')
    (hop : op = if neq then .neq else .eql) (ht : P.underlying t = some .bool) (hx : co x = some x') (hy : co y = some y')
    (hb : binBool neq (ev st.s x') (ev st.s y') = some c) : OpOk P n o st f ⟨some d, c, [], [], []⟩ :=
  .val hd hn fun a w G hr => by
    have h1 := co_ok hr hx
    have h2 := co_ok hr hy
    revert hb h1 h2
    generalize ev st.s x' = u
    generalize ev st.s y' = v
    intro hb h1 h2
    unfold binBool at hb
    split at hb
    · rename_i p q
      injection hb with hb; subst hb
      have e1 := h1.bool_inv
      have e2 := h2.bool_inv
      have hg : (eqGuard op t x y (.bool p) (.bool q)).run P w = .ok () w := by
        unfold eqGuard
        cases op <;> simp
      cases neq
      · simp only [Bool.false_eq_true, if_false] at hop ⊢
        subst hop
        (refine ⟨_, ?_, .cl _ _ (.bool _)⟩; simp [execOp, ho, e1, e2, hg, run_eql_bool w t p q ht])
      · simp only [if_true] at hop ⊢
        subst hop
        (refine ⟨_, ?_, .cl _ _ (.bool _)⟩; simp [execOp, ho, e1, e2, hg, run_neq_bool w t p q ht])
    · cases hb

theorem bytes_inj {a b : ByteArray} : a.toList = b.toList ↔ a = b := by
  refine ⟨fun h => ?_, fun h => by rw [h]⟩
  rw [ByteArray.toList_eq, ByteArray.toList_eq] at h
  obtain ⟨⟨x⟩⟩ := a
  obtain ⟨⟨y⟩⟩ := b
  simp at h
  rw [h]

theorem bytes_beq (a b : ByteArray) : (a.toList == b.toList) = decide (a = b) := by
  rw [beqd]
  by_cases h : a = b
  · simp [h]
  · have : ¬ a.toList = b.toList := fun e => h (bytes_inj.1 e)
    simp [h, this]

theorem ok_binS {op : BinOp} {t t' : TypeId} {x y : Operand} {x' y' : SO} {c : AVal} (hd : o.dst = some d) (hn : d < n) (ho : o.op = .binOp op t x y t') (hx : co x = some x') (hy : co y = some y')
    (hb : binStr op (ev st.s x') (ev st.s y') = some c) : OpOk P n o st f ⟨some d, c, [], [], []⟩ :=
  .val hd hn fun a w G hr => by
    have h1 := co_ok hr hx
    have h2 := co_ok hr hy
    revert hb h1 h2
    generalize ev st.s x' = u
    generalize ev st.s y' = v
    intro hb h1 h2
    unfold binStr at hb
    split at hb
    · rename_i p q
      have e1 := h1.str_inv
      have e2 := h2.str_inv
      have hg : (eqGuard op t x y (.string p) (.string q)).run P w = .ok () w := by
        unfold eqGuard
        cases op <;> simp
      split at hb
      · split at hb
        · rename_i hl
          injection hb with hb; subst hb
          have hm : IntKind.i64.max = 9223372036854775807 := by decide
          have : ¬ (9223372036854775807 < ((p.size : Int) + (q.size : Int))) := by omega
          (refine ⟨_, ?_, .cl _ _ (.str _)⟩; simp [execOp, ho, e1, e2, hg, binOp, Op.stringOp, hm, this])
        · cases hb
      · injection hb with hb; subst hb
        (refine ⟨_, ?_, .cl _ _ (.bool _)⟩; simp [execOp, ho, e1, e2, hg, binOp, Op.stringOp, bytes_beq])
      · injection hb with hb; subst hb
        (refine ⟨_, ?_, .cl _ _ (.bool _)⟩; simp [execOp, ho, e1, e2, hg, binOp, Op.stringOp, bytes_beq])
      · cases hb
    · cases hb

theorem ok_not {t : TypeId} {x : Operand} {x' : SO} {b : Bool} (hd : o.dst = some d) (hn : d < n) (ho : o.op = .unOp .not t x) (hx : co x = some x') (hb : ev st.s x' = .bool b) :
    OpOk P n o st f ⟨some d, .bool (!b), [], [], []⟩ :=
  .val hd hn fun a w G hr => by
    have h := co_ok hr hx
    rw [hb] at h
    (refine ⟨_, ?_, .cl _ _ (.bool _)⟩; simp [execOp, ho, h.bool_inv, Op.unary])

theorem ok_neg {t : TypeId} {x : Operand} {x' : SO} {k : IntKind} {m : Int} (hd : o.dst = some d) (hn : d < n) (ho : o.op = .unOp .neg t x) (hx : co x = some x') (hb : ev st.s x' = .int k m) :
    OpOk P n o st f ⟨some d, .int k (k.wrap (0 - m)), [], [], []⟩ :=
  .val hd hn fun a w G hr => by
    have h := co_ok hr hx
    rw [hb] at h
    (refine ⟨_, ?_, .cl _ _ (.int _ _)⟩; simp [execOp, ho, h.int_inv, Op.unary, Op.intArith])

theorem ok_conv {s t : TypeId} {x : Operand} {x' : SO} {k k' : IntKind} {m : Int} {ds : TypeDesc} (hd : o.dst = some d) (hn : d < n) (ho : o.op = .convert s t x) (hs : P.underlying s = some ds) (ht : P.underlying t = some (.int k))
    (hx : co x = some x') (hb : ev st.s x' = .int k' m) : OpOk P n o st f ⟨some d, .int k (k.wrap m), [], [], []⟩ :=
  .val hd hn fun a w G hr => by
    have h := co_ok hr hx
    rw [hb] at h
    (refine ⟨_, ?_, .cl _ _ (.int _ _)⟩; simp [execOp, ho, h.int_inv, convert, run_underlying hs, run_underlying ht, Conv.intToInt])

theorem addr_add (b p q : Nat) : (⟨b, p, none⟩ : Addr).add q = ⟨b, p + q, none⟩ := by unfold Addr.add; split <;> simp_all

theorem ok_fa {s : TypeId} {x : Operand} {fi : Nat} {x' : SO} {fs : Array Field} {fd : Field} {c : AVal} (hd : o.dst = some d) (hn : d < n) (ho : o.op = .fieldAddr s x fi) (hs : P.underlying s = some (.struct fs)) (hf : fs[fi]? = some fd)
    (hz : ∃ i, P.info? fd.type = some i ∧ i.size ≠ 0) (hx : co x = some x')
    (hb : (∃ id q i p, ev st.s x' = .ptr id q i p ∧ c = .ptr id q i (p + fd.offset)) ∨ ∃ cs p, ev st.s x' = .iptr cs p ∧ c = .iptr cs (p + fd.offset)) :
    OpOk P n o st f ⟨some d, c, [], [], []⟩ :=
  .val hd hn fun a w G hr => by
    obtain ⟨i, hi, hz⟩ := hz
    have h := co_ok hr hx
    have run : ∀ ad : Addr, a.eval x = .pointer (some ad) → (execOp a.eval o).run P w = .ok (.value (.pointer (some (ad.add fd.offset)))) w := by
      intro ad he
      simp [execOp, ho, he, Instr.fieldAt, run_underlying hs, hf, Instr.sureAddr, fieldPlace, sizeOf, typeInfo, hi, hz]
    rcases hb with ⟨id, q, i, p, hb, rfl⟩ | ⟨cs, p, hb, rfl⟩
    · rw [hb] at h
      obtain ⟨ad, he, hfr, hh⟩ := h.ptr_inv
      refine ⟨_, run ad he, .ptr _ _ _ _ _ hfr fun st' k t fu es h0 => ?_⟩
      obtain ⟨h1, h2⟩ := hh st' k t fu es h0
      refine ⟨h1, fun e => ?_⟩
      obtain ⟨b, C, hM, rfl⟩ := h2 e
      exact ⟨b, C, hM, by rw [addr_add]; congr 1; omega⟩
    · rw [hb] at h
      obtain ⟨b, p', f', he, hI, hc, hr'⟩ := h.iptr_inv
      refine ⟨_, run _ he, ?_⟩
      rw [addr_add, Nat.add_assoc]
      exact .cl _ _ (.iptr cs _ b p' f' hI hc hr')

theorem ok_ia {t e : TypeId} {x i : Operand} {x' i' : SO} {inf : TypeInfo} {c : AVal} {rd : List Nat} (hd : o.dst = some d) (hn : d < n) (ho : o.op = .indexAddr t x i) (ht : P.underlying t = some (.slice e)) (hi : P.info? e = some inf)
    (hx : co x = some x') (hy : co i = some i')
    (hb : (∃ xs ki m el, ev st.s x' = .sl inf.size xs ∧ ev st.s i' = .int ki m ∧ 0 ≤ m ∧ xs[m.toNat]? = some el ∧ c = .iptr el 0) ∨
      ∃ id q off len ki m t' fu es, ev st.s x' = .row id q off len ∧ ev st.s i' = .int ki m ∧ 0 ≤ m ∧ m < len ∧ st.h id = .cells q inf.size t' fu es ∧ c = .ptr id q (off + m.toNat) 0) :
    OpOk P n o st f ⟨some d, c, rd, [], []⟩ :=
  .val hd hn fun a w G hr => by
    have h1 := co_ok hr hx
    have h2 := co_ok hr hy
    rcases hb with ⟨xs, ki, m, el, hb1, hb2, h0, hel, rfl⟩ | ⟨id, q, off, len, ki, m, t', fu, es, hb1, hb2, h0, hlt, hh, rfl⟩
    · rw [hb1] at h1
      rw [hb2] at h2
      obtain ⟨ad, cap, he, _, hsl⟩ := h1.sl_inv
      have hlt : m.toNat < xs.length := (List.getElem?_eq_some_iff.1 hel).1
      have hlt' : m < (xs.length : Int) := by omega
      rcases hsl with rfl | ⟨b, p, g, rfl, hI, hk, hc, hrr⟩
      · simp at hlt
      · refine ⟨.pointer (some ⟨b, p + m.toNat * inf.size, none⟩), ?_, ?_⟩
        · simp [execOp, ho, he, h2.int_inv, Instr.indexAt, asIntOf, run_underlying ht, h0, hlt', sizeOf, typeInfo, hi, addr_add]
        · have := CR.iptr (w := w) (I := G.I) el 0 b (p + m.toNat * inf.size) (g m.toNat) hI (fun j c hj => by rw [Nat.add_assoc]; exact hc _ _ _ _ hel hj) (fun j c hj => hrr _ _ _ _ hel hj)
          exact .cl _ _ (by simpa using this)
    · rw [hb1] at h1
      rw [hb2] at h2
      obtain ⟨ad, cap, he, hfr, hro⟩ := h1.row_inv
      obtain ⟨hle, hm⟩ := (hro _ _ _ _ _ hh).2 rfl
      have hpos : 0 < len := by omega
      rcases hm with ⟨_, h3, _⟩ | ⟨b, C, hM, hcap, hC⟩
      · omega
      · have hob := hr.heap.obj id
        rw [hh] at hob
        obtain ⟨_, _, hob⟩ := hob
        have hcap' : ad = some ⟨b, off * inf.size, none⟩ := by
          rcases hcap with hcap | hcap
          · rcases hob with ⟨_, hob⟩ | ⟨b', C', cs, hM', _, _, _, hle', _⟩
            · subst hob; simp at hle; omega
            · rw [hM] at hM'; cases hM'; omega
          · exact hcap
        subst hcap'
        refine ⟨.pointer (some ⟨b, (off + m.toNat) * inf.size, none⟩), ?_, ?_⟩
        · simp [execOp, ho, he, h2.int_inv, Instr.indexAt, asIntOf, run_underlying ht, h0, hlt, sizeOf, typeInfo, hi, addr_add, Nat.add_mul]
        · refine .ptr _ _ _ _ _ hfr fun st' k t'' fu' es' h00 => ?_
          obtain ⟨h1', h2'⟩ := hro st' k t'' fu' es' h00
          refine ⟨h1', fun e' => ?_⟩
          rw [hh] at h00
          injection h00 with e1 e2 e3 e4 e5
          subst e2
          exact ⟨b, C, hM, by simp⟩

theorem ok_iaA {t e : TypeId} {x i : Operand} {x' i' : SO} {inf : TypeInfo} {len : Nat} {c : AVal} {ki : IntKind} {m : Int} (hd : o.dst = some d) (hn : d < n) (ho : o.op = .indexAddr t x i) (ht : P.underlying t = some (.array len e)) (hi : P.info? e = some inf)
    (hx : co x = some x') (hy : co i = some i') (hm : ev st.s i' = .int ki m) (h0 : 0 ≤ m) (hlt : m < len)
    (hb : (∃ id q i p, ev st.s x' = .ptr id q i p ∧ c = .ptr id q i (p + m.toNat * inf.size)) ∨ ∃ cs p, ev st.s x' = .iptr cs p ∧ c = .iptr cs (p + m.toNat * inf.size)) :
    OpOk P n o st f ⟨some d, c, [], [], []⟩ :=
  .val hd hn fun a w G hr => by
    have h := co_ok hr hx
    have h2 := co_ok hr hy
    rw [hm] at h2
    have run : ∀ ad : Addr, a.eval x = .pointer (some ad) → (execOp a.eval o).run P w = .ok (.value (.pointer (some (ad.add (m.toNat * inf.size))))) w := by
      intro ad he
      simp [execOp, ho, he, h2.int_inv, Instr.indexAt, asIntOf, run_underlying ht, Instr.sureAddr, h0, hlt, sizeOf, typeInfo, hi]
    rcases hb with ⟨id, q, i, p, hb, rfl⟩ | ⟨cs, p, hb, rfl⟩
    · rw [hb] at h
      obtain ⟨ad, he, hfr, hh⟩ := h.ptr_inv
      refine ⟨_, run ad he, .ptr _ _ _ _ _ hfr fun st' k t fu es h0 => ?_⟩
      obtain ⟨h1, h2⟩ := hh st' k t fu es h0
      refine ⟨h1, fun e => ?_⟩
      obtain ⟨b, C, hM, rfl⟩ := h2 e
      exact ⟨b, C, hM, by rw [addr_add]; congr 1; omega⟩
    · rw [hb] at h
      obtain ⟨b, p', f', he, hI, hc, hr'⟩ := h.iptr_inv
      refine ⟨_, run _ he, ?_⟩
      rw [addr_add, Nat.add_assoc]
      exact .cl _ _ (.iptr cs _ b p' f' hI hc hr')

theorem ok_ixS {t : TypeId} {x i : Operand} {x' i' : SO} {ki : IntKind} {m : Int} {s : ByteArray} {b : UInt8} (hd : o.dst = some d) (hn : d < n) (ho : o.op = .index t x i) (ht : P.underlying t = some .string)
    (hx : co x = some x') (hy : co i = some i') (hs : ev st.s x' = .str s) (hm : ev st.s i' = .int ki m) (h0 : 0 ≤ m) (hb : s[m.toNat]? = some b) :
    OpOk P n o st f ⟨some d, .int .u8 b.toNat, [], [], []⟩ :=
  .val hd hn fun a w G hr => by
    have h1 := co_ok hr hx
    have h2 := co_ok hr hy
    rw [hs] at h1
    rw [hm] at h2
    (refine ⟨_, ?_, .cl _ _ (.int _ _)⟩; simp [execOp, ho, h1.str_inv, h2.int_inv, Instr.index, asIntOf, run_underlying ht, h0, hb])

end

def isAg (P : Program) (t : TypeId) : Bool :=
  match P.underlying t with
  | some (.struct _) | some (.array _ _) => true
  | _ => false

section
variable {P : Program} {n : Nat} {o : Oper} {st : St} {f d : Nat}

theorem run_isAg {t : TypeId} {ds : TypeDesc} (h : P.underlying t = some ds) (w : World) : (isAgg t).run P w = .ok (isAg P t) w := by
  unfold isAgg isAg
  rw [Sem.run_bind, run_underlying h w, h]
  cases ds <;> simp

/-- What lies at an address, as abstract cells tell it. -/
theorem run_load_any {w : World} {G : Gh} {h : Nat → AObj} {t : TypeId} {ds : TypeDesc} {inf : TypeInfo} {b q : Nat} {xs : List AVal} {c : AVal} (hu : P.underlying t = some ds) (hi : P.info? t = some inf)
    (hx : ∀ (j : Nat) c, xs[j]? = some c → ∃ u, w.cell? ⟨b, q + j, none⟩ = some u ∧ VR w G h c u ∧ u.oneCell' = true) (hl : loadFrom (isAg P t) inf.size xs = some c) :
    ∃ v, (loadVar t ⟨b, q, none⟩).run P w = .ok v w ∧ VR w G h c v := by
  unfold loadVar
  rw [Sem.run_bind, run_isAg hu w]
  unfold loadFrom at hl
  cases hag : isAg P t with
  | true =>
    simp only [hag, if_true] at hl ⊢
    split at hl
    · rename_i hle
      injection hl with hl; subst hl
      let g : Nat → Value := fun j => (w.cell? ⟨b, q + j, none⟩).getD undef
      have hg : ∀ j, j < inf.size → w.cell? ((⟨b, q, none⟩ : Addr).add j) = some (g j) := by
        intro j hj
        obtain ⟨u, hu1, _⟩ := hx j (xs[j]'(by omega)) (List.getElem?_eq_getElem _)
        rw [addr_add]
        simp [g, hu1]
      refine ⟨.agg ((List.range inf.size).map g).toArray, by simp [sizeOf, typeInfo, hi, run_loadCells w _ _ g hg], .agg _ _ (by simp; omega) (fun j v hv => ?_) fun j c v hc hv => ?_⟩
      · have hj : j < inf.size := by
          have := (Array.getElem?_eq_some_iff.1 hv).1
          simpa using this
        obtain ⟨u, hu1, hu2, hu3⟩ := hx j (xs[j]'(by omega)) (List.getElem?_eq_getElem _)
        have : v = u := by
          simp [hj, g, hu1] at hv
          exact hv.symm
        exact this ▸ hu3
      · have hj : j < inf.size := by
          have := (Array.getElem?_eq_some_iff.1 hv).1
          simpa using this
        rw [List.getElem?_take, if_pos hj] at hc
        obtain ⟨u, hu1, hu2, hu3⟩ := hx j c hc
        have : v = u := by
          simp [hj, g, hu1] at hv
          exact hv.symm
        exact this ▸ hu2
    · cases hl
  | false =>
    simp only [hag, Bool.false_eq_true, if_false] at hl ⊢
    split at hl
    · rename_i c' r
      injection hl with hl; subst hl
      obtain ⟨u, hu1, hu2, _⟩ := hx 0 c' rfl
      simp only [Nat.add_zero] at hu1
      exact ⟨u, by simp [hu1], hu2⟩
    · cases hl

/-- The cells of an element of an object. -/
theorem Rel.elem {a : Go.Act} {w : World} {G : Gh} (hr : Rel n st a w G) {id q k : Nat} {t : TypeId} {fu : Bool} {es : List (List AVal)} (hh : st.h id = .cells q k t fu es)
    {b C i p : Nat} (hM : G.M id = some (b, C)) {e : List AVal} (he : es[i]? = some e) :
    ∀ (j : Nat) c, (e.drop p)[j]? = some c → ∃ u, w.cell? ⟨b, (i * k + p) + j, none⟩ = some u ∧ VR w G st.h c u ∧ u.oneCell' = true := by
  intro j c hc
  have hob := hr.heap.obj id
  rw [hh] at hob
  obtain ⟨hk, hlen, hob⟩ := hob
  rcases hob with ⟨h0, _⟩ | ⟨b', C', cs, hM', _, hg, hs, hle, _, _, h1, hv⟩
  · rw [hM] at h0; cases h0
  · rw [hM] at hM'; cases hM'
    rw [List.getElem?_drop] at hc
    have hek : e.length = k := hlen e (List.mem_of_getElem? he)
    have hpj : p + j < k := by have := (List.getElem?_eq_some_iff.1 hc).1; omega
    have hi : i < es.length := (List.getElem?_eq_some_iff.1 he).1
    have hb : i * k + (p + j) < cs.size := by
      have h3 : (i + 1) * k ≤ C * k := Nat.mul_le_mul_right _ (by omega)
      rw [Nat.add_mul] at h3
      omega
    refine ⟨cs[i * k + (p + j)], ?_, hv i e (p + j) c _ he hc (Array.getElem?_eq_getElem hb), h1 _ _ (Array.getElem?_eq_getElem hb)⟩
    rw [cell_of_row w b _ cs t (0, 0) hg, show i * k + p + j = i * k + (p + j) by omega]
    exact Array.getElem?_eq_getElem hb

theorem ok_ld {t : TypeId} {x : Operand} {x' : SO} {ds : TypeDesc} {inf : TypeInfo} {c : AVal} {rd : List Nat} (hd : o.dst = some d) (hn : d < n) (ho : o.op = .load t x) (hu : P.underlying t = some ds) (hi : P.info? t = some inf)
    (hx : co x = some x')
    (hb : (∃ id q i p k t' fu es e, ev st.s x' = .ptr id q i p ∧ st.h id = .cells q k t' fu es ∧ es[i]? = some e ∧ loadFrom (isAg P t) inf.size (e.drop p) = some c) ∨
      ∃ cs p, ev st.s x' = .iptr cs p ∧ loadFrom (isAg P t) inf.size (cs.drop p) = some c) :
    OpOk P n o st f ⟨some d, c, rd, [], []⟩ :=
  .val hd hn fun a w G hr => by
    have h := co_ok hr hx
    rcases hb with ⟨id, q, i, p, k, t', fu, es, e, hb, hh, he, hl⟩ | ⟨cs, p, hb, hl⟩
    · rw [hb] at h
      obtain ⟨ad, hea, hfr, hro⟩ := h.ptr_inv
      obtain ⟨b, C, hM, rfl⟩ := (hro _ _ _ _ _ hh).2 rfl
      obtain ⟨v, hv1, hv2⟩ := run_load_any (G := G) (h := st.h) hu hi (hr.elem hh hM (p := p) he) hl
      exact ⟨v, by simp [execOp, ho, hea, Instr.loadAt, Instr.sureAddr, hv1], hv2⟩
    · rw [hb] at h
      obtain ⟨b, p', g, hea, hI, hc, hrr⟩ := h.iptr_inv
      obtain ⟨v, hv1, hv2⟩ := run_load_any (G := G) (h := st.h) (b := b) (q := p' + p) (xs := cs.drop p) hu hi (fun j c hj => by
        rw [List.getElem?_drop] at hj
        have h1 := hc _ _ hj
        have h2 := hrr _ _ hj
        exact ⟨_, by rw [Nat.add_assoc]; exact h1, .cl _ _ h2, h2.one⟩) hl
      exact ⟨v, by simp [execOp, ho, hea, Instr.loadAt, Instr.sureAddr, hv1], hv2⟩

/-! ### A piece of a list is replaced -/
theorem splice_get {α : Type} (A vs : List α) (o m : Nat) (h : o + vs.length ≤ A.length) :
    (A.take o ++ vs ++ A.drop (o + vs.length))[m]? = if m < o then A[m]? else if m < o + vs.length then vs[m - o]? else A[m]? := by
  have h1 : (A.take o).length = o := by simp; omega
  have h2 : (A.take o ++ vs).length = o + vs.length := by simp; omega
  by_cases c1 : m < o
  · rw [if_pos c1, List.getElem?_append_left (by omega), List.getElem?_append_left (by omega), List.getElem?_take, if_pos c1]
  · rw [if_neg c1]
    by_cases c2 : m < o + vs.length
    · rw [if_pos c2, List.getElem?_append_left (by omega), List.getElem?_append_right (by omega), h1]
    · rw [if_neg c2, List.getElem?_append_right (by omega), h2, List.getElem?_drop]
      congr 1
      omega

theorem splice_length {α : Type} (A vs : List α) (o : Nat) (h : o + vs.length ≤ A.length) : (A.take o ++ vs ++ A.drop (o + vs.length)).length = A.length := by
  simp; omega

theorem Eff.heap_wr {d : Option Nat} {v : AVal} {rd : List Nat} {id : Nat} {ob : AObj} (h : Nat → AObj) (f : Nat) : Eff.heap ⟨d, v, rd, [(id, ob)], []⟩ h f = upd h id ob := by
  funext i
  simp only [Eff.heap, List.length_nil, Nat.add_zero]
  rw [if_neg (by omega)]
  by_cases e : i = id
  · subst e; simp [upd_same]
  · rw [upd_ne _ _ e]
    have : (id == i) = false := by simp; exact fun h => e h.symm
    simp [this]

theorem Eff.heap_nw {d : Option Nat} {v : AVal} {rd : List Nat} {ob : AObj} (h : Nat → AObj) (f : Nat) : Eff.heap ⟨d, v, rd, [], [ob]⟩ h f = upd h f ob := by
  funext i
  simp only [Eff.heap, List.length_cons, List.length_nil]
  by_cases e : i = f
  · subst e; simp [upd_same]
  · rw [upd_ne _ _ e, if_neg (by omega)]
    simp

/-- Elements that lie side by side: the cell at a place. -/
theorem cell_place {i i' k j p m : Nat} (hj : j < k) (hpm : p + m ≤ k) (hne : i' ≠ i) : i' * k + j < i * k + p ∨ i * k + p + m ≤ i' * k + j := by
  rcases Nat.lt_or_gt_of_ne hne with h | h
  · left
    have : (i' + 1) * k ≤ i * k := Nat.mul_le_mul_right _ h
    rw [Nat.add_mul] at this
    omega
  · right
    have : (i + 1) * k ≤ i' * k := Nat.mul_le_mul_right _ h
    rw [Nat.add_mul] at this
    omega

theorem ok_st {t : TypeId} {x y : Operand} {x' y' : SO} {inf : TypeInfo} {id q i p k : Nat} {t' : TypeId} {fu : Bool} {es : List (List AVal)} {e : List AVal} (hd : o.dst = none) (ho : o.op = .store t x y) (hi : P.info? t = some inf)
    (hx : co x = some x') (hy : co y = some y') (hb : ev st.s x' = .ptr id q i p) (hh : st.h id = .cells q k t' fu es) (he : es[i]? = some e) (hf : (ev st.s y').flat = true)
    (hl : (cellsOf (ev st.s y')).length = inf.size) (hp : p + inf.size ≤ e.length) (rd : List Nat) :
    OpOk P n o st f ⟨none, .undef, rd, [(id, .cells q k t' fu (es.set i (e.take p ++ cellsOf (ev st.s y') ++ e.drop (p + inf.size))))], []⟩ := by
  intro a w G hr
  have h1 := co_ok hr hx
  have h2 := co_ok hr hy
  rw [hb] at h1
  obtain ⟨ad, hea, hfr, hro⟩ := h1.ptr_inv
  obtain ⟨b, C, hM, rfl⟩ := (hro _ _ _ _ _ hh).2 rfl
  obtain ⟨hc1, hc2, hc3⟩ := h2.cells hf
  have hob := hr.heap.obj id
  rw [hh] at hob
  obtain ⟨hk, hlen, hob⟩ := hob
  rcases hob with ⟨h0, _⟩ | ⟨b', C', cs, hM', _, hg, hs, hle, hfu, hC, ho1, hv⟩
  · rw [hM] at h0; cases h0
  rw [hM] at hM'; cases hM'
  have hek : e.length = k := hlen e (List.mem_of_getElem? he)
  have hilt : i < es.length := (List.getElem?_eq_some_iff.1 he).1
  have hsz : (a.eval y).cells.size = inf.size := by rw [← hc1]; exact hl
  have hfit : i * k + p + (a.eval y).cells.toList.length ≤ cs.toList.length := by
    have h3 : (i + 1) * k ≤ C * k := Nat.mul_le_mul_right _ (by omega)
    rw [Nat.add_mul] at h3
    simp only [Array.length_toList]
    omega
  have hone : ∀ v ∈ (a.eval y).cells.toList, v.oneCell' = true := by
    intro v hv
    obtain ⟨j, hj, e⟩ := List.mem_iff_getElem.1 hv
    exact hc2 j v (by rw [← e]; simp at hj; simp [hj])
  have hst := run_storeCells_at P b (i * k + p) t' (a.eval y).cells.toList 0 cs w hg (by simpa using hfit) hone
  simp only [Nat.add_zero] at hst
  let cs' : Array Value := (cs.toList.take (i * k + p) ++ (a.eval y).cells.toList ++ cs.toList.drop (i * k + p + (a.eval y).cells.toList.length)).toArray
  have hget : ∀ m, cs'[m]? = if m < i * k + p then cs[m]? else if m < i * k + p + inf.size then (a.eval y).cells[m - (i * k + p)]? else cs[m]? := by
    intro m
    have := splice_get cs.toList (a.eval y).cells.toList (i * k + p) m hfit
    simp only [cs', List.getElem?_toArray]
    rw [this]
    simp [hsz]
  have hcs : cs'.size = C * k := by
    have := splice_length cs.toList (a.eval y).cells.toList (i * k + p) hfit
    simp only [cs', List.size_toArray]
    rw [this]
    simpa using hs
  have hnew : ∀ m, (e.take p ++ cellsOf (ev st.s y') ++ e.drop (p + inf.size))[m]? = if m < p then e[m]? else if m < p + inf.size then (cellsOf (ev st.s y'))[m - p]? else e[m]? := by
    intro m
    have := splice_get e (cellsOf (ev st.s y')) p m (by omega)
    rwa [hl] at this
  have hnl : (e.take p ++ cellsOf (ev st.s y') ++ e.drop (p + inf.size)).length = k := by
    have := splice_length e (cellsOf (ev st.s y')) p (by omega)
    rw [hl] at this
    omega
  obtain ⟨r1, r2, r3⟩ := hr.heap.change (cs' := cs') (st' := q) (fu' := fu) (es' := es.set i (e.take p ++ cellsOf (ev st.s y') ++ e.drop (p + inf.size))) hh hM hg (Nat.le_refl _) (fun _ => by simp)
    (fun e' he' => by
      rcases List.mem_or_eq_of_mem_set he' with h | h
      · exact hlen e' h
      · rw [h]; exact hnl) hcs (by simpa using hle) (by simpa using hfu)
    (fun j v hj => by
      rw [hget] at hj
      split at hj
      · exact ho1 _ _ hj
      · split at hj
        · exact hc2 _ _ hj
        · exact ho1 _ _ hj)
    (fun i' e' j c v he' hc hvj => by
      rw [hget] at hvj
      by_cases hii : i' = i
      · subst hii
        rw [List.getElem?_set_self hilt] at he'
        injection he' with he'
        subst he'
        rw [hnew] at hc
        by_cases c1 : j < p
        · rw [if_pos c1] at hc
          rw [if_pos (by omega)] at hvj
          exact hv i' e j c v he hc hvj
        · rw [if_neg c1] at hc
          rw [if_neg (by omega)] at hvj
          by_cases c2 : j < p + inf.size
          · rw [if_pos c2] at hc
            rw [if_pos (by omega), show i' * k + j - (i' * k + p) = j - p by omega] at hvj
            exact hc3 _ _ _ hc hvj
          · rw [if_neg c2] at hc
            rw [if_neg (by omega)] at hvj
            exact hv i' e j c v he hc hvj
      · rw [List.getElem?_set_ne (Ne.symm hii)] at he'
        have hjk : j < k := by
          have h5 := (List.getElem?_eq_some_iff.1 hc).1
          have h6 := hlen e' (List.mem_of_getElem? he')
          omega
        have h7 := cell_place (i := i) (i' := i') (k := k) (j := j) (p := p) (m := inf.size) hjk (by omega) hii
        have h8 : cs[i' * k + j]? = some v := by
          split at hvj
          · exact hvj
          · split at hvj
            · omega
            · exact hvj
        exact hv i' e' j c v he' hc h8)
  refine ⟨undef, w.setRow b cs', G, .inr ⟨?_, rfl⟩, ?_, ?_⟩
  · simp [execOp, ho, hea, Instr.storeAt, Instr.sureAddr, storeVar, sizeOf, typeInfo, hi, hsz, hst, cs']
  · rw [hd]
    simp only [Eff.app, Eff.slots, Eff.heap_wr]
    exact hr.ext (fun _ h => h) (r3.keepI hr.heap) r2 r1
  · rw [Eff.heap_wr]
    exact r3

/-- A variable of its own. -/
theorem ok_new {c : AVal} {t : TypeId} (hd : o.dst = some d) (hn : d < n) (hfree : st.h f = .free) (hf : c.flat = true) (h0 : 0 < (cellsOf c).length)
    (hrun : ∀ a w G, Rel n st a w G → ∃ v, (execOp a.eval o).run P w = .ok (.value (.pointer (some ⟨w.heap.size, 0, none⟩))) (w.alloc (.cells v.cells t)) ∧ VR w G st.h c v) :
    OpOk P n o st f ⟨some d, .ptr f 0 0 0, [], [], [.cells 0 (cellsOf c).length t true [cellsOf c]]⟩ := by
  intro a w G hr
  obtain ⟨v, h1, h2⟩ := hrun a w G hr
  obtain ⟨hc1, hc2, hc3⟩ := h2.cells hf
  have hr1 := hr.heap.alloc hr.heap.ownLt hfree (cellsOf c).length 1 t true [cellsOf c] v.cells h0 (by simp) (by rw [Nat.one_mul]; exact hc1.symm) (by simp) (by simp) (by simp [maxLen]) hc2
    (fun i e j c' u he hc hu => by
      cases i with
      | zero =>
        simp at he
        subst he
        exact hc3 j c' u hc (by simpa using hu)
      | succ i => simp at he)
  obtain ⟨r1, r2, r3⟩ := hr1
  refine ⟨_, _, ⟨G.I, upd G.M f (some (w.heap.size, 1))⟩, .inl h1, ?_, ?_⟩
  · rw [hd]
    simp only [Eff.app, Eff.slots, Eff.heap_nw]
    have := (hr.ext r3.I (r3.keepI hr.heap) r2 r1).put hn (c := .ptr f 0 0 0) (v := .pointer (some ⟨w.heap.size, 0, none⟩))
      (.ptr _ _ _ _ _ (by show upd st.h f _ f ≠ _; rw [upd_same]; simp) fun st' k t' fu es h => by
        have h' : upd st.h f (.cells 0 (cellsOf c).length t true [cellsOf c]) f = .cells st' k t' fu es := h
        rw [upd_same] at h'
        injection h' with e1 e2 e3 e4 e5
        subst e1
        exact ⟨Nat.le_refl _, fun _ => ⟨w.heap.size, 1, upd_same _ _ _, by simp⟩⟩)
    exact this
  · rw [Eff.heap_nw]
    exact r3

theorem ok_box {t : TypeId} {x : Operand} {x' : SO} (hd : o.dst = some d) (hn : d < n) (hfree : st.h f = .free) (ho : o.op = .box t x) (hx : co x = some x') (hf : (ev st.s x').flat = true) (h0 : 0 < (cellsOf (ev st.s x')).length) :
    OpOk P n o st f ⟨some d, .ptr f 0 0 0, [], [], [.cells 0 (cellsOf (ev st.s x')).length t true [cellsOf (ev st.s x')]]⟩ :=
  ok_new hd hn hfree hf h0 fun a w G hr => ⟨a.eval x, by simp [execOp, ho, Instr.box, newVar, newRow], co_ok hr hx⟩

theorem lits_ok {w : World} {G : Gh} {h : Nat → AObj} : ∀ {vs : List Value} {cs : List AVal}, lits vs = some cs → cs.length = vs.length ∧ (∀ (j : Nat) v, vs[j]? = some v → v.oneCell' = true) ∧
    ∀ (j : Nat) c v, cs[j]? = some c → vs[j]? = some v → VR w G h c v
  | [], cs, e => by simp [lits] at e; subst e; simp
  | v :: vs, cs, e => by
    unfold lits at e
    split at e
    · rename_i c cs' hc hcs
      injection e with e; subst e
      obtain ⟨h1, h2, h3⟩ := lits_ok (w := w) (G := G) (h := h) hcs
      refine ⟨by simp [h1], fun j u hu => ?_, fun j c' u hc' hu => ?_⟩
      · cases j with
        | zero =>
          simp at hu; subst hu
          unfold lit at hc
          split at hc <;> first | rfl | cases hc
        | succ j => simp at hu; exact h2 j u hu
      · cases j with
        | zero => simp at hc' hu; subst hc' hu; exact lit_ok hc
        | succ j => simp at hc' hu; exact h3 j c' u hc' hu
    · cases e

theorem ok_alc {t : TypeId} {inf : TypeInfo} {z : Value} {zs : List AVal} (hd : o.dst = some d) (hn : d < n) (hfree : st.h f = .free) (ho : o.op = .alloc t) (hi : P.info? t = some inf) (hz : inf.zero = some z)
    (hzs : lits z.cells.toList = some zs) (h0 : 0 < zs.length) : OpOk P n o st f ⟨some d, .ptr f 0 0 0, [], [], [.cells 0 zs.length t true [zs]]⟩ := by
  refine ok_new (c := .agg zs) hd hn hfree rfl h0 fun a w G hr => ⟨.agg z.cells, by simp [execOp, ho, Instr.alloc, zeroValue, typeInfo, hi, hz, newVar, newRow, Value.cells], ?_⟩
  obtain ⟨h1, h2, h3⟩ := lits_ok (w := w) (G := G) (h := st.h) hzs
  exact .agg _ _ (by simpa using h1) (fun j v hv => h2 j v (by simpa using hv)) fun j c v hc hv => h3 j c v hc (by simpa using hv)

end

section
variable {P : Program} {n : Nat} {o : Oper} {st : St} {f d : Nat}

/-- Parts as the machine has them, and as the abstract one has them. -/
inductive Parts (place : Nat → Option (Nat × Nat)) (a : Go.Act) (st : St) : List (Nat × Operand) → List (Nat × Nat × SO) → Prop
  | nil : Parts place a st [] []
  | cons {i off size : Nat} {x : Operand} {x' : SO} {r : List (Nat × Operand)} {r' : List (Nat × Nat × SO)} (hp : place i = some (off, size)) (hx : co x = some x') (hr : Parts place a st r r') :
      Parts place a st ((i, x) :: r) ((off, size, x') :: r')

theorem fill_ok {place : Nat → Option (Nat × Nat)} {a : Go.Act} {w : World} {G : Gh} (hr : Rel n st a w G) : ∀ {ps : List (Nat × Operand)} {qs : List (Nat × Nat × SO)}, Parts place a st ps qs →
    ∀ (arr : Array Value) (cs cs' : List AVal), cs.length = arr.size → (∀ (j : Nat) v, arr[j]? = some v → v.oneCell' = true) →
    (∀ (j : Nat) c v, cs[j]? = some c → arr[j]? = some v → VR w G st.h c v) → fillA st.s cs qs = some cs' →
    ∃ arr', Instr.fill place arr (ps.map fun p => (p.1, a.eval p.2)) = some arr' ∧ cs'.length = arr'.size ∧ (∀ (j : Nat) v, arr'[j]? = some v → v.oneCell' = true) ∧
      ∀ (j : Nat) c v, cs'[j]? = some c → arr'[j]? = some v → VR w G st.h c v := by
  intro ps qs hp
  induction hp with
  | nil =>
    intro arr cs cs' h1 h2 h3 h4
    simp [fillA] at h4
    subst h4
    exact ⟨arr, rfl, h1, h2, h3⟩
  | @cons i off size x x' r r' hpl hx _ ih =>
    intro arr cs cs' h1 h2 h3 h4
    simp only [fillA] at h4
    split at h4
    · rename_i hc
      obtain ⟨hf, hl, hle⟩ := hc
      have hv := co_ok hr hx
      obtain ⟨c1, c2, c3⟩ := hv.cells hf
      obtain ⟨g1, g2⟩ := Great.foldl_set off (a.eval x).cells.toList 0 arr
      have hsz : (a.eval x).cells.size = size := by rw [← c1]; exact hl
      have hsp : ∀ m, (cs.take off ++ cellsOf (ev st.s x') ++ cs.drop (off + size))[m]? = if m < off then cs[m]? else if m < off + size then (cellsOf (ev st.s x'))[m - off]? else cs[m]? := by
        intro m
        have := splice_get cs (cellsOf (ev st.s x')) off m (by omega)
        rwa [hl] at this
      have hspl : (cs.take off ++ cellsOf (ev st.s x') ++ cs.drop (off + size)).length = cs.length := by
        have := splice_length cs (cellsOf (ev st.s x')) off (by omega)
        rwa [hl] at this
      obtain ⟨arr', i1, i2, i3, i4⟩ := ih (((a.eval x).cells.toList.zipIdx 0).foldl (fun cs (x : Value × Nat) => cs.setIfInBounds (off + x.2) x.1) arr)
        (cs.take off ++ cellsOf (ev st.s x') ++ cs.drop (off + size)) cs' (by rw [g1, hspl, h1])
        (fun j v hj => by
          rw [g2] at hj
          split at hj
          · exact c2 _ _ (by simpa using hj)
          · exact h2 _ _ hj)
        (fun j c v hc hj => by
          rw [g2] at hj
          rw [hsp] at hc
          simp only [Nat.add_zero, Array.length_toList, hsz] at hj
          by_cases k1 : j < off
          · rw [if_pos k1] at hc
            rw [if_neg (by omega)] at hj
            exact h3 _ _ _ hc hj
          · rw [if_neg k1] at hc
            by_cases k2 : j < off + size
            · rw [if_pos k2] at hc
              rw [if_pos (by omega)] at hj
              exact c3 _ _ _ hc (by simpa using hj)
            · rw [if_neg k2] at hc
              rw [if_neg (by omega)] at hj
              exact h3 _ _ _ hc hj) h4
      refine ⟨arr', ?_, i2, i3, i4⟩
      simp only [List.map_cons, Instr.fill, hpl]
      rw [if_neg (by rw [hsz]; simp; omega)]
      rw [← i1]
      congr 1
      rw [← Array.foldl_toList]
      simp
    · cases h4

/-- Where the parts of a type lie. -/
def placesOf (P : Program) (t : TypeId) : Option (Nat → Option (Nat × Nat)) :=
  match P.underlying t with
  | some (.array _ e) => match P.info? e with
    | some ie => some fun i => some (i * ie.size, ie.size)
    | none => none
  | some (.struct fields) => match fields.toList.mapM (fun f => (P.info? f.type).map fun i => (f.offset, i.size)) with
    | some places => some fun i => places.toArray[i]?
    | none => none
  | _ => none

theorem ok_bld {t : TypeId} {parts : Array (Nat × Operand)} {qs : List (Nat × Nat × SO)} {inf : TypeInfo} {z : Value} {zs cs : List AVal} {place : Nat → Option (Nat × Nat)} (hd : o.dst = some d) (hn : d < n) (ho : o.op = .build t parts)
    (hi : P.info? t = some inf) (hz : inf.zero = some z) (hzs : lits z.cells.toList = some zs) (hpl : placesOf P t = some place) (hp : ∀ a, Parts place a st parts.toList qs) (hf : fillA st.s zs qs = some cs) :
    OpOk P n o st f ⟨some d, .agg cs, [], [], []⟩ :=
  .val hd hn fun a w G hr => by
    obtain ⟨l1, l2, l3⟩ := lits_ok (w := w) (G := G) (h := st.h) hzs
    obtain ⟨arr', i1, i2, i3, i4⟩ := fill_ok hr (hp a) z.cells zs cs (by simpa using l1) (fun j v hj => l2 j v (by simpa using hj)) (fun j c v hc hv => l3 j c v hc (by simpa using hv)) hf
    have hb : P.built t (parts.map fun (i, x) => (i, a.eval x)).toList = some arr' := by
      unfold Program.built
      unfold placesOf at hpl
      have e : (parts.map fun (i, x) => (i, a.eval x)).toList = parts.toList.map fun p => (p.1, a.eval p.2) := by simp
      rw [e, hi]
      split at hpl
      · rename_i k e' hu
        split at hpl
        · rename_i ie hie
          injection hpl with hpl
          subst hpl
          simp only [hu, hz, hie]
          exact i1
        · cases hpl
      · rename_i fields hu
        split at hpl
        · rename_i places hps
          injection hpl with hpl
          subst hpl
          simp only [hu, hz, hps]
          exact i1
        · cases hpl
      · cases hpl
    exact ⟨.agg arr', by simp [execOp, ho, run_build w t _ arr' hb], .agg _ _ i2 i3 i4⟩

theorem mem_flat_idx {k i : Nat} (hk : 0 < k) : i = i / k * k + i % k := by
  rw [Nat.mul_comm]
  exact (Nat.div_add_mod i k).symm

/-- A slice literal: the elements as cells. -/
theorem fillE_ok {k : Nat} (hk : 0 < k) {a : Go.Act} {w : World} {G : Gh} (hr : Rel n st a w G) : ∀ {ps : List (Nat × Operand)} {qs : List (Nat × SO)}, ps.length = qs.length →
    (∀ (j : Nat) p q, ps[j]? = some p → qs[j]? = some q → p.1 = q.1 ∧ co p.2 = some q.2) →
    ∀ (arr : Array Value) (es es' : List (List AVal)), arr.size = es.length * k → (∀ e ∈ es, e.length = k) → (∀ (j : Nat) v, arr[j]? = some v → v.oneCell' = true) →
    (∀ (i : Nat) e (j : Nat) c v, es[i]? = some e → e[j]? = some c → arr[i * k + j]? = some v → VR w G st.h c v) → fillE st.s k es qs = some es' →
    ∃ arr', Instr.fill (fun i => some (i * k, k)) arr (ps.map fun p => (p.1, a.eval p.2)) = some arr' ∧ arr'.size = es'.length * k ∧ es'.length = es.length ∧ (∀ e ∈ es', e.length = k) ∧ (∀ (j : Nat) v, arr'[j]? = some v → v.oneCell' = true) ∧
      ∀ (i : Nat) e (j : Nat) c v, es'[i]? = some e → e[j]? = some c → arr'[i * k + j]? = some v → VR w G st.h c v := by
  intro ps
  induction ps with
  | nil =>
    intro qs hl _ arr es es' h1 h2 h3 h4 h5
    cases qs with
    | nil =>
      simp [fillE] at h5
      subst h5
      exact ⟨arr, rfl, h1, rfl, h2, h3, h4⟩
    | cons q qs => simp at hl
  | cons p ps ih =>
    intro qs hl hpq arr es es' h1 h2 h3 h4 h5
    cases qs with
    | nil => simp at hl
    | cons q qs =>
      obtain ⟨i, x⟩ := p
      obtain ⟨i', x'⟩ := q
      obtain ⟨e1, e2⟩ := hpq 0 (i, x) (i', x') rfl rfl
      simp at e1 e2
      subst e1
      simp only [fillE] at h5
      split at h5
      · rename_i hc
        obtain ⟨hf, hlen, hi⟩ := hc
        have hv := co_ok hr e2
        obtain ⟨c1, c2, c3⟩ := hv.cells hf
        obtain ⟨g1, g2⟩ := Great.foldl_set (i * k) (a.eval x).cells.toList 0 arr
        have hsz : (a.eval x).cells.size = k := by rw [← c1]; exact hlen
        have hik : i * k + k ≤ arr.size := by
          rw [h1]
          have : (i + 1) * k ≤ es.length * k := Nat.mul_le_mul_right _ hi
          rw [Nat.add_mul] at this
          omega
        obtain ⟨arr', r1, r2, r3, r4, r5, r6⟩ := ih (qs := qs) (by simpa using hl) (fun j p q hp hq => hpq (j + 1) p q (by simpa using hp) (by simpa using hq))
          (((a.eval x).cells.toList.zipIdx 0).foldl (fun cs (x : Value × Nat) => cs.setIfInBounds (i * k + x.2) x.1) arr) (es.set i (cellsOf (ev st.s x'))) es'
          (by rw [g1, h1]; simp) (fun e he => by
            rcases List.mem_or_eq_of_mem_set he with h | h
            · exact h2 e h
            · rw [h]; exact hlen)
          (fun j v hj => by
            rw [g2] at hj
            split at hj
            · exact c2 _ _ (by simpa using hj)
            · exact h3 _ _ hj)
          (fun i' e j c v he hc hj => by
            rw [g2] at hj
            simp only [Nat.add_zero, Array.length_toList, hsz] at hj
            by_cases hii : i' = i
            · subst hii
              rw [List.getElem?_set_self hi] at he
              injection he with he
              subst he
              have hjk : j < k := by have := (List.getElem?_eq_some_iff.1 hc).1; omega
              rw [if_pos (by omega), show i' * k + j - i' * k = j by omega] at hj
              exact c3 _ _ _ hc (by simpa using hj)
            · rw [List.getElem?_set_ne (Ne.symm hii)] at he
              have hjk : j < k := by
                have h5 := (List.getElem?_eq_some_iff.1 hc).1
                have h6 := h2 e (List.mem_of_getElem? he)
                omega
              have h7 := cell_place (i := i) (i' := i') (k := k) (j := j) (p := 0) (m := k) hjk (by omega) hii
              rw [if_neg (by omega)] at hj
              exact h4 i' e j c v he hc hj) h5
        refine ⟨arr', ?_, r2, by rw [r3]; simp, r4, r5, r6⟩
        simp only [List.map_cons, Instr.fill]
        rw [if_neg (by rw [hsz]; simp; omega)]
        rw [← r1]
        congr 1
        rw [← Array.foldl_toList]
        simp
      · cases h5

theorem zeros_get (z : Array Value) (k N : Nat) (hz : z.size = k) (hk : 0 < k) (m : Nat) (hm : m < N * k) : ((Array.range (N * k)).map (z[· % z.size]!))[m]? = z[m % k]? := by
  have h1 : m % k < z.size := by rw [hz]; exact Nat.mod_lt _ hk
  rw [Array.getElem?_map, Array.getElem?_range, if_pos hm]
  simp only [Option.map_some]
  rw [hz, Array.getElem?_eq_getElem h1, getElem!_pos z (m % k) h1]

theorem ok_bsl {t e : TypeId} {len : Nat} {parts : Array (Nat × Operand)} {qs : List (Nat × SO)} {inf : TypeInfo} {z : Value} {zs : List AVal} {es : List (List AVal)} (hd : o.dst = some d) (hn : d < n) (hfree : st.h f = .free) (ho : o.op = .buildSlice t len parts)
    (hu : P.underlying t = some (.slice e)) (hi : P.info? e = some inf) (hz : inf.zero = some z) (hzs : lits z.cells.toList = some zs) (hzl : zs.length = inf.size) (hk : 0 < inf.size) (hsmall : len * inf.size ≤ 2 ^ 24)
    (hpl : parts.size = qs.length) (hp : ∀ (j : Nat) p q, parts[j]? = some p → qs[j]? = some q → p.1 = q.1 ∧ co p.2 = some q.2) (hf : fillE st.s inf.size (List.replicate len zs) qs = some es) :
    OpOk P n o st f ⟨some d, .row f 0 0 len, [], [], [.cells 0 inf.size e true es]⟩ := by
  intro a w G hr
  obtain ⟨l1, l2, l3⟩ := lits_ok (w := w) (G := G) (h := st.h) hzs
  have hzsz : z.cells.size = inf.size := by rw [← hzl, l1]; simp
  have hz0 : ∀ m, m < len * inf.size → ((Array.range (len * inf.size)).map (z.cells[· % z.cells.size]!))[m]? = z.cells[m % inf.size]? := fun m hm => zeros_get z.cells inf.size len hzsz hk m hm
  obtain ⟨arr', r1, r2, r3, r4, r5, r6⟩ := fillE_ok hk hr (ps := parts.toList) (qs := qs) (by simpa using hpl) (fun j p q hp' hq => hp j p q (by simpa using hp') hq)
    ((Array.range (len * inf.size)).map (z.cells[· % z.cells.size]!)) (List.replicate len zs) es (by simp) (fun e he => by rw [List.eq_of_mem_replicate he]; exact hzl)
    (fun j v hj => by
      have hlt : j < len * inf.size := by have := (Array.getElem?_eq_some_iff.1 hj).1; simpa using this
      rw [hz0 j hlt] at hj
      exact l2 _ _ (by simpa using hj))
    (fun i e j c v he hc hv => by
      rw [List.getElem?_replicate] at he
      split at he
      · rename_i hil
        injection he with he
        subst he
        have hj : j < inf.size := by have := (List.getElem?_eq_some_iff.1 hc).1; omega
        have h9 : (i + 1) * inf.size ≤ len * inf.size := Nat.mul_le_mul_right _ hil
        rw [Nat.add_mul] at h9
        rw [hz0 _ (by omega), Nat.mul_comm i, Nat.mul_add_mod, Nat.mod_eq_of_lt hj] at hv
        exact l3 _ _ _ hc (by simpa using hv)
      · cases he) hf
  have hes : es.length = len := by rw [r3]; simp
  have hsm : len ≤ 2 ^ 24 := Nat.le_trans (Nat.le_mul_of_pos_right _ hk) hsmall
  obtain ⟨q1, q2, q3⟩ := hr.heap.alloc hr.heap.ownLt hfree inf.size len e true es arr' hk r4 (by rw [r2, hes]) (by omega) (fun _ => hes) (by simp only [maxLen]; omega) r5 r6
  have hrun : (Instr.buildSlice t len (parts.map fun (i, x) => (i, a.eval x))).run P w = .ok (.slice (some ⟨w.heap.size, 0, none⟩) len len) (w.alloc (.cells arr' e)) := by
    have r1' : Instr.fill (fun i => some (i * inf.size, inf.size)) ((Array.range (len * inf.size)).map (z.cells[· % z.cells.size]!)) (parts.map fun (i, x) => (i, a.eval x)).toList = some arr' := by
      rw [← r1]; congr 1; simp
    by_cases h0 : len * inf.size = 0
    · have hl0 : len = 0 := by
        rcases Nat.mul_eq_zero.1 h0 with h | h
        · exact h
        · omega
      subst hl0
      have r0 : Array.range 0 = #[] := rfl
      have r1'' := r1'
      simp only [Nat.zero_mul, r0, Array.map_empty] at r1''
      simp only [Instr.buildSlice, Sem.run_bind, run_underlying hu, Result.andThen_ok, sizeOf, typeInfo, run_program, hi, Sem.run_pure, Nat.zero_mul, r0, Array.map_empty, r1'', newRow, Sem.run_map, run_newObj]
      simp [r1'']
    · exact run_buildSlice w t e len _ arr' inf z hu hi hz (by omega) h0 r1'
  refine ⟨.slice (some ⟨w.heap.size, 0, none⟩) len len, w.alloc (.cells arr' e), ⟨G.I, upd G.M f (some (w.heap.size, len))⟩, .inl (by simp [execOp, ho, hrun]), ?_, ?_⟩
  · rw [hd]
    simp only [Eff.app, Eff.slots, Eff.heap_nw]
    exact (hr.ext q3.I (q3.keepI hr.heap) q2 q1).put hn (c := .row f 0 0 len) (v := .slice (some ⟨w.heap.size, 0, none⟩) len len)
      (.row _ _ _ _ _ _ (by show upd st.h f _ f ≠ _; rw [upd_same]; simp) fun st' k t' fu es' h => by
        have h' : upd st.h f (.cells 0 inf.size e true es) f = .cells st' k t' fu es' := h
        rw [upd_same] at h'
        injection h' with e1 e2 e3 e4 e5
        subst e1 e5
        exact ⟨Nat.le_refl _, fun _ => ⟨by omega, .inr ⟨w.heap.size, len, upd_same _ _ _, .inr (by simp), by omega⟩⟩⟩)
  · rw [Eff.heap_nw]
    exact q3

end

/-- Elements lie at an address. -/
def Lies (w : World) (G : Gh) (h : Nat → AObj) (k : Nat) (ys : List (List AVal)) (a : Option Addr) : Prop :=
  ys = [] ∨ ∃ (b p : Nat) (g : Nat → Nat → Value), a = some ⟨b, p, none⟩ ∧
    ∀ (i : Nat) e (j : Nat) c, ys[i]? = some e → e[j]? = some c → w.cell? ⟨b, p + (i * k + j), none⟩ = some (g i j) ∧ VR w G h c (g i j) ∧ (g i j).oneCell' = true

section
variable {P : Program} {n : Nat} {o : Oper} {st : St} {f d : Nat}

theorem conts_ok {a : Go.Act} {w : World} {G : Gh} (hr : Rel n st a w G) {k : Nat} {x : AVal} {v : Value} {ys : List (List AVal)} {rd : List Nat} (hv : VR w G st.h x v) (hc : conts st.h k x = some (ys, rd)) :
    ∃ ad cap, v = .slice ad ys.length cap ∧ (∀ e ∈ ys, e.length = k) ∧ Lies w G st.h k ys ad := by
  unfold conts at hc
  split at hc
  · injection hc with hc; injection hc with h1 h2; subst h1
    exact ⟨none, 0, hv.nil_inv, by simp, .inl rfl⟩
  · injection hc with hc; injection hc with h1 h2; subst h1
    obtain ⟨ad, e⟩ := hv.emp_inv
    exact ⟨ad, 0, e, by simp, .inl rfl⟩
  · split at hc
    · rename_i k' xs hk
      subst hk
      injection hc with hc; injection hc with h1 h2; subst h1
      obtain ⟨ad, cap, e, _, hsl⟩ := hv.sl_inv
      rcases hsl with rfl | ⟨b, p, g, rfl, hI, hlen, hcell, hrr⟩
      · exact ⟨ad, cap, e, by simp, .inl rfl⟩
      · exact ⟨_, cap, e, hlen, .inr ⟨b, p, g, rfl, fun i e j c h1 h2 => ⟨hcell i e j c h1 h2, .cl _ _ (hrr i e j c h1 h2), (hrr i e j c h1 h2).one⟩⟩⟩
    · cases hc
  · rename_i id q off len
    unfold obj at hc
    split at hc
    · rename_i hob
      split at hob
      · rename_i st' k' t fu es hh
        split at hob
        · rename_i hq
          subst hq
          injection hob with hob; injection hob with e1 e2; injection e2 with e2 e3; injection e3 with e3 e4
          subst e1 e2 e3 e4
          split at hc
          · rename_i hk
            subst hk
            injection hc with hc; injection hc with h1 h2; subst h1
            obtain ⟨ad, cap, e, hfr, hro⟩ := hv.row_inv
            obtain ⟨hle, hm⟩ := (hro _ _ _ _ _ hh).2 rfl
            have hlen : ((es.drop off).take len).length = len := by simp; omega
            have hok := hr.heap.obj id
            rw [hh] at hok
            obtain ⟨hk, hel, hok⟩ := hok
            refine ⟨ad, cap, by rw [hlen]; exact e, fun e he => hel e (List.mem_of_mem_drop (List.mem_of_mem_take he)), ?_⟩
            rcases hm with ⟨_, h0, _⟩ | ⟨b, C, hM, hcap, hC⟩
            · exact .inl (by rw [h0]; simp)
            · by_cases hl0 : len = 0
              · exact .inl (by rw [hl0]; simp)
              · have hcap' : ad = some ⟨b, off * k', none⟩ := by
                  rcases hcap with hcap | hcap
                  · rcases hok with ⟨_, hok⟩ | ⟨b', C', cs, hM', _, _, _, hle', _⟩
                    · subst hok; simp at hle; omega
                    · rw [hM] at hM'; cases hM'; omega
                  · exact hcap
                refine .inr ⟨b, off * k', fun i j => (w.cell? ⟨b, off * k' + (i * k' + j), none⟩).getD undef, hcap', fun i e j c h1 h2 => ?_⟩
                rw [List.getElem?_take] at h1
                split at h1
                · rw [List.getElem?_drop] at h1
                  obtain ⟨u, u1, u2, u3⟩ := hr.elem hh hM (p := 0) h1 j c (by simpa using h2)
                  have e9 : (off + i) * k' + 0 + j = off * k' + (i * k' + j) := by rw [Nat.add_mul]; omega
                  rw [e9] at u1
                  simp only [u1, Option.getD_some]
                  exact ⟨trivial, u2, u3⟩
                · cases h1
          · cases hc
        · cases hob
      · cases hob
    · cases hc
  · cases hc

theorem Lies.list {w : World} {G : Gh} {h : Nat → AObj} {k : Nat} {ys : List (List AVal)} {a : Option Addr} (hk : 0 < k) (hl : ∀ e ∈ ys, e.length = k) (L : Lies w G h k ys a) :
    ∃ us : List Value, us.length = ys.length * k ∧ (∀ (j : Nat) u, us[j]? = some u → ∃ ad, a = some ad ∧ w.cell? (ad.add j) = some u) ∧ (∀ u ∈ us, u.oneCell' = true) ∧
      ∀ (i : Nat) e (j : Nat) c u, ys[i]? = some e → e[j]? = some c → us[i * k + j]? = some u → VR w G h c u := by
  rcases L with rfl | ⟨b, p, g, rfl, hg⟩
  · exact ⟨[], by simp, by simp, by simp, by simp⟩
  · have cell : ∀ m, m < ys.length * k → ∃ e c, ys[m / k]? = some e ∧ e[m % k]? = some c := by
      intro m hm
      have h1 : m / k < ys.length := Nat.div_lt_of_lt_mul (by rw [Nat.mul_comm]; exact hm)
      have h2 : (ys[m / k]'h1).length = k := hl _ (List.getElem_mem _)
      exact ⟨ys[m / k]'h1, (ys[m / k]'h1)[m % k]'(by rw [h2]; exact Nat.mod_lt _ hk), List.getElem?_eq_getElem _, List.getElem?_eq_getElem _⟩
    refine ⟨(List.range (ys.length * k)).map fun m => g (m / k) (m % k), by simp, fun j u hu => ?_, fun u hu => ?_, fun i e j c u he hc hu => ?_⟩
    · have hj : j < ys.length * k := by have := (List.getElem?_eq_some_iff.1 hu).1; simpa using this
      obtain ⟨e, c, he, hc⟩ := cell j hj
      have h1 := (hg _ _ _ _ he hc).1
      rw [← mem_flat_idx hk] at h1
      refine ⟨_, rfl, ?_⟩
      rw [addr_add, h1]
      simp [hj] at hu
      rw [hu]
    · obtain ⟨m, hm, rfl⟩ := List.mem_map.1 hu
      obtain ⟨e, c, he, hc⟩ := cell m (by simpa using hm)
      exact (hg _ _ _ _ he hc).2.2
    · have hjk : j < k := by
        have h5 := (List.getElem?_eq_some_iff.1 hc).1
        have h6 := hl e (List.mem_of_getElem? he)
        omega
      have hi : i < ys.length := (List.getElem?_eq_some_iff.1 he).1
      have hlt : i * k + j < ys.length * k := by
        have : (i + 1) * k ≤ ys.length * k := Nat.mul_le_mul_right _ hi
        rw [Nat.add_mul] at this
        omega
      have e1 : (i * k + j) / k = i := by rw [Nat.mul_comm, Nat.mul_add_div hk, Nat.div_eq_of_lt hjk]; simp
      have e2 : (i * k + j) % k = j := by rw [Nat.mul_comm, Nat.mul_add_mod, Nat.mod_eq_of_lt hjk]
      have := (hg _ _ _ _ he hc).2.1
      simp [hlt, e1, e2] at hu
      rw [← hu]
      exact this

/-- A new stamp: elder headers of the object are no longer looked at. -/
theorem HR.restamp {w : World} {G : Gh} {h : Nat → AObj} (hr : HR w G h) {id st st' k : Nat} {t : TypeId} {fu : Bool} {es : List (List AVal)}
    (hid : h id = .cells st k t fu es) (hst : st < st') :
    let h' := upd h id (.cells st' k t false es)
    HR w G h' ∧ Ext G.M h G.M h' ∧ Tr w G h w G h' := by
  intro h'
  have hother : ∀ i, i ≠ id → h' i = h i := fun i e => upd_ne _ _ e
  have hE : Ext G.M h G.M h' := by
    refine ⟨fun i hi => ?_, fun i st0 k' t' fu0 es0 hi h'' => ?_, fun i es0 hi h'' => ?_⟩
    · by_cases e : i = id
      · subst e; have : h' i = _ := upd_same _ _ _; rw [this]; simp
      · rw [hother i e]; exact hi
    · by_cases e : i = id
      · subst e
        have h3 : h' i = .cells st' k t false es := upd_same _ _ _
        rw [h3] at h''
        injection h'' with e1 e2 e3 e4 e5
        subst e1 e2 e3 e4 e5
        exact ⟨_, _, _, _, _, hid, by omega, fun e => by omega⟩
      · rw [hother i e] at h''
        exact ⟨_, _, _, _, _, h'', Nat.le_refl _, fun _ => ⟨rfl, Nat.le_refl _, rfl⟩⟩
    · by_cases e : i = id
      · subst e
        have h3 : h' i = .cells st' k t false es := upd_same _ _ _
        rw [h3] at h''; cases h''
      · rw [hother i e] at h''
        exact ⟨_, h'', rfl⟩
  have hlive : ∀ i, (h' i).live = (h i).live := fun i => by
    by_cases e : i = id
    · subst e; have : h' i = _ := upd_same _ _ _; rw [this, hid]; rfl
    · rw [hother i e]
  refine ⟨⟨fun i => ?_, fun i i' c C1 C2 l1 l2 m1 m2 => ?_, hr.lt⟩, hE, ⟨Nat.le_refl _, fun _ _ _ => rfl, rfl, rfl, rfl, fun _ h => h, fun c hc => .inl hc, fun c hc => ?_, hE⟩⟩
  · by_cases e : i = id
    · subst e
      have : h' i = .cells st' k t false es := upd_same _ _ _
      rw [this]
      have := hr.obj i
      rw [hid] at this
      obtain ⟨h1, h2, h3⟩ := this
      refine ⟨h1, h2, h3.imp (fun x => x) fun ⟨b, C, cs, a1, a2, a3, a4, a5, a6, a7, a8, a9⟩ => ⟨b, C, cs, a1, a2, a3, a4, a5, by simp, a7, a8, fun i e j c v b1 b2 b3 => (a9 i e j c v b1 b2 b3).mono (fun _ h => h) (fun _ _ => rfl) hE⟩⟩
    · rw [hother i e]
      exact (hr.obj i).mono (fun _ => rfl) (fun _ h => h) (fun _ _ => rfl) (fun c C1 l m => ⟨fun hb => hr.notI ⟨i, C1, l, m⟩ hb, rfl⟩) hE
  · rw [hlive] at l1 l2
    exact hr.inj _ _ _ _ _ l1 l2 m1 m2
  · obtain ⟨i, C1, l, m⟩ := hc
    rw [hlive] at l
    exact .inl ⟨i, C1, l, m⟩

theorem run_append_zero {w : World} {t ty e : TypeId} {inf : TypeInfo} (ht : P.underlying t = some (.slice e)) (hi : P.info? e = some inf) (b : Option Addr) (n cap : Nat) (hn : n ≤ cap) (a : Option Addr) (c : Nat) :
    (Builtin.append_ #[t, t] ty #[.slice b n cap, .slice a 0 c]).run P w = .ok (.slice b n cap) w := by
  cases a <;> cases b <;> simp [Builtin.append_, run_underlying ht, sizeOf, typeInfo, hi, Builtin.lenOf, hn, Builtin.firstCells, loadCells, loadCellsFrom, storeCells]

/-- What append does: in place, or into a new block. -/
theorem run_append_two {w : World} {t ty e : TypeId} {inf : TypeInfo} {z : Value} (ht : P.underlying t = some (.slice e)) (hi : P.info? e = some inf) (hz : inf.zero = some z) (b : Option Addr) (n cap : Nat)
    (olds : List Value) (hlo : olds.length = n * inf.size) (holds : ∀ (j : Nat) v, olds[j]? = some v → ∃ ad, b = some ad ∧ w.cell? (ad.add j) = some v)
    (hb : b = none → n = 0 ∧ cap = 0) (a : Addr) (m c : Nat) (news : List Value) (hl : news.length = m * inf.size) (hnews : ∀ (j : Nat) v, news[j]? = some v → w.cell? (a.add j) = some v)
    (hm : 0 < m) (h63 : n + m ≤ maxLen) (hbytes : (n + m) * inf.bytes ≤ 140737488355328) (hg : cap < n + m) :
    ∃ cap', n + m ≤ cap' ∧ cap' ≤ maxLen ∧ (Builtin.append_ #[t, t] ty #[.slice b n cap, .slice (some a) m c]).run P w =
      .ok (.slice (some ⟨w.heap.size, 0, none⟩) (n + m) cap') (w.drew.alloc (.cells (olds.toArray ++ news.toArray ++ Builtin.zeroCells z.cells (cap' - (n + m))) e)) := by
  have hsmall : n + m ≤ 9223372036854775807 := by simp only [maxLen] at h63; omega
  refine ⟨grownCap w (n + m) cap e, grownCap_ge _ _ _ _, grownCap_le_maxLen _ _ _ _ h63, ?_⟩
  cases b with
  | none =>
    obtain ⟨rfl, rfl⟩ := hb rfl
    have ho : olds = [] := List.eq_nil_of_length_eq_zero (by simpa using hlo)
    subst ho
    have hr := run_append_nil (P := P) w t ty e inf z ht hi hz a m c news hl hnews hm (by omega) (by simp only [Nat.zero_add] at hbytes; omega)
    simpa using hr
  | some b =>
    exact run_append_grow (P := P) w t ty e inf z ht hi hz b n cap olds hlo (fun j v hv => by
      obtain ⟨ad, e, h⟩ := holds j v hv
      injection e with e
      exact e ▸ h) a m c news hl hnews hg (by omega) (growslice_fits hg hbytes)

end
end Go.Av
