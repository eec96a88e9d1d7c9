/- The seat: part Ch6. -/
import Derived.Test.YtmhchaedhmnofaaGreatCh5
import Derived.Test.YtmhchaedhmnofaaGreatProg
import Derived.KernelRfl
import Derived.Test.YtmhchaedhmnofaaGreatRows
import Derived.WalkKit
import Derived.ProofKit
import Derived.OpenShut
import Derived.ReadAgain
set_option linter.unusedVariables false
set_option linter.unusedSimpArgs false
/- Plain laws, part 1: the values of the layers 13, 16, 17 and 18, and what makes them right. -/
namespace Go.Av.Sp

structure TCell where
  slot : Int
  off : Int
  kind : Int
  send : Bool
  peer : Int
  flow : Int
  deriving DecidableEq
structure Table where
  node : Int
  len : Int
  cells : List TCell
  deriving DecidableEq
structure Packet where
  id : Int
  to : Int
  pri : Int
  born : Int
  life : Int
  data : ByteArray
  deriving DecidableEq
structure Queue where
  limit : Int
  pk : List Packet
  deriving DecidableEq
structure Held where
  flow : Int
  frame : Int
  upto : Int
  data : ByteArray
  acked : List Int
  deriving DecidableEq
structure Seen where
  node : Int
  seq : Int
  deriving DecidableEq
structure Station where
  tab : Table
  q : Queue
  held : List Held
  seen : List Seen
  list : Int
  seq : Int
  trying : Int
  tries : Int
  back : Int
  wait : Int
  seed : Int
  deriving DecidableEq
structure Frame where
  kind : Int
  src : Int
  tgt : Int
  list : Int
  seq : Int
  flow : Int
  num : Int
  err : Int
  slot : Int
  rank : Int
  epoch : Int
  data : ByteArray
  deriving DecidableEq
structure Action where
  kind : Int
  off : Int
  fr : Frame
  deriving DecidableEq
structure Result where
  acked : Bool
  heard : Bool
  fr : Frame
  err : Int
  deriving DecidableEq
structure Up where
  got : Bool
  new : Bool
  fr : Frame
  deriving DecidableEq

def TCell.zero : TCell := ⟨0, 0, 0, false, 0, 0⟩
def Table.zero : Table := ⟨0, 0, []⟩
def Packet.zero : Packet := ⟨0, 0, 0, 0, 0, ByteArray.empty⟩
def Queue.zero : Queue := ⟨0, []⟩
def Held.zero : Held := ⟨0, 0, 0, ByteArray.empty, []⟩
def Station.zero : Station := ⟨Table.zero, Queue.zero, [], [], 0, 0, 0, 0, 0, 0, 0⟩
def Frame.zero : Frame := ⟨0, 0, 0, 0, 0, 0, 0, 0, 0, 0, 0, ByteArray.empty⟩
def Action.zero : Action := ⟨0, 0, Frame.zero⟩
def Up.zero : Up := ⟨false, false, Frame.zero⟩

/-- The place of the first element of a kind, counted from a number on; -1 if there is none. -/
def idxFrom {α : Type} (p : α → Bool) : Nat → List α → Int
  | _, [] => -1
  | k, x :: xs => if p x = true then (k : Int) else idxFrom p (k + 1) xs

theorem idxFrom_range {α : Type} (p : α → Bool) : ∀ (xs : List α) (k : Nat), idxFrom p k xs = -1 ∧ (∀ x ∈ xs, p x = false) ∨ ∃ (i : Nat) (x : α), xs[i]? = some x ∧ p x = true ∧ idxFrom p k xs = ((k + i : Nat) : Int) ∧ ∀ j y, j < i → xs[j]? = some y → p y = false
  | [], k => .inl ⟨rfl, by simp⟩
  | x :: xs, k => by
    by_cases h : p x = true
    · exact .inr ⟨0, x, rfl, h, by simp [idxFrom, h], by simp⟩
    · have h' : p x = false := by simpa using h
      rcases idxFrom_range p xs (k + 1) with ⟨h1, h2⟩ | ⟨i, y, h1, h2, h3, h4⟩
      · refine .inl ⟨by simp [idxFrom, h', h1], fun y hy => ?_⟩
        rcases List.mem_cons.1 hy with e | e
        · subst e; exact h'
        · exact h2 y e
      · refine .inr ⟨i + 1, y, by simpa using h1, h2, by simp [idxFrom, h', h3]; omega, fun j z hj hz => ?_⟩
        cases j with
        | zero => simp at hz; subst hz; exact h'
        | succ j => exact h4 j z (by omega) (by simpa using hz)

theorem idxFrom_any {α : Type} (p : α → Bool) (xs : List α) (k : Nat) : decide (0 ≤ idxFrom p k xs) = xs.any p := by
  rcases idxFrom_range p xs k with ⟨h1, h2⟩ | ⟨i, x, h1, h2, h3, _⟩
  · rw [h1]
    have : xs.any p = false := by rw [List.any_eq_false]; intro x hx; simp [h2 x hx]
    rw [this]; rfl
  · rw [h3]
    have : xs.any p = true := List.any_eq_true.2 ⟨x, List.mem_of_getElem? h1, h2⟩
    rw [this]
    simp
    omega

theorem idxFrom_find {α : Type} (p : α → Bool) (xs : List α) : (idxFrom p 0 xs = -1 ∧ xs.find? p = none) ∨ ∃ (i : Nat) (x : α), xs[i]? = some x ∧ p x = true ∧ idxFrom p 0 xs = (i : Int) ∧ xs.find? p = some x ∧ i < xs.length := by
  rcases idxFrom_range p xs 0 with ⟨h1, h2⟩ | ⟨i, x, h1, h2, h3, h4⟩
  · exact .inl ⟨h1, List.find?_eq_none.2 fun x hx => by simp [h2 x hx]⟩
  · refine .inr ⟨i, x, h1, h2, by simpa using h3, ?_, (List.getElem?_eq_some_iff.1 h1).1⟩
    rw [List.find?_eq_some_iff_append]
    have hlt := (List.getElem?_eq_some_iff.1 h1).1
    refine ⟨h2, xs.take i, xs.drop (i + 1), ?_, fun y hy => ?_⟩
    · have e : xs[i] = x := (List.getElem?_eq_some_iff.1 h1).2
      rw [← e, ← List.drop_eq_getElem_cons hlt, List.take_append_drop]
    · obtain ⟨j, hj⟩ := List.mem_iff_getElem?.1 hy
      rw [List.getElem?_take] at hj
      split at hj
      · rename_i hji
        simp [h4 j y hji hj]
      · cases hj

/-- A chain: each element is right, and stands right behind the one before. -/
def chain {α : Type} (ok : α → Bool) (lt : α → α → Bool) : Option α → List α → Bool
  | _, [] => true
  | p, x :: xs => ok x && (match p with | some p => lt p x | none => true) && chain ok lt (some x) xs

/-- The first error of a chain. -/
def chainE {α : Type} (err : α → Int) (lt : α → α → Bool) (e : Int) : Option α → List α → Int
  | _, [] => 0
  | p, x :: xs => if err x ≠ 0 then err x else if (match p with | some p => !lt p x | none => false) = true then e else chainE err lt e (some x) xs

def wi (n m : Int) : Bool := decide (0 ≤ n) && decide (n ≤ m)
def wi3 (n l h : Int) : Bool := decide (l ≤ n) && decide (n ≤ h)

/-! ### Layer 16 -/
def cellErr (node len : Int) (c : TCell) : Int :=
  if (decide (c.kind < 1) || decide (3 < c.kind)) = true then 1
  else if (!decide (c.kind = 1) && !decide (c.flow = -1) || decide (c.kind = 3) && (!decide (c.peer = -1) || c.send)) = true then 1
  else if (decide (c.slot < 0) || decide (len ≤ c.slot) || decide (c.off < 0) || decide (16 ≤ c.off)) = true then 2
  else if (!decide (c.kind = 3) && (decide (c.peer < 0) || decide (32 ≤ c.peer) || decide (c.peer = node)) || decide (c.kind = 1) && decide (c.flow < 0)) = true then 2
  else 0
def cellLess (a c : TCell) : Bool := decide (a.slot < c.slot) || decide (a.slot = c.slot) && decide (a.kind < c.kind)
def tabErr (t : Table) : Int :=
  if (decide (t.node < 0) || decide (32 ≤ t.node) || decide (t.len < 1) || decide (512 < t.len)) = true then 2
  else if 512 < (t.cells.length : Int) then 8
  else chainE (cellErr t.node t.len) cellLess 5 none t.cells
/-- The cell in force. -/
def tabAt (t : Table) (slot : Int) : Option TCell :=
  if tabErr t ≠ 0 ∨ slot < 0 then none else t.cells.find? fun c => decide (c.slot = slot.tmod t.len)
def fewCells (n : Int) : Bool := decide (n ≤ 40) || decide (512 < n) && decide (n ≤ 516)
def tabFew (t : Table) : Bool := fewCells t.cells.length && (decide (t.len ≤ 64) || decide (512 < t.len))

/-! ### Layer 17 -/
def pkErr (p : Packet) : Int :=
  if (decide (p.id < 0) || !wi3 p.to (-1) 31 || !wi3 p.pri 0 3 || !wi3 p.born 0 1099511627776 || !wi3 p.life 1 4096) = true then 2
  else if 127 < (p.data.size : Int) then 8
  else 0
def qck : List Packet → List Packet → Int
  | _, [] => 0
  | done, p :: ps => if pkErr p ≠ 0 then pkErr p else if (done.any fun x => decide (x.id = p.id)) = true then 6
    else if (match done.getLast? with | some x => decide (p.pri < x.pri) | none => false) = true then 5 else qck (done ++ [p]) ps
def qErr (q : Queue) : Int :=
  if (!wi3 q.limit 1 64) = true then 2 else if q.limit < (q.pk.length : Int) then 8 else qck [] q.pk
def pkIdx (l : List Packet) (id : Int) : Int := idxFrom (fun p => decide (p.id = id)) 0 l
def qFirst (q : Queue) (to : Int) : Option Packet := if qErr q ≠ 0 then none else q.pk.find? fun p => decide (p.to = to)
def qWithout (l : List Packet) (id : Int) : List Packet := l.filter fun p => !decide (p.id = id)
def stale (p : Packet) (slot : Int) : Bool := decide (0 ≤ slot) && decide (p.life ≤ slot - p.born)
def qFew (q : Queue) : Bool := decide ((q.pk.length : Int) ≤ 70) && q.pk.all fun p => decide ((p.data.size : Int) ≤ 200)

/-! ### Layer 13 -/
def isTgt (f : Frame) : Bool := wi f.tgt 31 && !decide (f.tgt = f.src)
def frErr (f : Frame) : Int :=
  if (wi f.src 31 && wi f.list 255 && wi f.seq 255 &&
    (if f.kind = 1 then isTgt f && wi f.flow 255 && wi f.num 65535 && decide (f.err = 0) && decide (f.slot = 0) && decide (f.rank = 0) && decide (f.epoch = 0)
    else if f.kind = 2 then isTgt f && decide (f.flow = 0) && decide (f.num = 0) && wi3 f.err (-32768) 32767 && decide (f.slot = 0) && decide (f.rank = 0) && decide (f.epoch = 0) && decide (f.data = ByteArray.empty)
    else if f.kind = 3 then decide (f.tgt = -1) && decide (f.flow = 0) && decide (f.num = 0) && decide (f.err = 0) && wi f.slot 109951162 && wi f.rank 65535 && wi f.epoch 65535
    else if f.kind = 4 then (decide (f.tgt = -1) || isTgt f) && decide (f.flow = 0) && decide (f.num = 0) && decide (f.err = 0) && decide (f.slot = 0) && decide (f.rank = 0) && decide (f.epoch = 0)
    else false)) = true then 0 else 1
def frFor (f : Frame) (node : Int) : Bool := decide (frErr f = 0) && (wi node 31 && (decide (f.tgt = node) || decide (f.tgt = -1) && !decide (f.src = node)))

/-! ### Layer 18 -/
def rising (l : List Int) : Bool := chain (fun n => wi n 31) (fun a b => decide (a < b)) none l
def hRange (h : Held) : Bool := wi h.flow 255 && wi h.frame 65535 && wi h.upto 109951162 && rising h.acked
def hOk (h : Held) : Bool := hRange h && decide ((h.data.size : Int) ≤ 100)
def heldOk (l : List Held) : Bool := chain hOk (fun a b => decide (a.flow < b.flow)) none l && decide ((l.length : Int) ≤ 16)
def seenOk (l : List Seen) : Bool := chain (fun x => wi x.node 31 && wi x.seq 255) (fun a b => decide (a.node < b.node)) none l
def pksOk (s : Station) : Bool := decide (qErr s.q = 0) && s.q.pk.all fun p => !decide (p.to = s.tab.node) && decide ((p.data.size : Int) ≤ 100)
def hasId (l : List Packet) (id : Int) : Bool := l.any fun p => decide (p.id = id)
def tryOk (s : Station) : Bool := decide (s.trying = -1) && decide (s.tries = 0) || decide (0 ≤ s.trying) && hasId s.q.pk s.trying && decide (1 ≤ s.tries) && decide (s.tries < 4)
def stOk (s : Station) : Bool :=
  decide (tabErr s.tab = 0) && pksOk s && heldOk s.held && seenOk s.seen && tryOk s && wi s.list 255 && wi s.seq 255 && wi s.back 5 && wi s.wait (2 ^ s.back.toNat - 1) && wi s.seed 2147483647
def stErr (s : Station) : Int := if stOk s = true then 0 else 1
def heldFew (l : List Held) : Bool := decide ((l.length : Int) ≤ 20) && l.all fun h => decide ((h.data.size : Int) ≤ 200) && decide ((h.acked.length : Int) ≤ 40)
def stFew (s : Station) : Bool := tabFew s.tab && qFew s.q && heldFew s.held && decide ((s.seen.length : Int) ≤ 40)
end Go.Av.Sp
/- Plain laws, part 2: what a station does in a slot. -/
namespace Go.Av.Sp

def candidate (s : Station) : Option Packet :=
  s.q.pk.find? fun p => decide (p.to = -1) || !(s.tab.cells.any fun c => decide (c.kind = 2) && c.send && decide (c.peer = p.to))
def heldIdx (l : List Held) (flow : Int) : Int := idxFrom (fun h => decide (h.flow = flow)) 0 l
def heldOf (l : List Held) (flow : Int) : Option Held := l.find? fun h => decide (h.flow = flow)
def msgOf (s : Station) (p : Packet) : Frame := ⟨4, s.tab.node, p.to, s.list, s.seq, 0, 0, 0, 0, 0, 0, p.data⟩
def dataOf (s : Station) (h : Held) (peer : Int) : Frame := ⟨1, s.tab.node, peer, s.list, h.frame.tmod 256, h.flow, h.frame, 0, 0, 0, 0, h.data⟩

/-- What a station does: the action, the cell, and the packet that is sent, or waits. -/
structure Plan where
  act : Action
  cell : TCell
  pk : Option Packet

def plan (s : Station) (slot : Int) : Plan :=
  match tabAt s.tab slot with
  | none => ⟨Action.zero, TCell.zero, none⟩
  | some c =>
    if c.kind = 1 ∧ c.send = true then
      match heldOf s.held c.flow with
      | none => ⟨Action.zero, c, none⟩
      | some h => if h.upto < slot ∨ c.peer ∈ h.acked then ⟨Action.zero, c, none⟩ else ⟨⟨1, c.off, dataOf s h c.peer⟩, c, none⟩
    else if c.kind = 2 ∧ c.send = true then
      match qFirst s.q c.peer with
      | none => ⟨Action.zero, c, none⟩
      | some p => ⟨⟨1, c.off, msgOf s p⟩, c, some p⟩
    else if c.kind = 3 then
      match candidate s with
      | some p => if s.wait = 0 then ⟨⟨1, c.off, msgOf s p⟩, c, some p⟩ else ⟨⟨2, c.off, Frame.zero⟩, c, some p⟩
      | none => ⟨⟨2, c.off, Frame.zero⟩, c, none⟩
    else ⟨⟨2, c.off, Frame.zero⟩, c, none⟩

/-- The error of a station and a slot. -/
def slotErr (s : Station) (slot : Int) : Int := if stOk s = false then 1 else if (decide (slot < 0) || decide (109951162 < slot)) = true then 2 else 0

def leave (s : Station) (id : Int) : Station := { s with q := ⟨s.q.limit, qWithout s.q.pk id⟩, seq := (s.seq + 1).tmod 256, trying := -1, tries := 0 }
def nextSeed (n : Int) : Int := (1103515245 * n + 12345).tmod 2147483648
def sentPk (s : Station) (shared : Bool) (p : Packet) (acked : Bool) : Station :=
  if p.to = -1 then leave s p.id
  else
    let n := if s.trying = p.id then s.tries + 1 else 1
    if acked = true ∨ 4 ≤ n then
      let s' := leave s p.id
      if shared then { s' with back := 0, wait := 0 } else s'
    else
      let s' := { s with trying := p.id, tries := n }
      if shared then
        let b := min (s.back + 1) 5
        { s' with back := b, seed := nextSeed s.seed, wait := ((nextSeed s.seed).tdiv 65536).tmod (2 ^ b.toNat) }
      else s'
def insertInt (l : List Int) (n : Int) : List Int := l.takeWhile (fun x => decide (x < n)) ++ n :: l.dropWhile (fun x => decide (x < n))
def ackHeld (l : List Held) (flow peer : Int) : List Held := l.map fun h => if h.flow = flow then { h with acked := insertInt h.acked peer } else h
def see (l : List Seen) (x : Seen) : List Seen := l.takeWhile (fun y => decide (y.node < x.node)) ++ x :: (l.dropWhile (fun y => decide (y.node < x.node))).filter fun y => !decide (y.node = x.node)
def gotFr (s : Station) (f : Frame) : Station × Up :=
  if frFor f s.tab.node = false ∨ f.kind = 2 then (s, Up.zero)
  else if f.kind = 1 then (s, ⟨true, (match heldOf s.held f.flow with | some h => !decide (h.frame = f.num) | none => true), f⟩)
  else if f.kind = 4 ∧ f.tgt = s.tab.node then ({ s with seen := see s.seen ⟨f.src, f.seq⟩ }, ⟨true, !(s.seen.any fun y => decide (y = ⟨f.src, f.seq⟩)), f⟩)
  else (s, ⟨true, true, f⟩)
/-- The station behind a slot, and what it got. -/
def done (s : Station) (slot : Int) (r : Result) : Station × Up :=
  let x := plan s slot
  if x.act.kind = 1 then
    match x.pk with
    | some p => (sentPk s (decide (x.cell.kind = 3)) p r.acked, Up.zero)
    | none => (if r.acked = true then { s with held := ackHeld s.held x.cell.flow x.cell.peer } else s, Up.zero)
  else if x.act.kind = 2 then
    let s' := match x.pk with
      | some _ => { s with wait := s.wait - 1 }
      | none => s
    if r.heard = true then gotFr s' r.fr else (s', Up.zero)
  else (s, Up.zero)
def newSt (t : Table) (limit seed : Int) : Station × Int :=
  if tabErr t ≠ 0 then (Station.zero, 1)
  else if (decide (limit < 1) || decide (64 < limit) || !wi seed 2147483647) = true then (Station.zero, 2)
  else (⟨t, ⟨limit, []⟩, [], [], 0, 0, -1, 0, 0, 0, seed⟩, 0)
def actSt (s : Station) (slot : Int) : Action × Int := if slotErr s slot ≠ 0 then (Action.zero, slotErr s slot) else ((plan s slot).act, 0)
def holdIns (l : List Held) (h : Held) : List Held := l.takeWhile (fun y => decide (y.flow < h.flow)) ++ h :: (l.dropWhile (fun y => decide (y.flow < h.flow))).filter fun y => !decide (y.flow = h.flow)
def holdSt (s : Station) (h : Held) : Station × Int :=
  if stOk s = false then (Station.zero, 1)
  else if hRange h = false then (Station.zero, 2)
  else if 100 < (h.data.size : Int) then (Station.zero, 8)
  else if 16 < ((holdIns s.held h).length : Int) then (Station.zero, 8)
  else ({ s with held := holdIns s.held h }, 0)
def settle (s : Station) : Station := if hasId s.q.pk s.trying = true then s else { s with trying := -1, tries := 0 }
end Go.Av.Sp
/- The Lean types of Go's values, as cells. -/
namespace Go.Av.Sp
open Go Go.Av
def eI (n : Int) : List AVal := [.int .i64 n]
def eB (b : Bool) : List AVal := [.bool b]
def eS (s : ByteArray) : List AVal := [.str s]
def TCell.enc (x : TCell) : List AVal := [.int .i64 x.slot, .int .i64 x.off, .int .i64 x.kind, .bool x.send, .int .i64 x.peer, .int .i64 x.flow]
theorem TCell.eta (x : TCell) : TCell.mk x.slot x.off x.kind x.send x.peer x.flow = x := rfl
def Table.enc (x : Table) : List AVal := [.int .i64 x.node, .int .i64 x.len, .sl 6 (x.cells.map TCell.enc)]
theorem Table.eta (x : Table) : Table.mk x.node x.len x.cells = x := rfl
def Packet.enc (x : Packet) : List AVal := [.int .i64 x.id, .int .i64 x.to, .int .i64 x.pri, .int .i64 x.born, .int .i64 x.life, .str x.data]
theorem Packet.eta (x : Packet) : Packet.mk x.id x.to x.pri x.born x.life x.data = x := rfl
def Queue.enc (x : Queue) : List AVal := [.int .i64 x.limit, .sl 6 (x.pk.map Packet.enc)]
theorem Queue.eta (x : Queue) : Queue.mk x.limit x.pk = x := rfl
def Held.enc (x : Held) : List AVal := [.int .i64 x.flow, .int .i64 x.frame, .int .i64 x.upto, .str x.data, .sl 1 (x.acked.map eI)]
theorem Held.eta (x : Held) : Held.mk x.flow x.frame x.upto x.data x.acked = x := rfl
def Seen.enc (x : Seen) : List AVal := [.int .i64 x.node, .int .i64 x.seq]
theorem Seen.eta (x : Seen) : Seen.mk x.node x.seq = x := rfl
def Frame.enc (x : Frame) : List AVal := [.int .i64 x.kind, .int .i64 x.src, .int .i64 x.tgt, .int .i64 x.list, .int .i64 x.seq, .int .i64 x.flow, .int .i64 x.num, .int .i64 x.err, .int .i64 x.slot, .int .i64 x.rank, .int .i64 x.epoch, .str x.data]
theorem Frame.eta (x : Frame) : Frame.mk x.kind x.src x.tgt x.list x.seq x.flow x.num x.err x.slot x.rank x.epoch x.data = x := rfl
def Action.enc (x : Action) : List AVal := [.int .i64 x.kind, .int .i64 x.off, .int .i64 x.fr.kind, .int .i64 x.fr.src, .int .i64 x.fr.tgt, .int .i64 x.fr.list, .int .i64 x.fr.seq, .int .i64 x.fr.flow, .int .i64 x.fr.num, .int .i64 x.fr.err, .int .i64 x.fr.slot, .int .i64 x.fr.rank, .int .i64 x.fr.epoch, .str x.fr.data]
theorem Action.eta (x : Action) : Action.mk x.kind x.off x.fr = x := rfl
def Result.enc (x : Result) : List AVal := [.bool x.acked, .bool x.heard, .int .i64 x.fr.kind, .int .i64 x.fr.src, .int .i64 x.fr.tgt, .int .i64 x.fr.list, .int .i64 x.fr.seq, .int .i64 x.fr.flow, .int .i64 x.fr.num, .int .i64 x.fr.err, .int .i64 x.fr.slot, .int .i64 x.fr.rank, .int .i64 x.fr.epoch, .str x.fr.data, .int .i64 x.err]
theorem Result.eta (x : Result) : Result.mk x.acked x.heard x.fr x.err = x := rfl
def Up.enc (x : Up) : List AVal := [.bool x.got, .bool x.new, .int .i64 x.fr.kind, .int .i64 x.fr.src, .int .i64 x.fr.tgt, .int .i64 x.fr.list, .int .i64 x.fr.seq, .int .i64 x.fr.flow, .int .i64 x.fr.num, .int .i64 x.fr.err, .int .i64 x.fr.slot, .int .i64 x.fr.rank, .int .i64 x.fr.epoch, .str x.fr.data]
theorem Up.eta (x : Up) : Up.mk x.got x.new x.fr = x := rfl
def Station.enc (x : Station) : List AVal := [.int .i64 x.tab.node, .int .i64 x.tab.len, .sl 6 (x.tab.cells.map TCell.enc), .int .i64 x.q.limit, .sl 6 (x.q.pk.map Packet.enc), .sl 5 (x.held.map Held.enc), .sl 2 (x.seen.map Seen.enc), .int .i64 x.list, .int .i64 x.seq, .int .i64 x.trying, .int .i64 x.tries, .int .i64 x.back, .int .i64 x.wait, .int .i64 x.seed]
theorem Station.eta (x : Station) : Station.mk x.tab x.q x.held x.seen x.list x.seq x.trying x.tries x.back x.wait x.seed = x := rfl
attribute [go_sem] TCell.eta Table.eta Packet.eta Queue.eta Held.eta Seen.eta Frame.eta Action.eta Result.eta Up.eta Station.eta
attribute [go_sem] eI eB eS TCell.enc Table.enc Packet.enc Queue.enc Held.enc Seen.enc Frame.enc Action.enc Result.enc Up.enc Station.enc
theorem encs : type_of% (And.intro @eI.eq_1 (And.intro @eB.eq_1 (And.intro @eS.eq_1 (And.intro @TCell.enc.eq_1 ( And.intro @Table.enc.eq_1 ( And.intro @Packet.enc.eq_1 ( And.intro @Queue.enc.eq_1 ( And.intro @Held.enc.eq_1 ( And.intro @Seen.enc.eq_1 ( And.intro @Frame.enc.eq_1 ( And.intro @Action.enc.eq_1 ( And.intro @Result.enc.eq_1 ( And.intro @Up.enc.eq_1 (@Station.enc.eq_1)))))))))))))) := And.intro @eI.eq_1 (And.intro @eB.eq_1 (And.intro @eS.eq_1 (And.intro @TCell.enc.eq_1 ( And.intro @Table.enc.eq_1 ( And.intro @Packet.enc.eq_1 ( And.intro @Queue.enc.eq_1 ( And.intro @Held.enc.eq_1 ( And.intro @Seen.enc.eq_1 ( And.intro @Frame.enc.eq_1 ( And.intro @Action.enc.eq_1 ( And.intro @Result.enc.eq_1 ( And.intro @Up.enc.eq_1 (@Station.enc.eq_1)))))))))))))
end Go.Av.Sp
namespace Go.Av.T
open Go Go.Proofs.Tryz
theorem hmx : prog.follows .mixedOrders = true := by kernel_rfl
end Go.Av.T
/- The row of a law, part 1: from a contract to the row's call; arguments that are read again. -/
set_option linter.unusedVariables false
set_option linter.unusedSimpArgs false
set_option maxRecDepth 100000
namespace Go.Av.T
open Go Go.Av Go.Av.Sp Go.Proofs.YtmhchaedhmnofaaGreat Go.ChangeShapes Go.WideShapes Go.ChangeAt Go.RowKit

section
variable {H : Type} {enc : TypeId × Value → H} {P : Program}
/-- Nothing that was there has changed. -/
structure Old (W W' : World) : Prop where
  os : W'.os = W.os
  output : W'.output = W.output
  same : ∀ b, b < W.heap.size → W'.heap[b]? = W.heap[b]?

theorem Old.kept {W W' : World} (h : Old W W') (may : MemPlace → Prop) : W.keptBut W' may := by
  refine ⟨h.os, h.output, fun i hi => ?_⟩
  rw [h.same i hi]
  cases W.heap[i]? with
  | none => rfl
  | some o =>
    cases o <;> first | exact ⟨rfl, rfl, rfl, fun _ _ => rfl⟩ | exact .inr ⟨rfl, rfl⟩ | rfl

theorem Old.sameAt {W W' : World} (h : Old W W') {p : MemPlace} (hp : p.block < W.heap.size) : W.sameAt W' p := by
  cases p <;> (simp only [World.sameAt, MemPlace.block, World.cell?] at hp ⊢; rw [h.same _ hp])

theorem Old.trod {W W' : World} (h : Old W W') {base : Nat} {sp : Nat → Bool} {held : Bool} : ∀ {ts : List TypeId} {vs : List Value} {ds : List (DataW H)} {ps : List MemPlace}, DataW.TrodAll enc P W base sp held ts vs ds ps → (∀ p ∈ ps, p.block < W.heap.size) → DataW.TrodAll enc P W' base sp held ts vs ds ps
  | [], [], [], _, h', _ => h'
  | _ :: _, _ :: _, _ :: _, _, ⟨p, q, ⟨n, h1⟩, h2, e⟩, hs => ⟨p, q, ⟨n, DataW.trod_carry n _ _ _ h1 fun x hx => h.sameAt (hs x (by rw [e]; exact List.mem_append_left _ hx))⟩, h.trod h2 (fun x hx => hs x (by rw [e]; exact List.mem_append_right _ hx)), e⟩

/-- The answer of a law that writes nothing that was there. -/
theorem post_old {f : Func} {s : ChangeSpec} {apart fresh handsOn again : Bool} {W W' : World} {args : Array Value} {v : Value} {ds gs : List (DataW H)} {before : List MemPlace}
    (K : Kids P (· < P.types.size)) (hz : ∀ t e, t < P.types.size → P.underlying t = some (.slice e) → 0 < P.cellsOf e) (hts : ∀ t ∈ f.params.toList, t < P.types.size) (hvs : s.vars = [])
    (hW : DataW.Whole enc P f.params.toList s.vars apart W args.toList ds gs before) (hO : Old W W')
    (hres : ∀ (b : Nat) (sp : Nat → Bool) (hd : Bool), DataW.TrodAll enc P W' b sp hd f.resultTypes.toList (v.resultList f.resultTypes.size) (s.fn H (ds ++ gs)).results [])
    (hargs : (s.fn H (ds ++ gs)).args = ds) (hvars : (s.fn H (ds ++ gs)).vars = [])
    (hok : ∀ (j : Nat) (t : TypeId) (r : Value), f.resultTypes[j]? = some t → (v.resultList f.resultTypes.size)[j]? = some r → Value.okWide P W' .any 0 t r) :
    s.post enc P f apart fresh handsOn again W args v W' := by
  have hW0 := hW
  obtain ⟨p, q, hp, hq, he, hfz, hn⟩ := hW
  rw [hvs] at hq
  obtain ⟨rfl, rfl⟩ : gs = [] ∧ q = [] := trodVars_none hq
  rw [List.append_nil] at he
  subst he
  have hlt : ∀ x ∈ before, x.block < W.heap.size := fun x hx => hW0.lt x hx
  have ha : ∀ sp : Nat → Bool, (∀ x ∈ before, sp x.block = true) → DataW.TrodAll enc P W' 0 sp true f.params.toList args.toList (s.fn H (ds ++ [])).args before := fun sp hsp => by
    rw [hargs]
    exact hO.trod (DataW.TrodAll.respare K hz hts hp hsp) hlt
  have hv : ∀ sp : Nat → Bool, DataW.TrodVars enc P W' sp s.vars (s.fn H (ds ++ [])).vars [] := fun sp => by rw [hvs, hvars]; rfl
  refine ⟨ds, [], before, [], before, [], hW0, hres _ _ _, ha _ (fun x hx => by simpa using hlt x hx), hv _, World.keptBut_mono (fun x hx => ⟨hx, .inr (.inl hx)⟩) (hO.kept _), fun _ => ?_⟩
  refine ⟨hok, _, _, ([] ++ before) ++ [], ⟨[] ++ before, [], trodAll_append (ha _ (fun _ _ => rfl)) (hres _ _ _), hv _, rfl, ?_, ?_⟩, ?_⟩
  · intro b off hp'
    have hp2 : MemPlace.cell b off ∈ before := by simpa using hp'
    have hb := hlt _ hp2
    have e : W'.frozen? ⟨b, off, none⟩ = W.frozen? ⟨b, off, none⟩ := by
      simp only [World.frozen?]
      rw [hO.same b hb]
    rw [e]
    exact hfz b off hp2
  · intro h
    simpa using hn h
  · intro x hx _
    simpa using hx
end
end Go.Av.T
/- The row of a law, part 3: contracts as calls. -/
set_option linter.unusedVariables false
set_option linter.unusedSimpArgs false
set_option maxRecDepth 100000
namespace Go.Av.T
open Go Go.Av Go.Av.Sp Go.Proofs.Tryz Go.Proofs.YtmhchaedhmnofaaGreat Go.ChangeShapes Go.WideShapes Go.ChangeAt Go.RowKit
/-- A world in which nothing is owned. -/
def G0 (W : World) : Gh := ⟨fun b => b < W.heap.size, fun _ => none⟩
theorem hr0 (W : World) : HR W (G0 W) (getO []) := by
  have e : ∀ id, getO [] id = .free := fun id => getO_free (Nat.zero_le _)
  refine ⟨fun id => (by rw [e id]; trivial), fun id id' b C C' h => (by rw [e id] at h; cases h), fun b h => h⟩
theorem tr0 {W W' : World} {G' : Gh} (h : Tr W (G0 W) (getO []) W' G' (getO [])) : Old W W' := by
  refine ⟨h.os, h.output, fun b hb => h.keep b hb ?_⟩
  rintro ⟨id, C, h1, h2⟩
  exact absurd (show (none : Option (Nat × Nat)) = some (b, C) from h2) (by simp)
/-- A contract as a call. -/
theorem calls_law {f : FuncId} {fn : Func} {args : List AVal} {vs : Array Value} {W : World} (hf : prog.funcs[f]? = some fn) (hnm : (fn.name == "runtime.NumGoroutine") = false) (hb : fn.body.isSome = true) (hA : ACalls prog f args [] (.bool true) [])
    (hs : vs.size = args.length) (hv : ∀ (j : Nat) c v, args[j]? = some c → vs[j]? = some v → CR W (fun b => b < W.heap.size) c v ∨ VR W (G0 W) (getO []) c v) :
    Calls prog f vs W fun e W' => e = .returned (.bool true) ∧ Old W W' := by
  obtain ⟨nx, w1, h1, h2⟩ := hA W (G0 W) vs (hr0 W) hs (fun j c v a b => (hv j c v a b).elim (fun h => .cl c v h) id)
  obtain ⟨c, hc⟩ := Option.isSome_iff_exists.1 hb
  have hnm' : ¬ fn.name = "runtime.NumGoroutine" := by simpa using hnm
  have h3 : (callFunc f vs).run prog W = .ok (.enter f vs) W := by simp [callFunc, hf, hnm', hc]
  rw [h3] at h1
  injection h1 with e1 e2
  subst e1 e2
  refine h2.mono fun e W' h => ?_
  cases e with
  | returned v =>
    obtain ⟨G', hv', _, ht⟩ := h
    cases hv' with
    | cl _ _ hc =>
      cases hc
      exact ⟨rfl, tr0 ht⟩
  | _ => exact h.elim
theorem kids : Kids prog (· < prog.types.size) := kids_rows (by kernel_rfl) (by kernel_rfl)
theorem full : ∀ t e, t < prog.types.size → prog.underlying t = some (.slice e) → 0 < prog.cellsOf e := slices_full_of prog (by kernel_rfl)
theorem ownK : ownKnob prog.godebug = none := by kernel_rfl
end Go.Av.T
/- The row of a law, part 2: what the arguments read as. -/
set_option linter.unusedVariables false
set_option linter.unusedSimpArgs false
set_option maxRecDepth 100000
namespace Go.Av.T
open Go Go.Av Go.Av.Sp Go.Proofs.Tryz Go.Proofs.YtmhchaedhmnofaaGreat Go.ChangeShapes Go.WideShapes Go.ChangeAt Go.RowKit
theorem rd3 : Rd prog 3 eI (fun n => (Lit.int .i64 n).wf = true) := Rd.int underlying3 (by kernel_rfl)
theorem rd4 : Rd prog 4 eB (fun _ => True) := Rd.bool underlying4 (by kernel_rfl)
theorem rd9 : Rd prog 9 eS (fun s => s.size ≤ maxLen) := Rd.str underlying9 (by kernel_rfl)
theorem rd57 : Rd prog 57 TCell.enc (fun _ => True) :=
  Rd.map (Rd.struct underlying57 (by kernel_rfl) (@RdF.cons prog _ _ 0 1 _ _ _ _ _ _ rfl (by kernel_rfl) @rd3 (@RdF.cons prog _ _ 1 2 _ _ _ _ _ _ rfl (by kernel_rfl) @rd3 (@RdF.cons prog _ _ 2 3 _ _ _ _ _ _ rfl (by kernel_rfl) @rd3 (@RdF.cons prog _ _ 3 4 _ _ _ _ _ _ rfl (by kernel_rfl) @rd4 (@RdF.cons prog _ _ 4 5 _ _ _ _ _ _ rfl (by kernel_rfl) @rd3 (@RdF.cons prog _ _ 5 6 _ _ _ _ _ _ rfl (by kernel_rfl) @rd3 (@RdF.nil prog 6)))))))) (fun p : Int × Int × Int × Bool × Int × Int × Unit => (⟨p.1, p.2.1, p.2.2.1, p.2.2.2.1, p.2.2.2.2.1, p.2.2.2.2.2.1⟩ : TCell)) (fun _ => by rfl) (fun _ _ => trivial)
theorem rd22 : Rd prog 22 (fun l : List TCell => [.sl 6 (l.map TCell.enc)]) (fun l => (∀ v ∈ l, True) ∧ l.length ≤ maxLen) := Rd.slice underlying22 (by kernel_rfl) (by kernel_rfl) (by decide) rd57
theorem rd24 : Rd prog 24 Table.enc (fun _ => True) :=
  Rd.map (Rd.struct underlying24 (by kernel_rfl) (@RdF.cons prog _ _ 0 1 _ _ _ _ _ _ rfl (by kernel_rfl) @rd3 (@RdF.cons prog _ _ 1 2 _ _ _ _ _ _ rfl (by kernel_rfl) @rd3 (@RdF.cons prog _ _ 2 3 _ _ _ _ _ _ rfl (by kernel_rfl) @rd22 (@RdF.nil prog 3))))) (fun p : Int × Int × List TCell × Unit => (⟨p.1, p.2.1, p.2.2.1⟩ : Table)) (fun _ => by rfl) (fun _ _ => trivial)
theorem rd104 : Rd prog 104 Packet.enc (fun _ => True) :=
  Rd.map (Rd.struct underlying104 (by kernel_rfl) (@RdF.cons prog _ _ 0 1 _ _ _ _ _ _ rfl (by kernel_rfl) @rd3 (@RdF.cons prog _ _ 1 2 _ _ _ _ _ _ rfl (by kernel_rfl) @rd3 (@RdF.cons prog _ _ 2 3 _ _ _ _ _ _ rfl (by kernel_rfl) @rd3 (@RdF.cons prog _ _ 3 4 _ _ _ _ _ _ rfl (by kernel_rfl) @rd3 (@RdF.cons prog _ _ 4 5 _ _ _ _ _ _ rfl (by kernel_rfl) @rd3 (@RdF.cons prog _ _ 5 6 _ _ _ _ _ _ rfl (by kernel_rfl) @rd9 (@RdF.nil prog 6)))))))) (fun p : Int × Int × Int × Int × Int × ByteArray × Unit => (⟨p.1, p.2.1, p.2.2.1, p.2.2.2.1, p.2.2.2.2.1, p.2.2.2.2.2.1⟩ : Packet)) (fun _ => by rfl) (fun _ _ => trivial)
theorem rd25 : Rd prog 25 (fun l : List Packet => [.sl 6 (l.map Packet.enc)]) (fun l => (∀ v ∈ l, True) ∧ l.length ≤ maxLen) := Rd.slice underlying25 (by kernel_rfl) (by kernel_rfl) (by decide) rd104
theorem rd27 : Rd prog 27 Queue.enc (fun q => q.pk.length ≤ maxLen) :=
  Rd.map (Rd.struct underlying27 (by kernel_rfl) (@RdF.cons prog _ _ 0 1 _ _ _ _ _ _ rfl (by kernel_rfl) @rd3 (@RdF.cons prog _ _ 1 2 _ _ _ _ _ _ rfl (by kernel_rfl) @rd25 (@RdF.nil prog 2)))) (fun p : Int × List Packet × Unit => (⟨p.1, p.2.1⟩ : Queue)) (fun _ => by rfl) (fun p h => h.2.1.2)
theorem rd76 : Rd prog 76 (fun l : List Int => [.sl 1 (l.map eI)]) (fun l => (∀ v ∈ l, (Lit.int .i64 v).wf = true) ∧ l.length ≤ maxLen) := Rd.slice underlying76 (by kernel_rfl) (by kernel_rfl) (by decide) rd3
theorem rd100 : Rd prog 100 Held.enc (fun _ => True) :=
  Rd.map (Rd.struct underlying100 (by kernel_rfl) (@RdF.cons prog _ _ 0 1 _ _ _ _ _ _ rfl (by kernel_rfl) @rd3 (@RdF.cons prog _ _ 1 2 _ _ _ _ _ _ rfl (by kernel_rfl) @rd3 (@RdF.cons prog _ _ 2 3 _ _ _ _ _ _ rfl (by kernel_rfl) @rd3 (@RdF.cons prog _ _ 3 4 _ _ _ _ _ _ rfl (by kernel_rfl) @rd9 (@RdF.cons prog _ _ 4 5 _ _ _ _ _ _ rfl (by kernel_rfl) @rd76 (@RdF.nil prog 5))))))) (fun p : Int × Int × Int × ByteArray × List Int × Unit => (⟨p.1, p.2.1, p.2.2.1, p.2.2.2.1, p.2.2.2.2.1⟩ : Held)) (fun _ => by rfl) (fun _ _ => trivial)
theorem rd28 : Rd prog 28 (fun l : List Held => [.sl 5 (l.map Held.enc)]) (fun l => (∀ v ∈ l, True) ∧ l.length ≤ maxLen) := Rd.slice underlying28 (by kernel_rfl) (by kernel_rfl) (by decide) rd100
theorem rd160 : Rd prog 160 Seen.enc (fun _ => True) :=
  Rd.map (Rd.struct underlying160 (by kernel_rfl) (@RdF.cons prog _ _ 0 1 _ _ _ _ _ _ rfl (by kernel_rfl) @rd3 (@RdF.cons prog _ _ 1 2 _ _ _ _ _ _ rfl (by kernel_rfl) @rd3 (@RdF.nil prog 2)))) (fun p : Int × Int × Unit => (⟨p.1, p.2.1⟩ : Seen)) (fun _ => by rfl) (fun _ _ => trivial)
theorem rd29 : Rd prog 29 (fun l : List Seen => [.sl 2 (l.map Seen.enc)]) (fun l => (∀ v ∈ l, True) ∧ l.length ≤ maxLen) := Rd.slice underlying29 (by kernel_rfl) (by kernel_rfl) (by decide) rd160
theorem rd31 : Rd prog 31 Station.enc (fun s => s.q.pk.length ≤ maxLen ∧ s.held.length ≤ maxLen) :=
  Rd.map (Rd.struct underlying31 (by kernel_rfl) (@RdF.cons prog _ _ 0 3 _ _ _ _ _ _ rfl (by kernel_rfl) @rd24 (@RdF.cons prog _ _ 3 5 _ _ _ _ _ _ rfl (by kernel_rfl) @rd27 (@RdF.cons prog _ _ 5 6 _ _ _ _ _ _ rfl (by kernel_rfl) @rd28 (@RdF.cons prog _ _ 6 7 _ _ _ _ _ _ rfl (by kernel_rfl) @rd29 (@RdF.cons prog _ _ 7 8 _ _ _ _ _ _ rfl (by kernel_rfl) @rd3 (@RdF.cons prog _ _ 8 9 _ _ _ _ _ _ rfl (by kernel_rfl) @rd3 (@RdF.cons prog _ _ 9 10 _ _ _ _ _ _ rfl (by kernel_rfl) @rd3 (@RdF.cons prog _ _ 10 11 _ _ _ _ _ _ rfl (by kernel_rfl) @rd3 (@RdF.cons prog _ _ 11 12 _ _ _ _ _ _ rfl (by kernel_rfl) @rd3 (@RdF.cons prog _ _ 12 13 _ _ _ _ _ _ rfl (by kernel_rfl) @rd3 (@RdF.cons prog _ _ 13 14 _ _ _ _ _ _ rfl (by kernel_rfl) @rd3 (@RdF.nil prog 14))))))))))))) (fun p : Table × Queue × List Held × List Seen × Int × Int × Int × Int × Int × Int × Int × Unit => (⟨p.1, p.2.1, p.2.2.1, p.2.2.2.1, p.2.2.2.2.1, p.2.2.2.2.2.1, p.2.2.2.2.2.2.1, p.2.2.2.2.2.2.2.1, p.2.2.2.2.2.2.2.2.1, p.2.2.2.2.2.2.2.2.2.1, p.2.2.2.2.2.2.2.2.2.2.1⟩ : Station)) (fun _ => by rfl) (fun p h => ⟨h.2.1, h.2.2.1.2⟩)

end Go.Av.T
