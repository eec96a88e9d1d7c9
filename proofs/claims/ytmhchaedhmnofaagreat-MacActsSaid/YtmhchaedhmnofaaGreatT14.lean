/- The seat: part T14. -/
import Derived.Test.YtmhchaedhmnofaaGreatT13
/- The row of a law, part 2: what the arguments read as. -/
set_option linter.unusedVariables false
set_option linter.unusedSimpArgs false
set_option maxRecDepth 100000
namespace Go.Av.T
open Go Go.Av Go.Av.Sp Go.Proofs.Tryz Go.Proofs.YtmhchaedhmnofaaGreat Go.ChangeShapes Go.WideShapes Go.ChangeAt Go.RowKit
theorem rd3 : Rd prog 3 eI (fun n => (Lit.int .i64 n).wf = true) := Rd.int underlying3 (by kernel_rfl)
theorem rd4 : Rd prog 4 eB (fun _ => True) := Rd.bool underlying4 (by kernel_rfl)
theorem rd9 : Rd prog 9 eS (fun s => s.size ≤ maxLen) := Rd.str underlying9 (by kernel_rfl)
theorem rd57 : Rd prog 57 TCell.enc (fun _ => True) :=
  Rd.map (Rd.struct underlying57 (by kernel_rfl) (@RdF.cons prog _ _ 0 1 _ _ _ _ _ _ rfl (by kernel_rfl) @rd3 (@RdF.cons prog _ _ 1 2 _ _ _ _ _ _ rfl (by kernel_rfl) @rd3 (@RdF.cons prog _ _ 2 3 _ _ _ _ _ _ rfl (by kernel_rfl) @rd3 (@RdF.cons prog _ _ 3 4 _ _ _ _ _ _ rfl (by kernel_rfl) @rd4 (@RdF.cons prog _ _ 4 5 _ _ _ _ _ _ rfl (by kernel_rfl) @rd3 (@RdF.cons prog _ _ 5 6 _ _ _ _ _ _ rfl (by kernel_rfl) @rd3 (@RdF.nil prog 6)))))))) (fun p : Int × Int × Int × Bool × Int × Int × Unit => (⟨p.1, p.2.1, p.2.2.1, p.2.2.2.1, p.2.2.2.2.1, p.2.2.2.2.2.1⟩ : TCell)) (fun _ => by rfl) (fun _ _ => trivial)
theorem rd22 : Rd prog 22 (fun l : List TCell => [.sl 6 (l.map TCell.enc)]) (fun l => (∀ v ∈ l, True) ∧ l.length ≤ maxLen) := Rd.slice underlying22 (by kernel_rfl) (by kernel_rfl) (by decide) rd57
theorem rd24 : Rd prog 24 Table.enc (fun _ => True) :=
  Rd.map (Rd.struct underlying24 (by kernel_rfl) (@RdF.cons prog _ _ 0 1 _ _ _ _ _ _ rfl (by kernel_rfl) @rd3 (@RdF.cons prog _ _ 1 2 _ _ _ _ _ _ rfl (by kernel_rfl) @rd3 (@RdF.cons prog _ _ 2 3 _ _ _ _ _ _ rfl (by kernel_rfl) @rd22 (@RdF.nil prog 3))))) (fun p : Int × Int × List TCell × Unit => (⟨p.1, p.2.1, p.2.2.1⟩ : Table)) (fun _ => by rfl) (fun _ _ => trivial)
theorem rd104 : Rd prog 104 Packet.enc (fun _ => True) :=
  Rd.map (Rd.struct underlying104 (by kernel_rfl) (@RdF.cons prog _ _ 0 1 _ _ _ _ _ _ rfl (by kernel_rfl) @rd3 (@RdF.cons prog _ _ 1 2 _ _ _ _ _ _ rfl (by kernel_rfl) @rd3 (@RdF.cons prog _ _ 2 3 _ _ _ _ _ _ rfl (by kernel_rfl) @rd3 (@RdF.cons prog _ _ 3 4 _ _ _ _ _ _ rfl (by kernel_rfl) @rd3 (@RdF.cons prog _ _ 4 5 _ _ _ _ _ _ rfl (by kernel_rfl) @rd3 (@RdF.cons prog _ _ 5 6 _ _ _ _ _ _ rfl (by kernel_rfl) @rd9 (@RdF.nil prog 6)))))))) (fun p : Int × Int × Int × Int × Int × ByteArray × Unit => (⟨p.1, p.2.1, p.2.2.1, p.2.2.2.1, p.2.2.2.2.1, p.2.2.2.2.2.1⟩ : Packet)) (fun _ => by rfl) (fun _ _ => trivial)
theorem rd25 : Rd prog 25 (fun l : List Packet => [.sl 6 (l.map Packet.enc)]) (fun l => (∀ v ∈ l, True) ∧ l.length ≤ maxLen) := Rd.slice underlying25 (by kernel_rfl) (by kernel_rfl) (by decide) rd104
theorem rd27 : Rd prog 27 Queue.enc (fun q => q.pk.length ≤ maxLen) :=
  Rd.map (Rd.struct underlying27 (by kernel_rfl) (@RdF.cons prog _ _ 0 1 _ _ _ _ _ _ rfl (by kernel_rfl) @rd3 (@RdF.cons prog _ _ 1 2 _ _ _ _ _ _ rfl (by kernel_rfl) @rd25 (@RdF.nil prog 2)))) (fun p : Int × List Packet × Unit => (⟨p.1, p.2.1⟩ : Queue)) (fun _ => by rfl) (fun p h => h.2.1.2)
theorem rd76 : Rd prog 76 (fun l : List Int => [.sl 1 (l.map eI)]) (fun l => (∀ v ∈ l, (Lit.int .i64 v).wf = true) ∧ l.length ≤ maxLen) := Rd.slice underlying76 (by kernel_rfl) (by kernel_rfl) (by decide) rd3
theorem rd100 : Rd prog 100 Held.enc (fun _ => True) :=
  Rd.map (Rd.struct underlying100 (by kernel_rfl) (@RdF.cons prog _ _ 0 1 _ _ _ _ _ _ rfl (by kernel_rfl) @rd3 (@RdF.cons prog _ _ 1 2 _ _ _ _ _ _ rfl (by kernel_rfl) @rd3 (@RdF.cons prog _ _ 2 3 _ _ _ _ _ _ rfl (by kernel_rfl) @rd3 (@RdF.cons prog _ _ 3 4 _ _ _ _ _ _ rfl (by kernel_rfl) @rd9 (@RdF.cons prog _ _ 4 5 _ _ _ _ _ _ rfl (by kernel_rfl) @rd76 (@RdF.nil prog 5))))))) (fun p : Int × Int × Int × ByteArray × List Int × Unit => (⟨p.1, p.2.1, p.2.2.1, p.2.2.2.1, p.2.2.2.2.1⟩ : Held)) (fun _ => by rfl) (fun _ _ => trivial)
theorem rd28 : Rd prog 28 (fun l : List Held => [.sl 5 (l.map Held.enc)]) (fun l => (∀ v ∈ l, True) ∧ l.length ≤ maxLen) := Rd.slice underlying28 (by kernel_rfl) (by kernel_rfl) (by decide) rd100
theorem rd160 : Rd prog 160 Seen.enc (fun _ => True) :=
  Rd.map (Rd.struct underlying160 (by kernel_rfl) (@RdF.cons prog _ _ 0 1 _ _ _ _ _ _ rfl (by kernel_rfl) @rd3 (@RdF.cons prog _ _ 1 2 _ _ _ _ _ _ rfl (by kernel_rfl) @rd3 (@RdF.nil prog 2)))) (fun p : Int × Int × Unit => (⟨p.1, p.2.1⟩ : Seen)) (fun _ => by rfl) (fun _ _ => trivial)
theorem rd29 : Rd prog 29 (fun l : List Seen => [.sl 2 (l.map Seen.enc)]) (fun l => (∀ v ∈ l, True) ∧ l.length ≤ maxLen) := Rd.slice underlying29 (by kernel_rfl) (by kernel_rfl) (by decide) rd160
theorem rd31 : Rd prog 31 Station.enc (fun s => s.q.pk.length ≤ maxLen ∧ s.held.length ≤ maxLen) :=
  Rd.map (Rd.struct underlying31 (by kernel_rfl) (@RdF.cons prog _ _ 0 3 _ _ _ _ _ _ rfl (by kernel_rfl) @rd24 (@RdF.cons prog _ _ 3 5 _ _ _ _ _ _ rfl (by kernel_rfl) @rd27 (@RdF.cons prog _ _ 5 6 _ _ _ _ _ _ rfl (by kernel_rfl) @rd28 (@RdF.cons prog _ _ 6 7 _ _ _ _ _ _ rfl (by kernel_rfl) @rd29 (@RdF.cons prog _ _ 7 8 _ _ _ _ _ _ rfl (by kernel_rfl) @rd3 (@RdF.cons prog _ _ 8 9 _ _ _ _ _ _ rfl (by kernel_rfl) @rd3 (@RdF.cons prog _ _ 9 10 _ _ _ _ _ _ rfl (by kernel_rfl) @rd3 (@RdF.cons prog _ _ 10 11 _ _ _ _ _ _ rfl (by kernel_rfl) @rd3 (@RdF.cons prog _ _ 11 12 _ _ _ _ _ _ rfl (by kernel_rfl) @rd3 (@RdF.cons prog _ _ 12 13 _ _ _ _ _ _ rfl (by kernel_rfl) @rd3 (@RdF.cons prog _ _ 13 14 _ _ _ _ _ _ rfl (by kernel_rfl) @rd3 (@RdF.nil prog 14))))))))))))) (fun p : Table × Queue × List Held × List Seen × Int × Int × Int × Int × Int × Int × Int × Unit => (⟨p.1, p.2.1, p.2.2.1, p.2.2.2.1, p.2.2.2.2.1, p.2.2.2.2.2.1, p.2.2.2.2.2.2.1, p.2.2.2.2.2.2.2.1, p.2.2.2.2.2.2.2.2.1, p.2.2.2.2.2.2.2.2.2.1, p.2.2.2.2.2.2.2.2.2.2.1⟩ : Station)) (fun _ => by rfl) (fun p h => ⟨h.2.1, h.2.2.1.2⟩)

end Go.Av.T
