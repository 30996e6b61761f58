/-
  No cell of these rows narrows 'for every input' (looked for: loops, veiled, ifaces, maps, wideKeys, modest, calm, conditions, laid).
  DERIVED. THE GIVEN ROWS OF THIS SEAT. 11 by the template 'for every input the law returns true; each argument reads behind the call as it read before'; 0 by the template 'total and deterministic' (their statements: YtbfialebaoeicaaTotals.lean).
  GIVEN WITH THE SEED: the statements are not yours to turn. If you find one false, say at which input.
  Laid BY PROGRAM, IN A SANDBOX (cutbox-rows.mjs): the forced cells as the released guide's own fill.sh prints them over the translation fa5c569a794dc9c2… (all of the seat's roots in one cut). By AI agents, Wed Nov 11 2026. No macro, syntax, notation, axiom, sorry.
-/
import Derived.Test.YtbfialebaoeicaaChecked
import GoSem.Claim
import GoSem.ClaimJoined
import GoSem.ClaimMapViews
import Derived.JoinedTies
import Derived.KernelRfl
namespace Go.Proofs.Ytbfialebaoeicaa
/- THE CELL 'sum', in the pinned program and in every row, IS THE sha256 OF THE DUMP (.gsa) THAT YtbfialebaoeicaaProg.lean LOADS. Nothing in Lean hashes anything: it is a label: what it is worth is what the hold of that sum in a sandbox is worth. -/
noncomputable def Try.pinned : Pinned := { name := "ytbfialebaoeicaa", sum := "fa5c569a794dc9c206ef8e418d74ff20edc0f09d5f1ef4e8f78237b817e67b51", checked := Try.checked }
namespace Rows
def none {H : Type} : Left H := { results := [], args := [] }

/-- 'davitlaw02.ShapeRight': WHATEVER THE INPUT: true; the input reads as it did. -/
def shapeRightSpec : ChangeSpec := { name := "shapeRight", fn := fun _ => fun
  | [d1, d2] => { results := [.lit (.bool true)], args := [d1, d2] }
  | _ => none }
def shapeRightRow : OpenClaim := { program := "ytbfialebaoeicaa", sum := "fa5c569a794dc9c206ef8e418d74ff20edc0f09d5f1ef4e8f78237b817e67b51", func := "davit/davitlaw02.ShapeRight", spec := "shapeRight", unfollowed := true, recurses := true, apart := false }
def ShapeRightSaid : Prop := shapeRightRow.holds Try.pinned (OpenSpec.ofChange shapeRightSpec)

/-- ITS FALSE NEIGHBOUR: 'it returns false'. Refute it at one input. -/
def shapeRightWrong : ChangeSpec := { name := "shapeRight", fn := fun _ => fun
  | [d1, d2] => { results := [.lit (.bool false)], args := [d1, d2] }
  | _ => none }
def ShapeRightWrongFalsely : Prop := shapeRightRow.holds Try.pinned (OpenSpec.ofChange shapeRightWrong)

/-- 'davitlaw02.ShapeCopies': WHATEVER THE INPUT: true; the input reads as it did. -/
def shapeCopiesSpec : ChangeSpec := { name := "shapeCopies", fn := fun _ => fun
  | [d1, d2, d3] => { results := [.lit (.bool true)], args := [d1, d2, d3] }
  | _ => none }
def shapeCopiesRow : OpenClaim := { program := "ytbfialebaoeicaa", sum := "fa5c569a794dc9c206ef8e418d74ff20edc0f09d5f1ef4e8f78237b817e67b51", func := "davit/davitlaw02.ShapeCopies", spec := "shapeCopies", unfollowed := true, recurses := true, apart := false }
def ShapeCopiesSaid : Prop := shapeCopiesRow.holds Try.pinned (OpenSpec.ofChange shapeCopiesSpec)

/-- ITS FALSE NEIGHBOUR: 'it returns false'. Refute it at one input. -/
def shapeCopiesWrong : ChangeSpec := { name := "shapeCopies", fn := fun _ => fun
  | [d1, d2, d3] => { results := [.lit (.bool false)], args := [d1, d2, d3] }
  | _ => none }
def ShapeCopiesWrongFalsely : Prop := shapeCopiesRow.holds Try.pinned (OpenSpec.ofChange shapeCopiesWrong)

/-- 'davitlaw02.ShapeNames': WHATEVER THE INPUT: true; the input reads as it did. -/
def shapeNamesSpec : ChangeSpec := { name := "shapeNames", fn := fun _ => fun
  | [d1, d2, d3] => { results := [.lit (.bool true)], args := [d1, d2, d3] }
  | _ => none }
def shapeNamesRow : OpenClaim := { program := "ytbfialebaoeicaa", sum := "fa5c569a794dc9c206ef8e418d74ff20edc0f09d5f1ef4e8f78237b817e67b51", func := "davit/davitlaw02.ShapeNames", spec := "shapeNames", unfollowed := true, recurses := true, apart := false }
def ShapeNamesSaid : Prop := shapeNamesRow.holds Try.pinned (OpenSpec.ofChange shapeNamesSpec)

/-- ITS FALSE NEIGHBOUR: 'it returns false'. Refute it at one input. -/
def shapeNamesWrong : ChangeSpec := { name := "shapeNames", fn := fun _ => fun
  | [d1, d2, d3] => { results := [.lit (.bool false)], args := [d1, d2, d3] }
  | _ => none }
def ShapeNamesWrongFalsely : Prop := shapeNamesRow.holds Try.pinned (OpenSpec.ofChange shapeNamesWrong)

/-- 'davitlaw05.FrameOne': WHATEVER THE INPUT: true; the input reads as it did. -/
def frameOneSpec : ChangeSpec := { name := "frameOne", fn := fun _ => fun
  | [d1, d2] => { results := [.lit (.bool true)], args := [d1, d2] }
  | _ => none }
def frameOneRow : OpenClaim := { program := "ytbfialebaoeicaa", sum := "fa5c569a794dc9c206ef8e418d74ff20edc0f09d5f1ef4e8f78237b817e67b51", func := "davit/davitlaw05.FrameOne", spec := "frameOne", unfollowed := true, recurses := true, apart := false }
def FrameOneSaid : Prop := frameOneRow.holds Try.pinned (OpenSpec.ofChange frameOneSpec)

/-- ITS FALSE NEIGHBOUR: 'it returns false'. Refute it at one input. -/
def frameOneWrong : ChangeSpec := { name := "frameOne", fn := fun _ => fun
  | [d1, d2] => { results := [.lit (.bool false)], args := [d1, d2] }
  | _ => none }
def FrameOneWrongFalsely : Prop := frameOneRow.holds Try.pinned (OpenSpec.ofChange frameOneWrong)

/-- 'davitlaw05.FrameReckons': WHATEVER THE INPUT: true; the input reads as it did. -/
def frameReckonsSpec : ChangeSpec := { name := "frameReckons", fn := fun _ => fun
  | [d1, d2, d3, d4, d5] => { results := [.lit (.bool true)], args := [d1, d2, d3, d4, d5] }
  | _ => none }
def frameReckonsRow : OpenClaim := { program := "ytbfialebaoeicaa", sum := "fa5c569a794dc9c206ef8e418d74ff20edc0f09d5f1ef4e8f78237b817e67b51", func := "davit/davitlaw05.FrameReckons", spec := "frameReckons", unfollowed := true, recurses := true, apart := false }
def FrameReckonsSaid : Prop := frameReckonsRow.holds Try.pinned (OpenSpec.ofChange frameReckonsSpec)

/-- ITS FALSE NEIGHBOUR: 'it returns false'. Refute it at one input. -/
def frameReckonsWrong : ChangeSpec := { name := "frameReckons", fn := fun _ => fun
  | [d1, d2, d3, d4, d5] => { results := [.lit (.bool false)], args := [d1, d2, d3, d4, d5] }
  | _ => none }
def FrameReckonsWrongFalsely : Prop := frameReckonsRow.holds Try.pinned (OpenSpec.ofChange frameReckonsWrong)

/-- 'davitlaw05.FrameRight': WHATEVER THE INPUT: true; the input reads as it did. -/
def frameRightSpec : ChangeSpec := { name := "frameRight", fn := fun _ => fun
  | [d1, d2, d3, d4, d5, d6] => { results := [.lit (.bool true)], args := [d1, d2, d3, d4, d5, d6] }
  | _ => none }
def frameRightRow : OpenClaim := { program := "ytbfialebaoeicaa", sum := "fa5c569a794dc9c206ef8e418d74ff20edc0f09d5f1ef4e8f78237b817e67b51", func := "davit/davitlaw05.FrameRight", spec := "frameRight", unfollowed := true, recurses := true, apart := false }
def FrameRightSaid : Prop := frameRightRow.holds Try.pinned (OpenSpec.ofChange frameRightSpec)

/-- ITS FALSE NEIGHBOUR: 'it returns false'. Refute it at one input. -/
def frameRightWrong : ChangeSpec := { name := "frameRight", fn := fun _ => fun
  | [d1, d2, d3, d4, d5, d6] => { results := [.lit (.bool false)], args := [d1, d2, d3, d4, d5, d6] }
  | _ => none }
def FrameRightWrongFalsely : Prop := frameRightRow.holds Try.pinned (OpenSpec.ofChange frameRightWrong)

/-- 'davitlaw05.FrameLands': WHATEVER THE INPUT: true; the input reads as it did. -/
def frameLandsSpec : ChangeSpec := { name := "frameLands", fn := fun _ => fun
  | [d1, d2, d3, d4] => { results := [.lit (.bool true)], args := [d1, d2, d3, d4] }
  | _ => none }
def frameLandsRow : OpenClaim := { program := "ytbfialebaoeicaa", sum := "fa5c569a794dc9c206ef8e418d74ff20edc0f09d5f1ef4e8f78237b817e67b51", func := "davit/davitlaw05.FrameLands", spec := "frameLands", unfollowed := true, recurses := true, apart := false }
def FrameLandsSaid : Prop := frameLandsRow.holds Try.pinned (OpenSpec.ofChange frameLandsSpec)

/-- ITS FALSE NEIGHBOUR: 'it returns false'. Refute it at one input. -/
def frameLandsWrong : ChangeSpec := { name := "frameLands", fn := fun _ => fun
  | [d1, d2, d3, d4] => { results := [.lit (.bool false)], args := [d1, d2, d3, d4] }
  | _ => none }
def FrameLandsWrongFalsely : Prop := frameLandsRow.holds Try.pinned (OpenSpec.ofChange frameLandsWrong)

/-- 'davitlaw15.PadsRight': WHATEVER THE INPUT: true; the input reads as it did. -/
def padsRightSpec : ChangeSpec := { name := "padsRight", fn := fun _ => fun
  | [d1, d2] => { results := [.lit (.bool true)], args := [d1, d2] }
  | _ => none }
def padsRightRow : OpenClaim := { program := "ytbfialebaoeicaa", sum := "fa5c569a794dc9c206ef8e418d74ff20edc0f09d5f1ef4e8f78237b817e67b51", func := "davit/davitlaw15.PadsRight", spec := "padsRight", unfollowed := true, recurses := true, apart := false }
def PadsRightSaid : Prop := padsRightRow.holds Try.pinned (OpenSpec.ofChange padsRightSpec)

/-- ITS FALSE NEIGHBOUR: 'it returns false'. Refute it at one input. -/
def padsRightWrong : ChangeSpec := { name := "padsRight", fn := fun _ => fun
  | [d1, d2] => { results := [.lit (.bool false)], args := [d1, d2] }
  | _ => none }
def PadsRightWrongFalsely : Prop := padsRightRow.holds Try.pinned (OpenSpec.ofChange padsRightWrong)

/-- 'davitlaw15.PadsKeep': WHATEVER THE INPUT: true; the input reads as it did. -/
def padsKeepSpec : ChangeSpec := { name := "padsKeep", fn := fun _ => fun
  | [d1, d2, d3] => { results := [.lit (.bool true)], args := [d1, d2, d3] }
  | _ => none }
def padsKeepRow : OpenClaim := { program := "ytbfialebaoeicaa", sum := "fa5c569a794dc9c206ef8e418d74ff20edc0f09d5f1ef4e8f78237b817e67b51", func := "davit/davitlaw15.PadsKeep", spec := "padsKeep", unfollowed := true, recurses := true, apart := false }
def PadsKeepSaid : Prop := padsKeepRow.holds Try.pinned (OpenSpec.ofChange padsKeepSpec)

/-- ITS FALSE NEIGHBOUR: 'it returns false'. Refute it at one input. -/
def padsKeepWrong : ChangeSpec := { name := "padsKeep", fn := fun _ => fun
  | [d1, d2, d3] => { results := [.lit (.bool false)], args := [d1, d2, d3] }
  | _ => none }
def PadsKeepWrongFalsely : Prop := padsKeepRow.holds Try.pinned (OpenSpec.ofChange padsKeepWrong)

/-- 'davitlaw15.PadsCount': WHATEVER THE INPUT: true; the input reads as it did. -/
def padsCountSpec : ChangeSpec := { name := "padsCount", fn := fun _ => fun
  | [d] => { results := [.lit (.bool true)], args := [d] }
  | _ => none }
def padsCountRow : OpenClaim := { program := "ytbfialebaoeicaa", sum := "fa5c569a794dc9c206ef8e418d74ff20edc0f09d5f1ef4e8f78237b817e67b51", func := "davit/davitlaw15.PadsCount", spec := "padsCount", unfollowed := true, recurses := true, apart := false }
def PadsCountSaid : Prop := padsCountRow.holds Try.pinned (OpenSpec.ofChange padsCountSpec)

/-- ITS FALSE NEIGHBOUR: 'it returns false'. Refute it at one input. -/
def padsCountWrong : ChangeSpec := { name := "padsCount", fn := fun _ => fun
  | [d] => { results := [.lit (.bool false)], args := [d] }
  | _ => none }
def PadsCountWrongFalsely : Prop := padsCountRow.holds Try.pinned (OpenSpec.ofChange padsCountWrong)

/-- 'davitlaw15.PadsCatch': WHATEVER THE INPUT: true; the input reads as it did. -/
def padsCatchSpec : ChangeSpec := { name := "padsCatch", fn := fun _ => fun
  | [d1, d2] => { results := [.lit (.bool true)], args := [d1, d2] }
  | _ => none }
def padsCatchRow : OpenClaim := { program := "ytbfialebaoeicaa", sum := "fa5c569a794dc9c206ef8e418d74ff20edc0f09d5f1ef4e8f78237b817e67b51", func := "davit/davitlaw15.PadsCatch", spec := "padsCatch", unfollowed := true, recurses := true, apart := false }
def PadsCatchSaid : Prop := padsCatchRow.holds Try.pinned (OpenSpec.ofChange padsCatchSpec)

/-- ITS FALSE NEIGHBOUR: 'it returns false'. Refute it at one input. -/
def padsCatchWrong : ChangeSpec := { name := "padsCatch", fn := fun _ => fun
  | [d1, d2] => { results := [.lit (.bool false)], args := [d1, d2] }
  | _ => none }
def PadsCatchWrongFalsely : Prop := padsCatchRow.holds Try.pinned (OpenSpec.ofChange padsCatchWrong)

/- THE SECOND FORM. 'bulk': how many values and letters a reading holds, each counted each time it is reached (what is shared counts as often as it is met; a slice's spare places count too). A statement '..UptoSaid' is the law's where the arguments, and the package variables that the reading takes, are together of bulk at most 1048576: NARROWER than '..Said'. Prove '..Said' where nothing that the law and all that it calls make is longer than what came in: it says more and counts as full. Else prove '..UptoSaid'. A law counts once. -/
mutual
def uptoBulk {H : Type} : DataW H → Nat
  | .lit (.string bytes) => bytes.length + 1
  | .lit _ => 1
  | .nil => 1
  | .ptr d => uptoBulk d + 1
  | .slice elems spare => uptoBulkAll elems + uptoBulkAll spare + 1
  | .agg parts => uptoBulkAll parts + 1
  | .iface _ d => uptoBulk d + 1
  | .map entries => uptoBulkEntries entries + 1
  | .held _ => 1
def uptoBulkAll {H : Type} : List (DataW H) → Nat
  | [] => 0
  | d :: r => uptoBulk d + uptoBulkAll r
def uptoBulkEntries {H : Type} : List (Lit × DataW H) → Nat
  | [] => 0
  | x :: r => uptoBulkEntry x + uptoBulkEntries r
def uptoBulkEntry {H : Type} : Lit × DataW H → Nat
  | (.string bytes, d) => bytes.length + uptoBulk d + 1
  | (_, d) => uptoBulk d + 1
 end
def uptoSmall : (H : Type) → List (DataW H) → Bool := fun _ ds => decide (uptoBulkAll ds ≤ 1048576)
def OpenSpec.upto (s : _root_.Go.ChangeSpec) : _root_.Go.OpenSpec := { _root_.Go.OpenSpec.ofChange s with cond := some uptoSmall }

/-- 'davitlaw02.ShapeRight', WHERE WHAT IT READS IS OF BULK AT MOST 1048576: true; the input reads as it did. -/
def shapeRightUptoRow : OpenClaim := { program := "ytbfialebaoeicaa", sum := "fa5c569a794dc9c206ef8e418d74ff20edc0f09d5f1ef4e8f78237b817e67b51", func := "davit/davitlaw02.ShapeRight", spec := "shapeRight", unfollowed := true, recurses := true, apart := false, narrowed := true }
def ShapeRightUptoSaid : Prop := shapeRightUptoRow.holds Try.pinned (OpenSpec.upto shapeRightSpec)

/-- 'davitlaw02.ShapeCopies', WHERE WHAT IT READS IS OF BULK AT MOST 1048576: true; the input reads as it did. -/
def shapeCopiesUptoRow : OpenClaim := { program := "ytbfialebaoeicaa", sum := "fa5c569a794dc9c206ef8e418d74ff20edc0f09d5f1ef4e8f78237b817e67b51", func := "davit/davitlaw02.ShapeCopies", spec := "shapeCopies", unfollowed := true, recurses := true, apart := false, narrowed := true }
def ShapeCopiesUptoSaid : Prop := shapeCopiesUptoRow.holds Try.pinned (OpenSpec.upto shapeCopiesSpec)

/-- 'davitlaw02.ShapeNames', WHERE WHAT IT READS IS OF BULK AT MOST 1048576: true; the input reads as it did. -/
def shapeNamesUptoRow : OpenClaim := { program := "ytbfialebaoeicaa", sum := "fa5c569a794dc9c206ef8e418d74ff20edc0f09d5f1ef4e8f78237b817e67b51", func := "davit/davitlaw02.ShapeNames", spec := "shapeNames", unfollowed := true, recurses := true, apart := false, narrowed := true }
def ShapeNamesUptoSaid : Prop := shapeNamesUptoRow.holds Try.pinned (OpenSpec.upto shapeNamesSpec)

/-- 'davitlaw05.FrameOne', WHERE WHAT IT READS IS OF BULK AT MOST 1048576: true; the input reads as it did. -/
def frameOneUptoRow : OpenClaim := { program := "ytbfialebaoeicaa", sum := "fa5c569a794dc9c206ef8e418d74ff20edc0f09d5f1ef4e8f78237b817e67b51", func := "davit/davitlaw05.FrameOne", spec := "frameOne", unfollowed := true, recurses := true, apart := false, narrowed := true }
def FrameOneUptoSaid : Prop := frameOneUptoRow.holds Try.pinned (OpenSpec.upto frameOneSpec)

/-- 'davitlaw05.FrameReckons', WHERE WHAT IT READS IS OF BULK AT MOST 1048576: true; the input reads as it did. -/
def frameReckonsUptoRow : OpenClaim := { program := "ytbfialebaoeicaa", sum := "fa5c569a794dc9c206ef8e418d74ff20edc0f09d5f1ef4e8f78237b817e67b51", func := "davit/davitlaw05.FrameReckons", spec := "frameReckons", unfollowed := true, recurses := true, apart := false, narrowed := true }
def FrameReckonsUptoSaid : Prop := frameReckonsUptoRow.holds Try.pinned (OpenSpec.upto frameReckonsSpec)

/-- 'davitlaw05.FrameRight', WHERE WHAT IT READS IS OF BULK AT MOST 1048576: true; the input reads as it did. -/
def frameRightUptoRow : OpenClaim := { program := "ytbfialebaoeicaa", sum := "fa5c569a794dc9c206ef8e418d74ff20edc0f09d5f1ef4e8f78237b817e67b51", func := "davit/davitlaw05.FrameRight", spec := "frameRight", unfollowed := true, recurses := true, apart := false, narrowed := true }
def FrameRightUptoSaid : Prop := frameRightUptoRow.holds Try.pinned (OpenSpec.upto frameRightSpec)

/-- 'davitlaw05.FrameLands', WHERE WHAT IT READS IS OF BULK AT MOST 1048576: true; the input reads as it did. -/
def frameLandsUptoRow : OpenClaim := { program := "ytbfialebaoeicaa", sum := "fa5c569a794dc9c206ef8e418d74ff20edc0f09d5f1ef4e8f78237b817e67b51", func := "davit/davitlaw05.FrameLands", spec := "frameLands", unfollowed := true, recurses := true, apart := false, narrowed := true }
def FrameLandsUptoSaid : Prop := frameLandsUptoRow.holds Try.pinned (OpenSpec.upto frameLandsSpec)

/-- 'davitlaw15.PadsRight', WHERE WHAT IT READS IS OF BULK AT MOST 1048576: true; the input reads as it did. -/
def padsRightUptoRow : OpenClaim := { program := "ytbfialebaoeicaa", sum := "fa5c569a794dc9c206ef8e418d74ff20edc0f09d5f1ef4e8f78237b817e67b51", func := "davit/davitlaw15.PadsRight", spec := "padsRight", unfollowed := true, recurses := true, apart := false, narrowed := true }
def PadsRightUptoSaid : Prop := padsRightUptoRow.holds Try.pinned (OpenSpec.upto padsRightSpec)

/-- 'davitlaw15.PadsKeep', WHERE WHAT IT READS IS OF BULK AT MOST 1048576: true; the input reads as it did. -/
def padsKeepUptoRow : OpenClaim := { program := "ytbfialebaoeicaa", sum := "fa5c569a794dc9c206ef8e418d74ff20edc0f09d5f1ef4e8f78237b817e67b51", func := "davit/davitlaw15.PadsKeep", spec := "padsKeep", unfollowed := true, recurses := true, apart := false, narrowed := true }
def PadsKeepUptoSaid : Prop := padsKeepUptoRow.holds Try.pinned (OpenSpec.upto padsKeepSpec)

/-- 'davitlaw15.PadsCount', WHERE WHAT IT READS IS OF BULK AT MOST 1048576: true; the input reads as it did. -/
def padsCountUptoRow : OpenClaim := { program := "ytbfialebaoeicaa", sum := "fa5c569a794dc9c206ef8e418d74ff20edc0f09d5f1ef4e8f78237b817e67b51", func := "davit/davitlaw15.PadsCount", spec := "padsCount", unfollowed := true, recurses := true, apart := false, narrowed := true }
def PadsCountUptoSaid : Prop := padsCountUptoRow.holds Try.pinned (OpenSpec.upto padsCountSpec)

/-- 'davitlaw15.PadsCatch', WHERE WHAT IT READS IS OF BULK AT MOST 1048576: true; the input reads as it did. -/
def padsCatchUptoRow : OpenClaim := { program := "ytbfialebaoeicaa", sum := "fa5c569a794dc9c206ef8e418d74ff20edc0f09d5f1ef4e8f78237b817e67b51", func := "davit/davitlaw15.PadsCatch", spec := "padsCatch", unfollowed := true, recurses := true, apart := false, narrowed := true }
def PadsCatchUptoSaid : Prop := padsCatchUptoRow.holds Try.pinned (OpenSpec.upto padsCatchSpec)

end Rows
end Go.Proofs.Ytbfialebaoeicaa
