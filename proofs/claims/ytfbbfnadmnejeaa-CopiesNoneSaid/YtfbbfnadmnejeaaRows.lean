/-
  No cell of these rows narrows 'for every input' (looked for: loops, veiled, ifaces, maps, wideKeys, modest, calm, conditions, laid).
  DERIVED. THE GIVEN ROWS OF THIS SEAT. 3 by the template 'for every input the law returns true; each argument reads behind the call as it read before'; 0 by the template 'total and deterministic' (their statements: YtfbbfnadmnejeaaTotals.lean).
  GIVEN WITH THE SEED: the statements are not yours to turn. If you find one false, say at which input.
  Laid BY PROGRAM, IN A SANDBOX (cutbox-rows.mjs): the forced cells as the released guide's own fill.sh prints them over the translation 1db3c363a1deb605… (all of the seat's roots in one cut). By AI agents, Wed Nov 11 2026. No macro, syntax, notation, axiom, sorry.
-/
import Derived.Test.YtfbbfnadmnejeaaChecked
import GoSem.Claim
import GoSem.ClaimJoined
import GoSem.ClaimMapViews
import Derived.JoinedTies
import Derived.KernelRfl
namespace Go.Proofs.Ytfbbfnadmnejeaa
/- THE CELL 'sum', in the pinned program and in every row, IS THE sha256 OF THE DUMP (.gsa) THAT YtfbbfnadmnejeaaProg.lean LOADS. Nothing in Lean hashes anything: it is a label: what it is worth is what the hold of that sum in a sandbox is worth. -/
noncomputable def Try.pinned : Pinned := { name := "ytfbbfnadmnejeaa", sum := "1db3c363a1deb605166000d63bfe1cbe0a4dc3ddf08ffc0b2bb928e2728b4577", checked := Try.checked }
namespace Rows
def none {H : Type} : Left H := { results := [], args := [] }

/-- 'davitlaw20.CopiesRight': WHATEVER THE INPUT: true; the input reads as it did. -/
def copiesRightSpec : ChangeSpec := { name := "copiesRight", fn := fun _ => fun
  | [d1, d2] => { results := [.lit (.bool true)], args := [d1, d2] }
  | _ => none }
def copiesRightRow : OpenClaim := { program := "ytfbbfnadmnejeaa", sum := "1db3c363a1deb605166000d63bfe1cbe0a4dc3ddf08ffc0b2bb928e2728b4577", func := "davit/davitlaw20.CopiesRight", spec := "copiesRight", unfollowed := true, recurses := true, apart := false }
def CopiesRightSaid : Prop := copiesRightRow.holds Try.pinned (OpenSpec.ofChange copiesRightSpec)

/-- ITS FALSE NEIGHBOUR: 'it returns false'. Refute it at one input. -/
def copiesRightWrong : ChangeSpec := { name := "copiesRight", fn := fun _ => fun
  | [d1, d2] => { results := [.lit (.bool false)], args := [d1, d2] }
  | _ => none }
def CopiesRightWrongFalsely : Prop := copiesRightRow.holds Try.pinned (OpenSpec.ofChange copiesRightWrong)

/-- 'davitlaw20.CopiesRow': WHATEVER THE INPUT: true; the input reads as it did. -/
def copiesRowSpec : ChangeSpec := { name := "copiesRow", fn := fun _ => fun
  | [d1, d2, d3] => { results := [.lit (.bool true)], args := [d1, d2, d3] }
  | _ => none }
def copiesRowRow : OpenClaim := { program := "ytfbbfnadmnejeaa", sum := "1db3c363a1deb605166000d63bfe1cbe0a4dc3ddf08ffc0b2bb928e2728b4577", func := "davit/davitlaw20.CopiesRow", spec := "copiesRow", unfollowed := true, recurses := true, apart := false }
def CopiesRowSaid : Prop := copiesRowRow.holds Try.pinned (OpenSpec.ofChange copiesRowSpec)

/-- ITS FALSE NEIGHBOUR: 'it returns false'. Refute it at one input. -/
def copiesRowWrong : ChangeSpec := { name := "copiesRow", fn := fun _ => fun
  | [d1, d2, d3] => { results := [.lit (.bool false)], args := [d1, d2, d3] }
  | _ => none }
def CopiesRowWrongFalsely : Prop := copiesRowRow.holds Try.pinned (OpenSpec.ofChange copiesRowWrong)

/-- 'davitlaw20.CopiesNone': WHATEVER THE INPUT: true; the input reads as it did. -/
def copiesNoneSpec : ChangeSpec := { name := "copiesNone", fn := fun _ => fun
  | [d1, d2] => { results := [.lit (.bool true)], args := [d1, d2] }
  | _ => none }
def copiesNoneRow : OpenClaim := { program := "ytfbbfnadmnejeaa", sum := "1db3c363a1deb605166000d63bfe1cbe0a4dc3ddf08ffc0b2bb928e2728b4577", func := "davit/davitlaw20.CopiesNone", spec := "copiesNone", unfollowed := true, recurses := true, apart := false }
def CopiesNoneSaid : Prop := copiesNoneRow.holds Try.pinned (OpenSpec.ofChange copiesNoneSpec)

/-- ITS FALSE NEIGHBOUR: 'it returns false'. Refute it at one input. -/
def copiesNoneWrong : ChangeSpec := { name := "copiesNone", fn := fun _ => fun
  | [d1, d2] => { results := [.lit (.bool false)], args := [d1, d2] }
  | _ => none }
def CopiesNoneWrongFalsely : Prop := copiesNoneRow.holds Try.pinned (OpenSpec.ofChange copiesNoneWrong)

/- THE SECOND FORM. 'bulk': how many values and letters a reading holds, each counted each time it is reached (what is shared counts as often as it is met; a slice's spare places count too). A statement '..UptoSaid' is the law's where the arguments, and the package variables that the reading takes, are together of bulk at most 1048576: NARROWER than '..Said'. Prove '..Said' where nothing that the law and all that it calls make is longer than what came in: it says more and counts as full. Else prove '..UptoSaid'. A law counts once. -/
mutual
def uptoBulk {H : Type} : DataW H → Nat
  | .lit (.string bytes) => bytes.length + 1
  | .lit _ => 1
  | .nil => 1
  | .ptr d => uptoBulk d + 1
  | .slice elems spare => uptoBulkAll elems + uptoBulkAll spare + 1
  | .agg parts => uptoBulkAll parts + 1
  | .iface _ d => uptoBulk d + 1
  | .map entries => uptoBulkEntries entries + 1
  | .held _ => 1
def uptoBulkAll {H : Type} : List (DataW H) → Nat
  | [] => 0
  | d :: r => uptoBulk d + uptoBulkAll r
def uptoBulkEntries {H : Type} : List (Lit × DataW H) → Nat
  | [] => 0
  | x :: r => uptoBulkEntry x + uptoBulkEntries r
def uptoBulkEntry {H : Type} : Lit × DataW H → Nat
  | (.string bytes, d) => bytes.length + uptoBulk d + 1
  | (_, d) => uptoBulk d + 1
 end
def uptoSmall : (H : Type) → List (DataW H) → Bool := fun _ ds => decide (uptoBulkAll ds ≤ 1048576)
def OpenSpec.upto (s : _root_.Go.ChangeSpec) : _root_.Go.OpenSpec := { _root_.Go.OpenSpec.ofChange s with cond := some uptoSmall }

/-- 'davitlaw20.CopiesRight', WHERE WHAT IT READS IS OF BULK AT MOST 1048576: true; the input reads as it did. -/
def copiesRightUptoRow : OpenClaim := { program := "ytfbbfnadmnejeaa", sum := "1db3c363a1deb605166000d63bfe1cbe0a4dc3ddf08ffc0b2bb928e2728b4577", func := "davit/davitlaw20.CopiesRight", spec := "copiesRight", unfollowed := true, recurses := true, apart := false, narrowed := true }
def CopiesRightUptoSaid : Prop := copiesRightUptoRow.holds Try.pinned (OpenSpec.upto copiesRightSpec)

/-- 'davitlaw20.CopiesRow', WHERE WHAT IT READS IS OF BULK AT MOST 1048576: true; the input reads as it did. -/
def copiesRowUptoRow : OpenClaim := { program := "ytfbbfnadmnejeaa", sum := "1db3c363a1deb605166000d63bfe1cbe0a4dc3ddf08ffc0b2bb928e2728b4577", func := "davit/davitlaw20.CopiesRow", spec := "copiesRow", unfollowed := true, recurses := true, apart := false, narrowed := true }
def CopiesRowUptoSaid : Prop := copiesRowUptoRow.holds Try.pinned (OpenSpec.upto copiesRowSpec)

/-- 'davitlaw20.CopiesNone', WHERE WHAT IT READS IS OF BULK AT MOST 1048576: true; the input reads as it did. -/
def copiesNoneUptoRow : OpenClaim := { program := "ytfbbfnadmnejeaa", sum := "1db3c363a1deb605166000d63bfe1cbe0a4dc3ddf08ffc0b2bb928e2728b4577", func := "davit/davitlaw20.CopiesNone", spec := "copiesNone", unfollowed := true, recurses := true, apart := false, narrowed := true }
def CopiesNoneUptoSaid : Prop := copiesNoneUptoRow.holds Try.pinned (OpenSpec.upto copiesNoneSpec)

end Rows
end Go.Proofs.Ytfbbfnadmnejeaa
