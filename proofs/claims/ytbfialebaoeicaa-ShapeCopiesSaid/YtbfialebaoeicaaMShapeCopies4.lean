/- Part 5 of the proof of the statement ShapeCopies: the words of the walks, the walks through the functions that it reaches, and the plain laws of what they compute. -/
import Derived.Test.YtbfialebaoeicaaMShapeCopies3
import Derived.RegionTactic
import Derived.ChangeAlike
import Derived.Deep.QuietTactic
import Derived.BigQuiet
import Derived.Deep.MidRow
namespace Go.Proofs.Ytbfialebaoeicaa.X
open Go.RowKit Go.Proofs.YtbfialebaoeicaaW.PrintWords Go.Proofs.YtbfialebaoeicaaW.PrintLast Go.Proofs.YtbfialebaoeicaaW.PrintMore
set_option linter.all false
def putL (cs : Array Value) (o : Nat) : List Value → Array Value
 | [] => cs
 | v :: r => putL (cs.setIfInBounds o v) (o + 1) r
theorem setL_blk {g : Nat} {t : TypeId} : ∀ (l : List Value) (o : Nat) {w : World} {cs cs' : Array Value} (h : w.heap[g]? = some (.cells cs t (0, 0))) (e : putL cs o l = cs'), (w.setCells g o l).heap[g]? = some (.cells cs' t (0, 0))
 | [], o, w, cs, cs', h, e => by rw [← e]; exact h
 | v :: r, o, w, cs, cs', h, e => setL_blk r (o + 1) (w := w.setCell ⟨g, o, none⟩ v) (blk_set h o v) e
theorem setL_far {w : World} {g k : Nat} {x : Obj} (h : w.heap[k]? = some x) (hk : k ≠ g) (l : List Value) (o : Nat) : (w.setCells g o l).heap[k]? = some x := (setCells_far l o k hk).trans h
theorem setL_below {B : Nat} {w W : World} (h : Below B w W) {g : Nat} (hg : B ≤ g) (o : Nat) (l : List Value) : Below B w (W.setCells g o l) := by
 obtain ⟨h1, h2, h3, h4⟩ := setCells_same g l o W
 exact ⟨h1.trans h.os, h2.trans h.tape, h3.trans h.output, by rw [h4]; exact h.size, fun i hi => (setCells_far l o i (by omega)).trans (h.block i hi)⟩
theorem there_blk {w : World} {g : Nat} {t : TypeId} {cs : Array Value} (h : w.heap[g]? = some (.cells cs t (0, 0))) (o n : Nat) (hn : o + n ≤ cs.size) : w.there g o n := by
 intro j hj
 refine ⟨?_, blk_frozen h _⟩
 rw [blk_cell h, Array.getElem?_eq_getElem (by omega)]
 rfl
end Go.Proofs.Ytbfialebaoeicaa.X
