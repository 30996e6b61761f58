/- Part 25 of the proof of the statement PadsRight: the words of the walks, the walks through the functions that it reaches, and the plain laws of what they compute. -/
import Derived.Test.YtbfialebaoeicaaMPadsRight23
import Derived.RegionTactic
import Derived.WalkSpells
import Derived.Shelf.Abstract
import Derived.Lib.SliceRun
import Derived.ChangeAlike
import Derived.Deep.QuietTactic
import Derived.BigQuiet
namespace Go.Proofs.Ytbfialebaoeicaa.X
open Go.RowKit Go.Proofs.YtbfialebaoeicaaW.PrintWords Go.Proofs.YtbfialebaoeicaaW.PrintLast Go.Proofs.YtbfialebaoeicaaW.PrintMore
set_option linter.all false
def eqL {α : Type} (q : α → α → Bool) : List α → List α → Bool
 | [], [] => true
 | x :: l, y :: r => q x y && eqL q l r
 | _, _ => false
theorem eqL_len {α : Type} (q : α → α → Bool) : ∀ (l r : List α), l.length ≠ r.length → eqL q l r = false
 | [], [], h => absurd rfl h
 | [], _ :: _, _ => rfl
 | _ :: _, [], _ => rfl
 | x :: l, y :: r, h => by
  unfold eqL
  rw [eqL_len q l r (fun e => h (by simp [e])), Bool.and_false]
theorem eqL_drop {α : Type} (q : α → α → Bool) (z : α) : ∀ (l r : List α) (x : Nat), x < l.length → x < r.length → eqL q (l.drop x) (r.drop x) = (q (l.getD x z) (r.getD x z) && eqL q (l.drop (x + 1)) (r.drop (x + 1)))
 | a :: l, b :: r, 0, _, _ => rfl
 | a :: l, b :: r, x + 1, h1, h2 => by
  have := eqL_drop q z l r x (by simpa using h1) (by simpa using h2)
  simpa using this
theorem eqL_step {α : Type} (q : α → α → Bool) (z : α) (l r : List α) (x : Int) (h0 : 0 ≤ x) (h1 : x < (l.length : Int)) (h2 : l.length = r.length) : eqL q (l.drop x.toNat) (r.drop x.toNat) = (q (l.getD x.toNat z) (r.getD x.toNat z) && eqL q (l.drop (x + 1).toNat) (r.drop (x + 1).toNat)) := by
 rw [show (x + 1).toNat = x.toNat + 1 by omega]
 exact eqL_drop q z l r x.toNat (by omega) (by omega)
theorem eqL_end {α : Type} (q : α → α → Bool) (l r : List α) (x : Int) (h1 : ¬ x < (l.length : Int)) (h2 : l.length = r.length) : eqL q (l.drop x.toNat) (r.drop x.toNat) = true := by
 rw [List.drop_eq_nil_of_le (by omega), List.drop_eq_nil_of_le (by omega)]
 rfl
end Go.Proofs.Ytbfialebaoeicaa.X
