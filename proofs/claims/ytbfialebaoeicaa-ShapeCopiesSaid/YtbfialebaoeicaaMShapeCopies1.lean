/- Part 2 of the proof of the statement ShapeCopies: the words of the walks, the walks through the functions that it reaches, and the plain laws of what they compute. -/
import Derived.Test.YtbfialebaoeicaaMShapeCopies0
import Derived.RegionTactic
import Derived.ChangeAlike
import Derived.Deep.QuietTactic
import Derived.BigQuiet
import Derived.StillTailTactics
namespace Go.Proofs.Ytbfialebaoeicaa.X
open Go.RowKit Go.Proofs.YtbfialebaoeicaaW.PrintWords Go.Proofs.YtbfialebaoeicaaW.PrintLast Go.Proofs.YtbfialebaoeicaaW.PrintMore
set_option linter.all false
structure BndF (f : S27) : Prop where
 nb : f.f2.length ≤ 1000000
 ni : ∀ b ∈ f.f2, b.f2.length ≤ 1000000
 nc : ∀ b ∈ f.f2, b.f1.f1.length ≤ 20
 ne : ∀ b ∈ f.f2, b.f3.f4.length ≤ 1000000
 na : ∀ b ∈ f.f2, ∀ x ∈ b.f2, x.f6.length ≤ 1000000
structure Bnd (m : List S27) : Prop where
 nf : m.length ≤ 1000000
 f : ∀ f ∈ m, BndF f
theorem first_B {w : World} {A : Option Addr} {n : Nat} {xs : List S41} (h : Kd.C k41 w A n xs) (h1 : 0 < n) : ∃ ad, A = some ad ∧ w.cell? ad = some (.bool (rd_T41 xs 0).f0) := by
 obtain ⟨ad, _, _, _, _, _, _, e, hx, _⟩ := at_T41 h 0 (by omega) (by omega)
 refine ⟨ad, e, ?_⟩
 rw [show ((0 : Int)).toNat = 0 from rfl, show 0 * 14 = 0 from rfl, Addr.add_zero'] at hx
 exact hx
theorem first_F {w : World} {A : Option Addr} {n : Nat} {xs : List S27} (h : Kd.C k27 w A n xs) (h1 : 0 < n) : ∃ ad, A = some ad ∧ w.cell? ad = some (.int .i64 (rd_T27 xs 0).f0) := by
 obtain ⟨ad, _, _, e, hx, _⟩ := at_T27 h 0 (by omega) (by omega)
 refine ⟨ad, e, ?_⟩
 rw [show ((0 : Int)).toNat = 0 from rfl, show 0 * 3 = 0 from rfl, Addr.add_zero'] at hx
 exact hx
theorem rd_mem' {α : Type} (l : List α) (z : α) (x : Int) (h0 : 0 ≤ x) (h1 : x < (l.length : Int)) : l.getD x.toNat z ∈ l := by
 have hl : x.toNat < l.length := by omega
 rw [List.getD_eq_getElem?_getD, List.getElem?_eq_getElem hl]
 exact List.getElem_mem hl
end Go.Proofs.Ytbfialebaoeicaa.X
