/- Part 26 of the proof of the statement PadsRight: the words of the walks, the walks through the functions that it reaches, and the plain laws of what they compute. -/
import Derived.Test.YtbfialebaoeicaaMPadsRight24
import Derived.RegionTactic
import Derived.ChangeAlike
import Derived.Deep.QuietTactic
import Derived.BigQuiet
namespace Go.Proofs.Ytbfialebaoeicaa.X
open Go.RowKit Go.Proofs.YtbfialebaoeicaaW.PrintWords Go.Proofs.YtbfialebaoeicaaW.PrintLast Go.Proofs.YtbfialebaoeicaaW.PrintMore
set_option linter.all false
def blockE (a b : S41) : Bool := (a.f0 == b.f0) && padE a.f1 b.f1 && eqL insE a.f2 b.f2 && endE a.f3 b.f3
def funcE (a b : S27) : Bool := (a.f0 == b.f0) && (a.f1 == b.f1) && eqL blockE a.f2 b.f2
structure BndB (b : S41) : Prop where
 ni : b.f2.length ≤ 1000000
 nc : b.f1.f1.length ≤ 1000000
 ne : b.f3.f4.length ≤ 1000000
 na : ∀ x ∈ b.f2, x.f6.length ≤ 1000000
theorem BndF.b {f : S27} (h : BndF f) : ∀ b ∈ f.f2, BndB b := fun b hb => ⟨h.ni b hb, by have := h.nc b hb; omega, h.ne b hb, h.na b hb⟩
end Go.Proofs.Ytbfialebaoeicaa.X
