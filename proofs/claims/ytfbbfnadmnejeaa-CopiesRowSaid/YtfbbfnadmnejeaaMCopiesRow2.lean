/- Part 3 of the proof of the statement CopiesRow: the words of the walks, the walks through the functions that it reaches, and the plain laws of what they compute. -/
import Derived.Test.YtfbbfnadmnejeaaMCopiesRow1
import Derived.Deep.Slices
import Derived.Lib.SmallJoins
import Derived.ChangeArms
import Derived.Test.YtfbbfnadmnejeaaRows
import Derived.WalkKit
import Derived.ProofKit
import Derived.OpenShut
import Derived.ShutString
import Derived.ChangeOld
import Derived.Below
import Derived.SizedLaws
import Derived.Carry
namespace Go.Proofs.Ytfbbfnadmnejeaa.X
open Go.RowKit Go.Proofs.YtfbbfnadmnejeaaW.PrintWords Go.Proofs.YtfbbfnadmnejeaaW.PrintLast Go.Proofs.YtfbbfnadmnejeaaW.PrintMore
attribute [local go_sem] max2_int min2_int max_two min_two max_three min_three max_four min_four
set_option linter.all false
noncomputable section
mutual
def davitlaw20_CopiesRow.j0 : Nat → List (S34) → Int → List Int → Bool → Option (Bool)
 | 0, _, _, _, _ => none
 | k + 1, x0, x1, x2, x26 => if x26 = true then (some true) else ((copies_Row.f k x0 x1).bind fun bt208 => ((davitref20_May.f k x0).bind fun t212 => (if t212 = true then (if x1 ≥ 0 then (davitlaw20_CopiesRow.j1 k x0 x1 x2 bt208.1 bt208.2 (decide (x1 ≤ 65535))) else (davitlaw20_CopiesRow.j1 k x0 x1 x2 bt208.1 bt208.2 false)) else (davitlaw20_CopiesRow.j1 k x0 x1 x2 bt208.1 bt208.2 false))))
def davitlaw20_CopiesRow.j1 : Nat → List (S34) → Int → List Int → List (S34) → Int → Bool → Option (Bool)
 | 0, _, _, _, _, _, _ => none
 | k + 1, x0, x1, x2, x7, x8, x9 => davitlaw20_CopiesRow.l0 k x0 x1 x2 x7 x8 x9 0
def davitlaw20_CopiesRow.l0 : Nat → List (S34) → Int → List Int → List (S34) → Int → Bool → Int → Option (Bool)
 | 0, _, _, _, _, _, _, _ => none
 | k + 1, x0, x1, x2, x7, x8, x9, x10 => if x10 < (x0.length : Int) then (if x9 = true then (if 0 ≤ x10 then (if ((rd_T34 x0 x10).f0) = x1 then (davitlaw20_CopiesRow.l0 k x0 x1 x2 x7 x8 false (wrap64 (x10 + 1))) else (davitlaw20_CopiesRow.l0 k x0 x1 x2 x7 x8 (((rd_T34 x0 x10).f1) != x1) (wrap64 (x10 + 1)))) else (none)) else (davitlaw20_CopiesRow.l0 k x0 x1 x2 x7 x8 false (wrap64 (x10 + 1)))) else (if x9 = true then (if x8 = 0 then ((davitref20_Real.f k x0).bind fun t215 => ((davitref20_Rings.f k x0).bind fun t216 => (davitlaw20_CopiesRow.j3 k x0 x1 x2 x7 ((x7.length : Int) != (wrap64 (t215 + t216)))))) else (davitlaw20_CopiesRow.j3 k x0 x1 x2 x7 true)) else (if x8 = 1 then (some ((x7.length : Int) == 0)) else (some false)))
def davitlaw20_CopiesRow.j3 : Nat → List (S34) → Int → List Int → List (S34) → Bool → Option (Bool)
 | 0, _, _, _, _, _ => none
 | k + 1, x0, x1, x2, x7, x88 => if x88 = true then (some false) else (davitlaw20_CopiesRow.l1 k x0 x1 x2 x7 0)
def davitlaw20_CopiesRow.l1 : Nat → List (S34) → Int → List Int → List (S34) → Int → Option (Bool)
 | 0, _, _, _, _, _ => none
 | k + 1, x0, x1, x2, x7, x11 => if x11 < (x0.length : Int) then (if 0 ≤ x11 then (if ((rd_T34 x0 x11).f0) ≥ 100 then (some true) else (if ((rd_T34 x0 x11).f1) ≥ 100 then (some true) else (davitlaw20_CopiesRow.l1 k x0 x1 x2 x7 (wrap64 (x11 + 1))))) else (none)) else (if x1 ≥ 100 then (some true) else (if 100 ≤ 140737488355328 then (davitlaw20_CopiesRow.l2 k x0 x1 x2 x7 (List.replicate 100 0) 0) else (none)))
def davitlaw20_CopiesRow.l2 : Nat → List (S34) → Int → List Int → List (S34) → List Int → Int → Option (Bool)
 | 0, _, _, _, _, _, _ => none
 | k + 1, x0, x1, x2, x7, x12, x13 => if x13 < (x12.length : Int) then (if 0 ≤ x13 then ((some (x12.set (x13 : Int).toNat (IntKind.u16.wrap (wrap64 (1000 + x13))) : List Int)).bind fun y222 => (if x13 < (x2.length : Int) then (davitlaw20_CopiesRow.l2 k x0 x1 x2 x7 (y222.set (x13 : Int).toNat (rd x2 x13)) (wrap64 (x13 + 1))) else (davitlaw20_CopiesRow.l2 k x0 x1 x2 x7 y222 (wrap64 (x13 + 1))))) else (none)) else ((davitref20_Made.f k x7 x12).bind fun t225 => ((davitref20_Once.f k x0 x12).bind fun t228 => (davitlaw20_CopiesRow.l3 k x1 x12 t225 t228 0)))
def davitlaw20_CopiesRow.l3 : Nat → Int → List Int → List Int → List Int → Int → Option (Bool)
 | 0, _, _, _, _, _ => none
 | k + 1, x1, x12, x14, x15, x16 => if x16 < (x12.length : Int) then (if x16 = x1 then (davitlaw20_CopiesRow.l3 k x1 x12 x14 x15 (wrap64 (x16 + 1))) else (if 0 ≤ x16 then (if x16 < (x14.length : Int) then (if x16 < (x15.length : Int) then (if (rd x14 x16) = (rd x15 x16) then (davitlaw20_CopiesRow.l3 k x1 x12 x14 x15 (wrap64 (x16 + 1))) else (some false)) else (none)) else (none)) else (none))) else (some true)
end
def davitlaw20_CopiesRow.f (k : Nat) (l0 : List (S34)) (a1 : Int) (l2 : List Int) : Option (Bool) := (davitlaw20_awake.f k).bind fun t207 => (if t207 = true then (if (l0.length : Int) > 80 then (davitlaw20_CopiesRow.j0 k l0 a1 l2 true) else (davitlaw20_CopiesRow.j0 k l0 a1 l2 (decide ((l2.length : Int) > 100)))) else (some false))
theorem davitlaw20_CopiesRow.mono_l : ∀ k, (∀ y0 y1 y2 y3, LeO (davitlaw20_CopiesRow.j0 k y0 y1 y2 y3) (davitlaw20_CopiesRow.j0 (k + 1) y0 y1 y2 y3)) ∧ (∀ y0 y1 y2 y3 y4 y5, LeO (davitlaw20_CopiesRow.j1 k y0 y1 y2 y3 y4 y5) (davitlaw20_CopiesRow.j1 (k + 1) y0 y1 y2 y3 y4 y5)) ∧ (∀ y0 y1 y2 y3 y4 y5 y6, LeO (davitlaw20_CopiesRow.l0 k y0 y1 y2 y3 y4 y5 y6) (davitlaw20_CopiesRow.l0 (k + 1) y0 y1 y2 y3 y4 y5 y6)) ∧ (∀ y0 y1 y2 y3 y4, LeO (davitlaw20_CopiesRow.j3 k y0 y1 y2 y3 y4) (davitlaw20_CopiesRow.j3 (k + 1) y0 y1 y2 y3 y4)) ∧ (∀ y0 y1 y2 y3 y4, LeO (davitlaw20_CopiesRow.l1 k y0 y1 y2 y3 y4) (davitlaw20_CopiesRow.l1 (k + 1) y0 y1 y2 y3 y4)) ∧ (∀ y0 y1 y2 y3 y4 y5, LeO (davitlaw20_CopiesRow.l2 k y0 y1 y2 y3 y4 y5) (davitlaw20_CopiesRow.l2 (k + 1) y0 y1 y2 y3 y4 y5)) ∧ (∀ y0 y1 y2 y3 y4, LeO (davitlaw20_CopiesRow.l3 k y0 y1 y2 y3 y4) (davitlaw20_CopiesRow.l3 (k + 1) y0 y1 y2 y3 y4))
 | 0 => ⟨fun _ _ _ _ r h => by simp [davitlaw20_CopiesRow.j0] at h, fun _ _ _ _ _ _ r h => by simp [davitlaw20_CopiesRow.j1] at h, fun _ _ _ _ _ _ _ r h => by simp [davitlaw20_CopiesRow.l0] at h, fun _ _ _ _ _ r h => by simp [davitlaw20_CopiesRow.j3] at h, fun _ _ _ _ _ r h => by simp [davitlaw20_CopiesRow.l1] at h, fun _ _ _ _ _ _ r h => by simp [davitlaw20_CopiesRow.l2] at h, fun _ _ _ _ _ r h => by simp [davitlaw20_CopiesRow.l3] at h⟩
 | k + 1 => by
  obtain ⟨ih0, ih1, ih2, ih3, ih4, ih5, ih6⟩ := davitlaw20_CopiesRow.mono_l k
  refine ⟨?_, ?_, ?_, ?_, ?_, ?_, ?_⟩
  ·intro y0 y1 y2 y3
   unfold davitlaw20_CopiesRow.j0
   repeat' first
   | (with_reducible exact ih0 _ _ _ _)
   | (with_reducible exact ih1 _ _ _ _ _ _)
   | (with_reducible exact ih2 _ _ _ _ _ _ _)
   | (with_reducible exact ih3 _ _ _ _ _)
   | (with_reducible exact ih4 _ _ _ _ _)
   | (with_reducible exact ih5 _ _ _ _ _ _)
   | (with_reducible exact ih6 _ _ _ _ _)
   | (with_reducible exact copies_Row.mono _ _ _)
   | (with_reducible exact davitlaw20_awake.mono _)
   | (with_reducible exact davitref20_Made.mono _ _ _)
   | (with_reducible exact davitref20_May.mono _ _)
   | (with_reducible exact davitref20_Once.mono _ _ _)
   | (with_reducible exact davitref20_Real.mono _ _)
   | (with_reducible exact davitref20_Rings.mono _ _)
   | (with_reducible exact LeO.refl _)
   | (with_reducible exact LeO.none _)
   | (with_reducible refine LeO.ite ?_ ?_)
   | (with_reducible refine LeO.bind ?_ (fun _ => ?_))
   | exact ih0 _ _ _ _
   | exact ih1 _ _ _ _ _ _
   | exact ih2 _ _ _ _ _ _ _
   | exact ih3 _ _ _ _ _
   | exact ih4 _ _ _ _ _
   | exact ih5 _ _ _ _ _ _
   | exact ih6 _ _ _ _ _
   | exact copies_Row.mono _ _ _
   | exact davitlaw20_awake.mono _
   | exact davitref20_Made.mono _ _ _
   | exact davitref20_May.mono _ _
   | exact davitref20_Once.mono _ _ _
   | exact davitref20_Real.mono _ _
   | exact davitref20_Rings.mono _ _
   | exact LeO.none _
   | refine LeO.ite ?_ ?_
   | refine LeO.bind ?_ (fun _ => ?_)
  ·intro y0 y1 y2 y3 y4 y5
   unfold davitlaw20_CopiesRow.j1
   repeat' first
   | (with_reducible exact ih0 _ _ _ _)
   | (with_reducible exact ih1 _ _ _ _ _ _)
   | (with_reducible exact ih2 _ _ _ _ _ _ _)
   | (with_reducible exact ih3 _ _ _ _ _)
   | (with_reducible exact ih4 _ _ _ _ _)
   | (with_reducible exact ih5 _ _ _ _ _ _)
   | (with_reducible exact ih6 _ _ _ _ _)
   | (with_reducible exact copies_Row.mono _ _ _)
   | (with_reducible exact davitlaw20_awake.mono _)
   | (with_reducible exact davitref20_Made.mono _ _ _)
   | (with_reducible exact davitref20_May.mono _ _)
   | (with_reducible exact davitref20_Once.mono _ _ _)
   | (with_reducible exact davitref20_Real.mono _ _)
   | (with_reducible exact davitref20_Rings.mono _ _)
   | (with_reducible exact LeO.refl _)
   | (with_reducible exact LeO.none _)
   | (with_reducible refine LeO.ite ?_ ?_)
   | (with_reducible refine LeO.bind ?_ (fun _ => ?_))
   | exact ih0 _ _ _ _
   | exact ih1 _ _ _ _ _ _
   | exact ih2 _ _ _ _ _ _ _
   | exact ih3 _ _ _ _ _
   | exact ih4 _ _ _ _ _
   | exact ih5 _ _ _ _ _ _
   | exact ih6 _ _ _ _ _
   | exact copies_Row.mono _ _ _
   | exact davitlaw20_awake.mono _
   | exact davitref20_Made.mono _ _ _
   | exact davitref20_May.mono _ _
   | exact davitref20_Once.mono _ _ _
   | exact davitref20_Real.mono _ _
   | exact davitref20_Rings.mono _ _
   | exact LeO.none _
   | refine LeO.ite ?_ ?_
   | refine LeO.bind ?_ (fun _ => ?_)
  ·intro y0 y1 y2 y3 y4 y5 y6
   unfold davitlaw20_CopiesRow.l0
   repeat' first
   | (with_reducible exact ih0 _ _ _ _)
   | (with_reducible exact ih1 _ _ _ _ _ _)
   | (with_reducible exact ih2 _ _ _ _ _ _ _)
   | (with_reducible exact ih3 _ _ _ _ _)
   | (with_reducible exact ih4 _ _ _ _ _)
   | (with_reducible exact ih5 _ _ _ _ _ _)
   | (with_reducible exact ih6 _ _ _ _ _)
   | (with_reducible exact copies_Row.mono _ _ _)
   | (with_reducible exact davitlaw20_awake.mono _)
   | (with_reducible exact davitref20_Made.mono _ _ _)
   | (with_reducible exact davitref20_May.mono _ _)
   | (with_reducible exact davitref20_Once.mono _ _ _)
   | (with_reducible exact davitref20_Real.mono _ _)
   | (with_reducible exact davitref20_Rings.mono _ _)
   | (with_reducible exact LeO.refl _)
   | (with_reducible exact LeO.none _)
   | (with_reducible refine LeO.ite ?_ ?_)
   | (with_reducible refine LeO.bind ?_ (fun _ => ?_))
   | exact ih0 _ _ _ _
   | exact ih1 _ _ _ _ _ _
   | exact ih2 _ _ _ _ _ _ _
   | exact ih3 _ _ _ _ _
   | exact ih4 _ _ _ _ _
   | exact ih5 _ _ _ _ _ _
   | exact ih6 _ _ _ _ _
   | exact copies_Row.mono _ _ _
   | exact davitlaw20_awake.mono _
   | exact davitref20_Made.mono _ _ _
   | exact davitref20_May.mono _ _
   | exact davitref20_Once.mono _ _ _
   | exact davitref20_Real.mono _ _
   | exact davitref20_Rings.mono _ _
   | exact LeO.none _
   | refine LeO.ite ?_ ?_
   | refine LeO.bind ?_ (fun _ => ?_)
  ·intro y0 y1 y2 y3 y4
   unfold davitlaw20_CopiesRow.j3
   repeat' first
   | (with_reducible exact ih0 _ _ _ _)
   | (with_reducible exact ih1 _ _ _ _ _ _)
   | (with_reducible exact ih2 _ _ _ _ _ _ _)
   | (with_reducible exact ih3 _ _ _ _ _)
   | (with_reducible exact ih4 _ _ _ _ _)
   | (with_reducible exact ih5 _ _ _ _ _ _)
   | (with_reducible exact ih6 _ _ _ _ _)
   | (with_reducible exact copies_Row.mono _ _ _)
   | (with_reducible exact davitlaw20_awake.mono _)
   | (with_reducible exact davitref20_Made.mono _ _ _)
   | (with_reducible exact davitref20_May.mono _ _)
   | (with_reducible exact davitref20_Once.mono _ _ _)
   | (with_reducible exact davitref20_Real.mono _ _)
   | (with_reducible exact davitref20_Rings.mono _ _)
   | (with_reducible exact LeO.refl _)
   | (with_reducible exact LeO.none _)
   | (with_reducible refine LeO.ite ?_ ?_)
   | (with_reducible refine LeO.bind ?_ (fun _ => ?_))
   | exact ih0 _ _ _ _
   | exact ih1 _ _ _ _ _ _
   | exact ih2 _ _ _ _ _ _ _
   | exact ih3 _ _ _ _ _
   | exact ih4 _ _ _ _ _
   | exact ih5 _ _ _ _ _ _
   | exact ih6 _ _ _ _ _
   | exact copies_Row.mono _ _ _
   | exact davitlaw20_awake.mono _
   | exact davitref20_Made.mono _ _ _
   | exact davitref20_May.mono _ _
   | exact davitref20_Once.mono _ _ _
   | exact davitref20_Real.mono _ _
   | exact davitref20_Rings.mono _ _
   | exact LeO.none _
   | refine LeO.ite ?_ ?_
   | refine LeO.bind ?_ (fun _ => ?_)
  ·intro y0 y1 y2 y3 y4
   unfold davitlaw20_CopiesRow.l1
   repeat' first
   | (with_reducible exact ih0 _ _ _ _)
   | (with_reducible exact ih1 _ _ _ _ _ _)
   | (with_reducible exact ih2 _ _ _ _ _ _ _)
   | (with_reducible exact ih3 _ _ _ _ _)
   | (with_reducible exact ih4 _ _ _ _ _)
   | (with_reducible exact ih5 _ _ _ _ _ _)
   | (with_reducible exact ih6 _ _ _ _ _)
   | (with_reducible exact copies_Row.mono _ _ _)
   | (with_reducible exact davitlaw20_awake.mono _)
   | (with_reducible exact davitref20_Made.mono _ _ _)
   | (with_reducible exact davitref20_May.mono _ _)
   | (with_reducible exact davitref20_Once.mono _ _ _)
   | (with_reducible exact davitref20_Real.mono _ _)
   | (with_reducible exact davitref20_Rings.mono _ _)
   | (with_reducible exact LeO.refl _)
   | (with_reducible exact LeO.none _)
   | (with_reducible refine LeO.ite ?_ ?_)
   | (with_reducible refine LeO.bind ?_ (fun _ => ?_))
   | exact ih0 _ _ _ _
   | exact ih1 _ _ _ _ _ _
   | exact ih2 _ _ _ _ _ _ _
   | exact ih3 _ _ _ _ _
   | exact ih4 _ _ _ _ _
   | exact ih5 _ _ _ _ _ _
   | exact ih6 _ _ _ _ _
   | exact copies_Row.mono _ _ _
   | exact davitlaw20_awake.mono _
   | exact davitref20_Made.mono _ _ _
   | exact davitref20_May.mono _ _
   | exact davitref20_Once.mono _ _ _
   | exact davitref20_Real.mono _ _
   | exact davitref20_Rings.mono _ _
   | exact LeO.none _
   | refine LeO.ite ?_ ?_
   | refine LeO.bind ?_ (fun _ => ?_)
  ·intro y0 y1 y2 y3 y4 y5
   unfold davitlaw20_CopiesRow.l2
   repeat' first
   | (with_reducible exact ih0 _ _ _ _)
   | (with_reducible exact ih1 _ _ _ _ _ _)
   | (with_reducible exact ih2 _ _ _ _ _ _ _)
   | (with_reducible exact ih3 _ _ _ _ _)
   | (with_reducible exact ih4 _ _ _ _ _)
   | (with_reducible exact ih5 _ _ _ _ _ _)
   | (with_reducible exact ih6 _ _ _ _ _)
   | (with_reducible exact copies_Row.mono _ _ _)
   | (with_reducible exact davitlaw20_awake.mono _)
   | (with_reducible exact davitref20_Made.mono _ _ _)
   | (with_reducible exact davitref20_May.mono _ _)
   | (with_reducible exact davitref20_Once.mono _ _ _)
   | (with_reducible exact davitref20_Real.mono _ _)
   | (with_reducible exact davitref20_Rings.mono _ _)
   | (with_reducible exact LeO.refl _)
   | (with_reducible exact LeO.none _)
   | (with_reducible refine LeO.ite ?_ ?_)
   | (with_reducible refine LeO.bind ?_ (fun _ => ?_))
   | exact ih0 _ _ _ _
   | exact ih1 _ _ _ _ _ _
   | exact ih2 _ _ _ _ _ _ _
   | exact ih3 _ _ _ _ _
   | exact ih4 _ _ _ _ _
   | exact ih5 _ _ _ _ _ _
   | exact ih6 _ _ _ _ _
   | exact copies_Row.mono _ _ _
   | exact davitlaw20_awake.mono _
   | exact davitref20_Made.mono _ _ _
   | exact davitref20_May.mono _ _
   | exact davitref20_Once.mono _ _ _
   | exact davitref20_Real.mono _ _
   | exact davitref20_Rings.mono _ _
   | exact LeO.none _
   | refine LeO.ite ?_ ?_
   | refine LeO.bind ?_ (fun _ => ?_)
  ·intro y0 y1 y2 y3 y4
   unfold davitlaw20_CopiesRow.l3
   repeat' first
   | (with_reducible exact ih0 _ _ _ _)
   | (with_reducible exact ih1 _ _ _ _ _ _)
   | (with_reducible exact ih2 _ _ _ _ _ _ _)
   | (with_reducible exact ih3 _ _ _ _ _)
   | (with_reducible exact ih4 _ _ _ _ _)
   | (with_reducible exact ih5 _ _ _ _ _ _)
   | (with_reducible exact ih6 _ _ _ _ _)
   | (with_reducible exact copies_Row.mono _ _ _)
   | (with_reducible exact davitlaw20_awake.mono _)
   | (with_reducible exact davitref20_Made.mono _ _ _)
   | (with_reducible exact davitref20_May.mono _ _)
   | (with_reducible exact davitref20_Once.mono _ _ _)
   | (with_reducible exact davitref20_Real.mono _ _)
   | (with_reducible exact davitref20_Rings.mono _ _)
   | (with_reducible exact LeO.refl _)
   | (with_reducible exact LeO.none _)
   | (with_reducible refine LeO.ite ?_ ?_)
   | (with_reducible refine LeO.bind ?_ (fun _ => ?_))
   | exact ih0 _ _ _ _
   | exact ih1 _ _ _ _ _ _
   | exact ih2 _ _ _ _ _ _ _
   | exact ih3 _ _ _ _ _
   | exact ih4 _ _ _ _ _
   | exact ih5 _ _ _ _ _ _
   | exact ih6 _ _ _ _ _
   | exact copies_Row.mono _ _ _
   | exact davitlaw20_awake.mono _
   | exact davitref20_Made.mono _ _ _
   | exact davitref20_May.mono _ _
   | exact davitref20_Once.mono _ _ _
   | exact davitref20_Real.mono _ _
   | exact davitref20_Rings.mono _ _
   | exact LeO.none _
   | refine LeO.ite ?_ ?_
   | refine LeO.bind ?_ (fun _ => ?_)
theorem davitlaw20_CopiesRow.mono : ∀ a0 a1 a2 k, LeO (davitlaw20_CopiesRow.f k a0 a1 a2) (davitlaw20_CopiesRow.f (k + 1) a0 a1 a2) := by
 intro a0 a1 a2 k
 obtain ⟨ih0, ih1, ih2, ih3, ih4, ih5, ih6⟩ := davitlaw20_CopiesRow.mono_l k
 unfold davitlaw20_CopiesRow.f
 repeat' first
   | (with_reducible exact ih0 _ _ _ _)
   | (with_reducible exact ih1 _ _ _ _ _ _)
   | (with_reducible exact ih2 _ _ _ _ _ _ _)
   | (with_reducible exact ih3 _ _ _ _ _)
   | (with_reducible exact ih4 _ _ _ _ _)
   | (with_reducible exact ih5 _ _ _ _ _ _)
   | (with_reducible exact ih6 _ _ _ _ _)
   | (with_reducible exact copies_Row.mono _ _ _)
   | (with_reducible exact davitlaw20_awake.mono _)
   | (with_reducible exact davitref20_Made.mono _ _ _)
   | (with_reducible exact davitref20_May.mono _ _)
   | (with_reducible exact davitref20_Once.mono _ _ _)
   | (with_reducible exact davitref20_Real.mono _ _)
   | (with_reducible exact davitref20_Rings.mono _ _)
   | (with_reducible exact LeO.refl _)
   | (with_reducible exact LeO.none _)
   | (with_reducible refine LeO.ite ?_ ?_)
   | (with_reducible refine LeO.bind ?_ (fun _ => ?_))
   | exact ih0 _ _ _ _
   | exact ih1 _ _ _ _ _ _
   | exact ih2 _ _ _ _ _ _ _
   | exact ih3 _ _ _ _ _
   | exact ih4 _ _ _ _ _
   | exact ih5 _ _ _ _ _ _
   | exact ih6 _ _ _ _ _
   | exact copies_Row.mono _ _ _
   | exact davitlaw20_awake.mono _
   | exact davitref20_Made.mono _ _ _
   | exact davitref20_May.mono _ _
   | exact davitref20_Once.mono _ _ _
   | exact davitref20_Real.mono _ _
   | exact davitref20_Rings.mono _ _
   | exact LeO.none _
   | refine LeO.ite ?_ ?_
   | refine LeO.bind ?_ (fun _ => ?_)
set_option maxHeartbeats 8000000 in
set_option maxRecDepth 100000 in
theorem davitlaw20_CopiesRow.calls (k : Nat) (A0 : Option Addr) (c0 : Nat) (l0 : List (S34)) (a1 : Int) (A2 : Option Addr) (c2 : Nat) (l2 : List Int) (r : Bool) (w : World) (hr0 : Kd.C k34 w A0 l0.length l0) (hc0 : l0.length ≤ c0) (hr2 : Kd.C (Kd.int .u16) w A2 l2.length l2) (hc2 : l2.length ≤ c2) (h : davitlaw20_CopiesRow.f k l0 a1 l2 = some r) :
  Calls Try.prog 4 #[.slice A0 l0.length c0, .int .i64 a1, .slice A2 l2.length c2] w fun e w' => e = .returned (.bool r) ∧ Below w.heap.size w w' := by
 have HR0 := Aside0.mk hr0
 have HC0 := Aside0.mk hc0
 clear hr0 hc0
 have HR2 := Aside0.mk hr2
 have HC2 := Aside0.mk hc2
 clear hr2 hc2
 have HB := Aside0.mk (Below.refl w.heap.size w)
 have H : ((davitlaw20_awake.f k).bind fun t207 => (if t207 = true then (if (l0.length : Int) > 80 then (davitlaw20_CopiesRow.j0 k l0 a1 l2 true) else (davitlaw20_CopiesRow.j0 k l0 a1 l2 (decide ((l2.length : Int) > 100)))) else (some false))) = some r := h
 clear h
 replace H := Option.bind_eq_some_iff.mp H
 obtain ⟨t207, A40, H⟩ := H
 replace H : (if t207 = true then (if (l0.length : Int) > 80 then (davitlaw20_CopiesRow.j0 k l0 a1 l2 true) else (davitlaw20_CopiesRow.j0 k l0 a1 l2 (decide ((l2.length : Int) > 100)))) else (some false)) = some r := H
 have A4 := Aside0.mk A40
 clear A40
 by_cases c5 : t207 = true
 ·subst c5
  have H1 : (if (l0.length : Int) > 80 then (davitlaw20_CopiesRow.j0 k l0 a1 l2 true) else (davitlaw20_CopiesRow.j0 k l0 a1 l2 (decide ((l2.length : Int) > 100)))) = some r := by rw [if_pos rfl] at H; exact H
  clear H
  have H := H1
  clear H1
  have HC6 := Aside0.mk H
  clear H
  go_enter Try.func4, Try.ntmps4
  go_upto_region 3 with (first | (go_at_call 6; (with_reducible refine (davitlaw20_awake.calls k  true _ A4.out).mono ?_); rintro e w7 ⟨rfl, hb⟩; have n0_ := Aside0.mk (below_step (by repeat (first | (with_reducible first | exact HB.out | apply below_alloc | apply pw_below_drewN | apply below_drew1) | exact HB.out)) hb); clear HB; have HB := n0_; clear n0_; (try clear hb); (try clear hb2); (try clear hk); (try clear hi)))
  repeat (go_quiet (first | (go_at_call 6; (with_reducible refine (davitlaw20_awake.calls k  true _ A4.out).mono ?_); rintro e w7 ⟨rfl, hb⟩; have n0_ := Aside0.mk (below_step (by repeat (first | (with_reducible first | exact HB.out | apply below_alloc | apply pw_below_drewN | apply below_drew1) | exact HB.out)) hb); clear HB; have HB := n0_; clear n0_; (try clear hb); (try clear hb2); (try clear hk); (try clear hi))); go_upto_region 3 with (first | (go_at_call 6; (with_reducible refine (davitlaw20_awake.calls k  true _ A4.out).mono ?_); rintro e w7 ⟨rfl, hb⟩; have n0_ := Aside0.mk (below_step (by repeat (first | (with_reducible first | exact HB.out | apply below_alloc | apply pw_below_drewN | apply below_drew1) | exact HB.out)) hb); clear HB; have HB := n0_; clear n0_; (try clear hb); (try clear hb2); (try clear hk); (try clear hi))))
  (try simp only [Act.put, List.setIfInBounds_toArray, List.set_cons_zero, List.set_cons_succ])
  go_cut [26] (fun v26 wc => ∃ (kq : Nat) (x26_5 : Bool), v26 = .bool x26_5 ∧ Aside0 (davitlaw20_CopiesRow.j0 kq l0 a1 l2 x26_5 = some r) ∧ Aside0 (kq ≤ k) ∧ Aside0 (Below w.heap.size w wc))
  case first =>
   have H := HC6.out
   clear HC6
   by_cases c8 : (l0.length : Int) > 80
   ·rw [if_pos c8] at H
    have c8b0 : decide (80 < (l0.length : Int)) = true := decide_eq_true c8
    have c8b1 : decide (80 < l0.length) = true := decide_eq_true (by omega)
    clear c8
    (first | rw [c8b0] | (simp only [i64_w, i32_w]; rw [c8b0]) | skip)
    have H' := Aside0.mk H
    clear H
    go_wp2
    repeat (go_quiet (fail); try go_wp2)
    go_meet
    case rel => exact ⟨_, (true), (by first | rfl | (simp; done) | (simp [*]; done)), H', ⟨by first | omega | exact Nat.le_refl _⟩, ⟨by repeat (first | (with_reducible first | exact HB.out | apply below_alloc | apply pw_below_drewN | apply below_drew1) | exact HB.out)⟩⟩
   ·rw [if_neg c8] at H
    have c8b0 : decide (80 < (l0.length : Int)) = false := decide_eq_false c8
    have c8b1 : decide (80 < l0.length) = false := decide_eq_false (by omega)
    clear c8
    (first | rw [c8b0] | (simp only [i64_w, i32_w]; rw [c8b0]) | skip)
    have H' := Aside0.mk H
    clear H
    go_wp2
    repeat (go_quiet (fail); try go_wp2)
    go_meet
    case rel => exact ⟨_, (decide ((l2.length : Int) > 100)), (by first | rfl | (simp; done) | (simp [*]; done)), H', ⟨by first | omega | exact Nat.le_refl _⟩, ⟨by repeat (first | (with_reducible first | exact HB.out | apply below_alloc | apply pw_below_drewN | apply below_drew1) | exact HB.out)⟩⟩
  case rest =>
   clear HC6
   try clear c2
   try clear p2
   try clear c4
   try clear c5
   try clear c8
   try clear c8b0
   try clear c8b1
   obtain ⟨kq, x26_5, rfl, HA, HJ5, HB⟩ := hcut
   cases kq with
   | zero => exact absurd HA.out (by simp [davitlaw20_CopiesRow.j0])
   | succ kj5 =>
    have H := HA.out
    clear HA
    simp only [davitlaw20_CopiesRow.j0] at H
    by_cases c9 : x26_5 = true
    ·subst c9
     have H1 : (some true) = some r := by rw [if_pos rfl] at H; exact H
     clear H
     have H := H1
     clear H1
     obtain rfl := Option.some.inj H
     go_wp2
     repeat (go_quiet (fail); try go_wp2)
     go_ret
     exact ⟨by first | rfl | (simp [errW_none, errW_some] <;> rfl) | (simp [*, errW_none, errW_some] <;> rfl), by repeat (first | (with_reducible first | exact HB.out | apply below_alloc | apply pw_below_drewN | apply below_drew1) | exact HB.out)⟩
    ·replace c9 := Bool.eq_false_iff.mpr c9
     subst c9
     have H1 : ((copies_Row.f kj5 l0 a1).bind fun bt208 => ((davitref20_May.f kj5 l0).bind fun t212 => (if t212 = true then (if a1 ≥ 0 then (davitlaw20_CopiesRow.j1 kj5 l0 a1 l2 bt208.1 bt208.2 (decide (a1 ≤ 65535))) else (davitlaw20_CopiesRow.j1 kj5 l0 a1 l2 bt208.1 bt208.2 false)) else (davitlaw20_CopiesRow.j1 kj5 l0 a1 l2 bt208.1 bt208.2 false)))) = some r := by rw [if_neg (show ¬ (false = true) by decide)] at H; exact H
     clear H
     have H := H1
     clear H1
     replace H := Option.bind_eq_some_iff.mp H
     obtain ⟨⟨t208, t209⟩, A100, H⟩ := H
     replace H : ((davitref20_May.f kj5 l0).bind fun t212 => (if t212 = true then (if a1 ≥ 0 then (davitlaw20_CopiesRow.j1 kj5 l0 a1 l2 t208 t209 (decide (a1 ≤ 65535))) else (davitlaw20_CopiesRow.j1 kj5 l0 a1 l2 t208 t209 false)) else (davitlaw20_CopiesRow.j1 kj5 l0 a1 l2 t208 t209 false))) = some r := H
     have A10 := Aside0.mk A100
     clear A100
     have HC11 := Aside0.mk H
     clear H
     go_upto_region 6 with (first | (go_at_call 14; (with_reducible refine (copies_Row.calls kj5 _ _ l0 a1 t208 t209 _ ?side1 ?side2 A10.out).mono ?_); (case side1 => repeat (first | exact (Kd.C_below HR0.out HB.out) | (with_reducible refine Kd.C_alloc ?_ _) | (with_reducible refine Kd.C_drewN ?_ _) | (with_reducible refine Kd.C_drew ?_))); (case side2 => exact HC0.out); rintro e w12 ⟨v210, rfl, ho0, hb⟩; have n0_ := Aside0.mk (Kd.R_lower ho0 (below_size (by repeat (first | (with_reducible first | exact HB.out | apply below_alloc | apply pw_below_drewN | apply below_drew1) | exact HB.out)))); have n1_ := Aside0.mk (below_step (by repeat (first | (with_reducible first | exact HB.out | apply below_alloc | apply pw_below_drewN | apply below_drew1) | exact HB.out)) hb); clear HB; have HO211 := n0_; have HB := n1_; clear n0_ n1_; (try clear hb); (try clear hb2); (try clear hk); (try clear hi); (try clear ho0)))
     repeat (go_quiet (first | (go_at_call 14; (with_reducible refine (copies_Row.calls kj5 _ _ l0 a1 t208 t209 _ ?side1 ?side2 A10.out).mono ?_); (case side1 => repeat (first | exact (Kd.C_below HR0.out HB.out) | (with_reducible refine Kd.C_alloc ?_ _) | (with_reducible refine Kd.C_drewN ?_ _) | (with_reducible refine Kd.C_drew ?_))); (case side2 => exact HC0.out); rintro e w12 ⟨v210, rfl, ho0, hb⟩; have n0_ := Aside0.mk (Kd.R_lower ho0 (below_size (by repeat (first | (with_reducible first | exact HB.out | apply below_alloc | apply pw_below_drewN | apply below_drew1) | exact HB.out)))); have n1_ := Aside0.mk (below_step (by repeat (first | (with_reducible first | exact HB.out | apply below_alloc | apply pw_below_drewN | apply below_drew1) | exact HB.out)) hb); clear HB; have HO211 := n0_; have HB := n1_; clear n0_ n1_; (try clear hb); (try clear hb2); (try clear hk); (try clear hi); (try clear ho0))); go_upto_region 6 with (first | (go_at_call 14; (with_reducible refine (copies_Row.calls kj5 _ _ l0 a1 t208 t209 _ ?side1 ?side2 A10.out).mono ?_); (case side1 => repeat (first | exact (Kd.C_below HR0.out HB.out) | (with_reducible refine Kd.C_alloc ?_ _) | (with_reducible refine Kd.C_drewN ?_ _) | (with_reducible refine Kd.C_drew ?_))); (case side2 => exact HC0.out); rintro e w12 ⟨v210, rfl, ho0, hb⟩; have n0_ := Aside0.mk (Kd.R_lower ho0 (below_size (by repeat (first | (with_reducible first | exact HB.out | apply below_alloc | apply pw_below_drewN | apply below_drew1) | exact HB.out)))); have n1_ := Aside0.mk (below_step (by repeat (first | (with_reducible first | exact HB.out | apply below_alloc | apply pw_below_drewN | apply below_drew1) | exact HB.out)) hb); clear HB; have HO211 := n0_; have HB := n1_; clear n0_ n1_; (try clear hb); (try clear hb2); (try clear hk); (try clear hi); (try clear ho0))))
     (try simp only [Act.put, List.setIfInBounds_toArray, List.set_cons_zero, List.set_cons_succ])
     go_cut [9] (fun v9 wc => ∃ (kq : Nat) (x9_10 : Bool), v9 = .bool x9_10 ∧ Aside0 (davitlaw20_CopiesRow.j1 kq l0 a1 l2 t208 t209 x9_10 = some r) ∧ Aside0 (kq ≤ kj5) ∧ Aside0 (Kd.R k34 34 wc w.heap.size (fun _ => True) v210 t208) ∧ Aside0 (Below w.heap.size w wc))
     case first =>
      have H := HC11.out
      clear HC11
      replace H := Option.bind_eq_some_iff.mp H
      obtain ⟨t212, A130, H⟩ := H
      replace H : (if t212 = true then (if a1 ≥ 0 then (davitlaw20_CopiesRow.j1 kj5 l0 a1 l2 t208 t209 (decide (a1 ≤ 65535))) else (davitlaw20_CopiesRow.j1 kj5 l0 a1 l2 t208 t209 false)) else (davitlaw20_CopiesRow.j1 kj5 l0 a1 l2 t208 t209 false)) = some r := H
      have A13 := Aside0.mk A130
      clear A130
      by_cases c14 : t212 = true
      ·subst c14
       have H1 : (if a1 ≥ 0 then (davitlaw20_CopiesRow.j1 kj5 l0 a1 l2 t208 t209 (decide (a1 ≤ 65535))) else (davitlaw20_CopiesRow.j1 kj5 l0 a1 l2 t208 t209 false)) = some r := by rw [if_pos rfl] at H; exact H
       clear H
       have H := H1
       clear H1
       by_cases c15 : a1 ≥ 0
       ·rw [if_pos c15] at H
        have c15b0 : decide (0 ≤ a1) = true := decide_eq_true c15
        clear c15
        (first | rw [c15b0] | (simp only [i64_w, i32_w]; rw [c15b0]) | skip)
        have H' := Aside0.mk H
        clear H
        go_wp2_with (first | (go_at_call 8; (with_reducible refine (davitref20_May.calls kj5 _ _ l0 true _ ?side1 ?side2 A13.out).mono ?_); (case side1 => repeat (first | exact (Kd.C_below HR0.out HB.out) | (with_reducible refine Kd.C_alloc ?_ _) | (with_reducible refine Kd.C_drewN ?_ _) | (with_reducible refine Kd.C_drew ?_))); (case side2 => exact HC0.out); rintro e w' ⟨rfl, ⟨nd, rfl⟩⟩; (try first | exact ⟨rfl, _, World.drewN_drewN _ _ _⟩ | exact ⟨rfl, _, Eq.trans (World.drewN_drewN _ _ _) (congrArg (World.drewN _) (Nat.add_assoc _ _ _))⟩)))
        repeat (go_quiet (first | (go_at_call 8; (with_reducible refine (davitref20_May.calls kj5 _ _ l0 true _ ?side1 ?side2 A13.out).mono ?_); (case side1 => repeat (first | exact (Kd.C_below HR0.out HB.out) | (with_reducible refine Kd.C_alloc ?_ _) | (with_reducible refine Kd.C_drewN ?_ _) | (with_reducible refine Kd.C_drew ?_))); (case side2 => exact HC0.out); rintro e w' ⟨rfl, ⟨nd, rfl⟩⟩; (try first | exact ⟨rfl, _, World.drewN_drewN _ _ _⟩ | exact ⟨rfl, _, Eq.trans (World.drewN_drewN _ _ _) (congrArg (World.drewN _) (Nat.add_assoc _ _ _))⟩))); try go_wp2_with (first | (go_at_call 8; (with_reducible refine (davitref20_May.calls kj5 _ _ l0 true _ ?side1 ?side2 A13.out).mono ?_); (case side1 => repeat (first | exact (Kd.C_below HR0.out HB.out) | (with_reducible refine Kd.C_alloc ?_ _) | (with_reducible refine Kd.C_drewN ?_ _) | (with_reducible refine Kd.C_drew ?_))); (case side2 => exact HC0.out); rintro e w' ⟨rfl, ⟨nd, rfl⟩⟩; (try first | exact ⟨rfl, _, World.drewN_drewN _ _ _⟩ | exact ⟨rfl, _, Eq.trans (World.drewN_drewN _ _ _) (congrArg (World.drewN _) (Nat.add_assoc _ _ _))⟩))))
        go_meet
        case rel => exact ⟨_, (decide (a1 ≤ 65535)), (by first | rfl | (simp; done) | (simp [*]; done)), H', ⟨by have := HJ5.out; first | omega | exact Nat.le_refl _⟩, ⟨by (with_reducible repeat (first | apply Kd.R_alloc | apply Kd.R_drewN | apply Kd.R_drew)); exact HO211.out⟩, ⟨by repeat (first | (with_reducible first | exact HB.out | apply below_alloc | apply pw_below_drewN | apply below_drew1) | exact HB.out)⟩⟩
       ·rw [if_neg c15] at H
        have c15b0 : decide (0 ≤ a1) = false := decide_eq_false c15
        clear c15
        (first | rw [c15b0] | (simp only [i64_w, i32_w]; rw [c15b0]) | skip)
        have H' := Aside0.mk H
        clear H
        go_wp2_with (first | (go_at_call 8; (with_reducible refine (davitref20_May.calls kj5 _ _ l0 true _ ?side1 ?side2 A13.out).mono ?_); (case side1 => repeat (first | exact (Kd.C_below HR0.out HB.out) | (with_reducible refine Kd.C_alloc ?_ _) | (with_reducible refine Kd.C_drewN ?_ _) | (with_reducible refine Kd.C_drew ?_))); (case side2 => exact HC0.out); rintro e w' ⟨rfl, ⟨nd, rfl⟩⟩; (try first | exact ⟨rfl, _, World.drewN_drewN _ _ _⟩ | exact ⟨rfl, _, Eq.trans (World.drewN_drewN _ _ _) (congrArg (World.drewN _) (Nat.add_assoc _ _ _))⟩)))
        repeat (go_quiet (first | (go_at_call 8; (with_reducible refine (davitref20_May.calls kj5 _ _ l0 true _ ?side1 ?side2 A13.out).mono ?_); (case side1 => repeat (first | exact (Kd.C_below HR0.out HB.out) | (with_reducible refine Kd.C_alloc ?_ _) | (with_reducible refine Kd.C_drewN ?_ _) | (with_reducible refine Kd.C_drew ?_))); (case side2 => exact HC0.out); rintro e w' ⟨rfl, ⟨nd, rfl⟩⟩; (try first | exact ⟨rfl, _, World.drewN_drewN _ _ _⟩ | exact ⟨rfl, _, Eq.trans (World.drewN_drewN _ _ _) (congrArg (World.drewN _) (Nat.add_assoc _ _ _))⟩))); try go_wp2_with (first | (go_at_call 8; (with_reducible refine (davitref20_May.calls kj5 _ _ l0 true _ ?side1 ?side2 A13.out).mono ?_); (case side1 => repeat (first | exact (Kd.C_below HR0.out HB.out) | (with_reducible refine Kd.C_alloc ?_ _) | (with_reducible refine Kd.C_drewN ?_ _) | (with_reducible refine Kd.C_drew ?_))); (case side2 => exact HC0.out); rintro e w' ⟨rfl, ⟨nd, rfl⟩⟩; (try first | exact ⟨rfl, _, World.drewN_drewN _ _ _⟩ | exact ⟨rfl, _, Eq.trans (World.drewN_drewN _ _ _) (congrArg (World.drewN _) (Nat.add_assoc _ _ _))⟩))))
        go_meet
        case rel => exact ⟨_, (false), (by first | rfl | (simp; done) | (simp [*]; done)), H', ⟨by have := HJ5.out; first | omega | exact Nat.le_refl _⟩, ⟨by (with_reducible repeat (first | apply Kd.R_alloc | apply Kd.R_drewN | apply Kd.R_drew)); exact HO211.out⟩, ⟨by repeat (first | (with_reducible first | exact HB.out | apply below_alloc | apply pw_below_drewN | apply below_drew1) | exact HB.out)⟩⟩
      ·replace c14 := Bool.eq_false_iff.mpr c14
       subst c14
       have H1 : (davitlaw20_CopiesRow.j1 kj5 l0 a1 l2 t208 t209 false) = some r := by rw [if_neg (show ¬ (false = true) by decide)] at H; exact H
       clear H
       have H := H1
       clear H1
       have H' := Aside0.mk H
       clear H
       go_wp2_with (first | (go_at_call 8; (with_reducible refine (davitref20_May.calls kj5 _ _ l0 false _ ?side1 ?side2 A13.out).mono ?_); (case side1 => repeat (first | exact (Kd.C_below HR0.out HB.out) | (with_reducible refine Kd.C_alloc ?_ _) | (with_reducible refine Kd.C_drewN ?_ _) | (with_reducible refine Kd.C_drew ?_))); (case side2 => exact HC0.out); rintro e w' ⟨rfl, ⟨nd, rfl⟩⟩; (try first | exact ⟨rfl, _, World.drewN_drewN _ _ _⟩ | exact ⟨rfl, _, Eq.trans (World.drewN_drewN _ _ _) (congrArg (World.drewN _) (Nat.add_assoc _ _ _))⟩)))
       repeat (go_quiet (first | (go_at_call 8; (with_reducible refine (davitref20_May.calls kj5 _ _ l0 false _ ?side1 ?side2 A13.out).mono ?_); (case side1 => repeat (first | exact (Kd.C_below HR0.out HB.out) | (with_reducible refine Kd.C_alloc ?_ _) | (with_reducible refine Kd.C_drewN ?_ _) | (with_reducible refine Kd.C_drew ?_))); (case side2 => exact HC0.out); rintro e w' ⟨rfl, ⟨nd, rfl⟩⟩; (try first | exact ⟨rfl, _, World.drewN_drewN _ _ _⟩ | exact ⟨rfl, _, Eq.trans (World.drewN_drewN _ _ _) (congrArg (World.drewN _) (Nat.add_assoc _ _ _))⟩))); try go_wp2_with (first | (go_at_call 8; (with_reducible refine (davitref20_May.calls kj5 _ _ l0 false _ ?side1 ?side2 A13.out).mono ?_); (case side1 => repeat (first | exact (Kd.C_below HR0.out HB.out) | (with_reducible refine Kd.C_alloc ?_ _) | (with_reducible refine Kd.C_drewN ?_ _) | (with_reducible refine Kd.C_drew ?_))); (case side2 => exact HC0.out); rintro e w' ⟨rfl, ⟨nd, rfl⟩⟩; (try first | exact ⟨rfl, _, World.drewN_drewN _ _ _⟩ | exact ⟨rfl, _, Eq.trans (World.drewN_drewN _ _ _) (congrArg (World.drewN _) (Nat.add_assoc _ _ _))⟩))))
       go_meet
       case rel => exact ⟨_, (false), (by first | rfl | (simp; done) | (simp [*]; done)), H', ⟨by have := HJ5.out; first | omega | exact Nat.le_refl _⟩, ⟨by (with_reducible repeat (first | apply Kd.R_alloc | apply Kd.R_drewN | apply Kd.R_drew)); exact HO211.out⟩, ⟨by repeat (first | (with_reducible first | exact HB.out | apply below_alloc | apply pw_below_drewN | apply below_drew1) | exact HB.out)⟩⟩
     case rest =>
      clear HC11
      try clear c1
      try clear c2
      try clear p2
      try clear c4
      try clear c5
      try clear c8
      try clear c8b0
      try clear c8b1
      try clear c9
      try clear c14
      try clear c15
      try clear c15b0
      try clear p2
      obtain ⟨kq, x9_10, rfl, HA, HJ10, HO_7, HB⟩ := hcut
      cases kq with
      | zero => exact absurd HA.out (by simp [davitlaw20_CopiesRow.j1])
      | succ kj10 =>
       have H := HA.out
       clear HA
       simp only [davitlaw20_CopiesRow.j1] at H
       have H' := Aside0.mk H
       clear H
       go_wp2
       repeat (go_quiet (fail); try go_wp2)
       go_loopg [9, 10] kj10 (fun kq v9 v10 w' => ∃ (x9_3 : Bool) (x10_3 : Int), v9 = .bool x9_3 ∧ v10 = .int .i64 x10_3 ∧ Aside0 (davitlaw20_CopiesRow.l0 kq l0 a1 l2 t208 t209 x9_3 x10_3 = some r) ∧ Aside0 (kq ≤ kj10) ∧ Aside0 (Kd.R k34 34 w' w.heap.size (fun _ => True) v210 t208) ∧ Aside0 (Below w.heap.size w w'))
       case atStart => exact ⟨(x9_10), (0), (by first | rfl | (simp; done) | (simp [*]; done)), (by first | rfl | (simp; done) | (simp [*]; done)), H', ⟨Nat.le_refl _⟩, ⟨by (with_reducible repeat (first | apply Kd.R_alloc | apply Kd.R_drewN | apply Kd.R_drew)); exact HO_7.out⟩, ⟨by repeat (first | (with_reducible first | exact HB.out | apply below_alloc | apply pw_below_drewN | apply below_drew1) | exact HB.out)⟩⟩
       case round =>
        clear H'
        try clear c1
        try clear c2
        try clear p2
        try clear c4
        try clear c5
        try clear c8
        try clear c8b0
        try clear c8b1
        try clear c9
        try clear c14
        try clear c15
        try clear c15b0
        try clear p2
        obtain ⟨x9_3, x10_3, rfl, rfl, HA, HK3, HO_7, HB⟩ := hrel
        cases gk with
        | zero => exact absurd HA.out (by simp [davitlaw20_CopiesRow.l0])
        | succ k3 =>
         have H := HA.out
         clear HA
         simp only [davitlaw20_CopiesRow.l0] at H
         by_cases c16 : x10_3 < (l0.length : Int)
         ·rw [if_pos c16] at H
          have c16b0 : decide (x10_3 < (l0.length : Int)) = true := decide_eq_true c16
          clear c16
          by_cases c17 : x9_3 = true
          ·subst c17
           have H1 : (if 0 ≤ x10_3 then (if ((rd_T34 l0 x10_3).f0) = a1 then (davitlaw20_CopiesRow.l0 k3 l0 a1 l2 t208 t209 false (wrap64 (x10_3 + 1))) else (davitlaw20_CopiesRow.l0 k3 l0 a1 l2 t208 t209 (((rd_T34 l0 x10_3).f1) != a1) (wrap64 (x10_3 + 1)))) else (none)) = some r := by rw [if_pos rfl] at H; exact H
           clear H
           have H := H1
           clear H1
           by_cases c18 : 0 ≤ x10_3
           ·rw [if_pos c18] at H
            have c18b0 : decide (0 ≤ x10_3) = true := decide_eq_true c18
            clear c18
            by_cases c19 : ((rd_T34 l0 x10_3).f0) = a1
            ·rw [if_pos c19] at H
             have c19b0 : (((rd_T34 l0 x10_3).f0) == a1) = true := beq_iff_eq.mpr c19
             have c19b1 : (((rd_T34 l0 x10_3).f0) != a1) = false := bne_eq_false_iff_eq.mpr c19
             clear c19
             have H' := Aside0.mk H
             clear H
             have p213 : 0 ≤ (x10_3 : Int) := of_decide_eq_true (by first | (with_reducible assumption) | assumption)
             have q213 : x10_3 < (l0.length : Int) := of_decide_eq_true (by first | (with_reducible assumption) | assumption)
             obtain ⟨ad213, e213, hx213_0, hx213_1⟩ := at_T34 HR0.out x10_3 p213 q213
             cases e213
             replace hx213_0 := (HB.out.cell (World.block_lt_of_cell? w _ hx213_0)).trans hx213_0
             replace hx213_1 := (HB.out.cell (World.block_lt_of_cell? w _ hx213_1)).trans hx213_1
             replace p213 := eq_true p213
             replace q213 := eq_true q213
             go_wp2
             repeat (go_quiet (fail); try go_wp2)
             go_roundg k3
             case measure => have := HJ5.out; have := HJ10.out; have := HK3.out; omega
             case rel => exact ⟨(false), (wrap64 (x10_3 + 1)), (by first | rfl | (simp; done) | (simp [*]; done)), (by first | rfl | (simp; done) | (simp [*]; done)), H', ⟨by have := HJ5.out; have := HJ10.out; have := HK3.out; omega⟩, ⟨by (with_reducible repeat (first | apply Kd.R_alloc | apply Kd.R_drewN | apply Kd.R_drew)); exact HO_7.out⟩, ⟨by repeat (first | (with_reducible first | exact HB.out | apply below_alloc | apply pw_below_drewN | apply below_drew1) | exact HB.out)⟩⟩
            ·rw [if_neg c19] at H
             have c19b0 : (((rd_T34 l0 x10_3).f0) == a1) = false := beq_eq_false_iff_ne.mpr c19
             have c19b1 : (((rd_T34 l0 x10_3).f0) != a1) = true := bne_iff_ne.mpr c19
             have H' := Aside0.mk H
             clear H
             have p213 : 0 ≤ (x10_3 : Int) := of_decide_eq_true (by first | (with_reducible assumption) | assumption)
             have q213 : x10_3 < (l0.length : Int) := of_decide_eq_true (by first | (with_reducible assumption) | assumption)
             obtain ⟨ad213, e213, hx213_0, hx213_1⟩ := at_T34 HR0.out x10_3 p213 q213
             cases e213
             replace hx213_0 := (HB.out.cell (World.block_lt_of_cell? w _ hx213_0)).trans hx213_0
             replace hx213_1 := (HB.out.cell (World.block_lt_of_cell? w _ hx213_1)).trans hx213_1
             replace p213 := eq_true p213
             replace q213 := eq_true q213
             have p214 : 0 ≤ (x10_3 : Int) := of_decide_eq_true (by first | (with_reducible assumption) | assumption)
             have q214 : x10_3 < (l0.length : Int) := of_decide_eq_true (by first | (with_reducible assumption) | assumption)
             obtain ⟨ad214, e214, hx214_0, hx214_1⟩ := at_T34 HR0.out x10_3 p214 q214
             obtain rfl : ad213 = ad214 := (by injection e214)
             replace hx214_0 := (HB.out.cell (World.block_lt_of_cell? w _ hx214_0)).trans hx214_0
             replace hx214_1 := (HB.out.cell (World.block_lt_of_cell? w _ hx214_1)).trans hx214_1
             replace p214 := eq_true p214
             replace q214 := eq_true q214
             go_wp2
             repeat (go_quiet (fail); try go_wp2)
             go_roundg k3
             case measure => have := HJ5.out; have := HJ10.out; have := HK3.out; omega
             case rel => exact ⟨((((rd_T34 l0 x10_3).f1) != a1)), (wrap64 (x10_3 + 1)), (by first | rfl | (simp; done) | (simp [*]; done)), (by first | rfl | (simp; done) | (simp [*]; done)), H', ⟨by have := HJ5.out; have := HJ10.out; have := HK3.out; omega⟩, ⟨by (with_reducible repeat (first | apply Kd.R_alloc | apply Kd.R_drewN | apply Kd.R_drew)); exact HO_7.out⟩, ⟨by repeat (first | (with_reducible first | exact HB.out | apply below_alloc | apply pw_below_drewN | apply below_drew1) | exact HB.out)⟩⟩
           ·rw [if_neg c18] at H
            exact absurd H (by simp)
          ·replace c17 := Bool.eq_false_iff.mpr c17
           subst c17
           have H1 : (davitlaw20_CopiesRow.l0 k3 l0 a1 l2 t208 t209 false (wrap64 (x10_3 + 1))) = some r := by rw [if_neg (show ¬ (false = true) by decide)] at H; exact H
           clear H
           have H := H1
           clear H1
           have H' := Aside0.mk H
           clear H
           go_wp2
           repeat (go_quiet (fail); try go_wp2)
           go_roundg k3
           case measure => have := HJ5.out; have := HJ10.out; have := HK3.out; omega
           case rel => exact ⟨(false), (wrap64 (x10_3 + 1)), (by first | rfl | (simp; done) | (simp [*]; done)), (by first | rfl | (simp; done) | (simp [*]; done)), H', ⟨by have := HJ5.out; have := HJ10.out; have := HK3.out; omega⟩, ⟨by (with_reducible repeat (first | apply Kd.R_alloc | apply Kd.R_drewN | apply Kd.R_drew)); exact HO_7.out⟩, ⟨by repeat (first | (with_reducible first | exact HB.out | apply below_alloc | apply pw_below_drewN | apply below_drew1) | exact HB.out)⟩⟩
         ·rw [if_neg c16] at H
          have c16b0 : decide (x10_3 < (l0.length : Int)) = false := decide_eq_false c16
          clear c16
          by_cases c20 : x9_3 = true
          ·subst c20
           have H1 : (if t209 = 0 then ((davitref20_Real.f k3 l0).bind fun t215 => ((davitref20_Rings.f k3 l0).bind fun t216 => (davitlaw20_CopiesRow.j3 k3 l0 a1 l2 t208 ((t208.length : Int) != (wrap64 (t215 + t216)))))) else (davitlaw20_CopiesRow.j3 k3 l0 a1 l2 t208 true)) = some r := by rw [if_pos rfl] at H; exact H
           clear H
           have H := H1
           clear H1
           have HC21 := Aside0.mk H
           clear H
           go_upto_region 13 with (fail)
           repeat (go_quiet (fail); go_upto_region 13 with (fail))
           go_cut [88] (fun v88 wc => ∃ (kq : Nat) (x88_20 : Bool), v88 = .bool x88_20 ∧ Aside0 (davitlaw20_CopiesRow.j3 kq l0 a1 l2 t208 x88_20 = some r) ∧ Aside0 (kq ≤ k3) ∧ Aside0 (Kd.R k34 34 wc w.heap.size (fun _ => True) v210 t208) ∧ Aside0 (Below w.heap.size w wc))
           case first =>
            have H := HC21.out
            clear HC21
            by_cases c22 : t209 = 0
            ·rw [if_pos c22] at H
             have c22b0 : (t209 == 0) = true := beq_iff_eq.mpr c22
             have c22b1 : (t209 != 0) = false := bne_eq_false_iff_eq.mpr c22
             clear c22
             (first | rw [c22b0] | (simp only [i64_w, i32_w]; rw [c22b0]) | skip)
             replace H := Option.bind_eq_some_iff.mp H
             obtain ⟨t215, A230, H⟩ := H
             replace H : ((davitref20_Rings.f k3 l0).bind fun t216 => (davitlaw20_CopiesRow.j3 k3 l0 a1 l2 t208 ((t208.length : Int) != (wrap64 (t215 + t216))))) = some r := H
             have A23 := Aside0.mk A230
             clear A230
             replace H := Option.bind_eq_some_iff.mp H
             obtain ⟨t216, A240, H⟩ := H
             replace H : (davitlaw20_CopiesRow.j3 k3 l0 a1 l2 t208 ((t208.length : Int) != (wrap64 (t215 + t216)))) = some r := H
             have A24 := Aside0.mk A240
             clear A240
             have H' := Aside0.mk H
             clear H
             obtain ⟨Ao25, co25, eo25⟩ := Kd.R_slice HO_7.out
             subst eo25
             go_wp2_with (first | (go_at_call 15; (with_reducible refine (davitref20_Real.calls k3 _ _ l0 t215 _ ?side1 ?side2 A23.out).mono ?_); (case side1 => repeat (first | exact (Kd.C_below HR0.out HB.out) | (with_reducible refine Kd.C_alloc ?_ _) | (with_reducible refine Kd.C_drewN ?_ _) | (with_reducible refine Kd.C_drew ?_))); (case side2 => exact HC0.out); rintro e w' ⟨rfl, ⟨nd, rfl⟩⟩; (try first | exact ⟨rfl, _, World.drewN_drewN _ _ _⟩ | exact ⟨rfl, _, Eq.trans (World.drewN_drewN _ _ _) (congrArg (World.drewN _) (Nat.add_assoc _ _ _))⟩)) | (go_at_call 10; (with_reducible refine (davitref20_Rings.calls k3 _ _ l0 t216 _ ?side1 ?side2 A24.out).mono ?_); (case side1 => repeat (first | exact (Kd.C_below HR0.out (by repeat (first | (with_reducible first | exact HB.out | apply below_alloc | apply pw_below_drewN | apply below_drew1) | exact HB.out))) | (with_reducible refine Kd.C_alloc ?_ _) | (with_reducible refine Kd.C_drewN ?_ _) | (with_reducible refine Kd.C_drew ?_))); (case side2 => exact HC0.out); rintro e w' ⟨rfl, ⟨nd, rfl⟩⟩; (try first | exact ⟨rfl, _, World.drewN_drewN _ _ _⟩ | exact ⟨rfl, _, Eq.trans (World.drewN_drewN _ _ _) (congrArg (World.drewN _) (Nat.add_assoc _ _ _))⟩)))
             repeat (go_quiet (first | (go_at_call 15; (with_reducible refine (davitref20_Real.calls k3 _ _ l0 t215 _ ?side1 ?side2 A23.out).mono ?_); (case side1 => repeat (first | exact (Kd.C_below HR0.out HB.out) | (with_reducible refine Kd.C_alloc ?_ _) | (with_reducible refine Kd.C_drewN ?_ _) | (with_reducible refine Kd.C_drew ?_))); (case side2 => exact HC0.out); rintro e w' ⟨rfl, ⟨nd, rfl⟩⟩; (try first | exact ⟨rfl, _, World.drewN_drewN _ _ _⟩ | exact ⟨rfl, _, Eq.trans (World.drewN_drewN _ _ _) (congrArg (World.drewN _) (Nat.add_assoc _ _ _))⟩)) | (go_at_call 10; (with_reducible refine (davitref20_Rings.calls k3 _ _ l0 t216 _ ?side1 ?side2 A24.out).mono ?_); (case side1 => repeat (first | exact (Kd.C_below HR0.out (by repeat (first | (with_reducible first | exact HB.out | apply below_alloc | apply pw_below_drewN | apply below_drew1) | exact HB.out))) | (with_reducible refine Kd.C_alloc ?_ _) | (with_reducible refine Kd.C_drewN ?_ _) | (with_reducible refine Kd.C_drew ?_))); (case side2 => exact HC0.out); rintro e w' ⟨rfl, ⟨nd, rfl⟩⟩; (try first | exact ⟨rfl, _, World.drewN_drewN _ _ _⟩ | exact ⟨rfl, _, Eq.trans (World.drewN_drewN _ _ _) (congrArg (World.drewN _) (Nat.add_assoc _ _ _))⟩))); try go_wp2_with (first | (go_at_call 15; (with_reducible refine (davitref20_Real.calls k3 _ _ l0 t215 _ ?side1 ?side2 A23.out).mono ?_); (case side1 => repeat (first | exact (Kd.C_below HR0.out HB.out) | (with_reducible refine Kd.C_alloc ?_ _) | (with_reducible refine Kd.C_drewN ?_ _) | (with_reducible refine Kd.C_drew ?_))); (case side2 => exact HC0.out); rintro e w' ⟨rfl, ⟨nd, rfl⟩⟩; (try first | exact ⟨rfl, _, World.drewN_drewN _ _ _⟩ | exact ⟨rfl, _, Eq.trans (World.drewN_drewN _ _ _) (congrArg (World.drewN _) (Nat.add_assoc _ _ _))⟩)) | (go_at_call 10; (with_reducible refine (davitref20_Rings.calls k3 _ _ l0 t216 _ ?side1 ?side2 A24.out).mono ?_); (case side1 => repeat (first | exact (Kd.C_below HR0.out (by repeat (first | (with_reducible first | exact HB.out | apply below_alloc | apply pw_below_drewN | apply below_drew1) | exact HB.out))) | (with_reducible refine Kd.C_alloc ?_ _) | (with_reducible refine Kd.C_drewN ?_ _) | (with_reducible refine Kd.C_drew ?_))); (case side2 => exact HC0.out); rintro e w' ⟨rfl, ⟨nd, rfl⟩⟩; (try first | exact ⟨rfl, _, World.drewN_drewN _ _ _⟩ | exact ⟨rfl, _, Eq.trans (World.drewN_drewN _ _ _) (congrArg (World.drewN _) (Nat.add_assoc _ _ _))⟩))))
             go_meet
             case rel => exact ⟨_, (((t208.length : Int) != (wrap64 (t215 + t216)))), (by first | rfl | (simp; done) | (simp [*]; done)), H', ⟨by have := HJ5.out; have := HJ10.out; have := HK3.out; first | omega | exact Nat.le_refl _⟩, ⟨by (with_reducible repeat (first | apply Kd.R_alloc | apply Kd.R_drewN | apply Kd.R_drew)); exact HO_7.out⟩, ⟨by repeat (first | (with_reducible first | exact HB.out | apply below_alloc | apply pw_below_drewN | apply below_drew1) | exact HB.out)⟩⟩
            ·rw [if_neg c22] at H
             have c22b0 : (t209 == 0) = false := beq_eq_false_iff_ne.mpr c22
             have c22b1 : (t209 != 0) = true := bne_iff_ne.mpr c22
             (first | rw [c22b0] | (simp only [i64_w, i32_w]; rw [c22b0]) | skip)
             have H' := Aside0.mk H
             clear H
             go_wp2
             repeat (go_quiet (fail); try go_wp2)
             go_meet
             case rel => exact ⟨_, (true), (by first | rfl | (simp; done) | (simp [*]; done)), H', ⟨by have := HJ5.out; have := HJ10.out; have := HK3.out; first | omega | exact Nat.le_refl _⟩, ⟨by (with_reducible repeat (first | apply Kd.R_alloc | apply Kd.R_drewN | apply Kd.R_drew)); exact HO_7.out⟩, ⟨by repeat (first | (with_reducible first | exact HB.out | apply below_alloc | apply pw_below_drewN | apply below_drew1) | exact HB.out)⟩⟩
           case rest =>
            clear HC21
            try clear c1
            try clear c2
            try clear p2
            try clear q2
            try clear hx2
            try clear c4
            try clear c5
            try clear p6
            try clear c8
            try clear c8b0
            try clear c8b1
            try clear c9
            try clear c14
            try clear c15
            try clear c15b0
            try clear c16
            try clear c16b0
            try clear c17
            try clear c18
            try clear c18b0
            try clear c19
            try clear c19b0
            try clear c19b1
            try clear c20
            try clear p21
            try clear q21
            try clear hx21
            try clear c22
            try clear c22b0
            try clear c22b1
            try clear hx213_0
            try clear hx213_1
            try clear hx214_0
            try clear hx214_1
            try clear p2
            try clear p213
            try clear p214
            try clear q213
            try clear q214
            obtain ⟨kq, x88_20, rfl, HA, HJ20, HO_7, HB⟩ := hcut
            cases kq with
            | zero => exact absurd HA.out (by simp [davitlaw20_CopiesRow.j3])
            | succ kj20 =>
             have H := HA.out
             clear HA
             simp only [davitlaw20_CopiesRow.j3] at H
             by_cases c26 : x88_20 = true
             ·subst c26
              have H1 : (some false) = some r := by rw [if_pos rfl] at H; exact H
              clear H
              have H := H1
              clear H1
              obtain rfl := Option.some.inj H
              go_wp2
              repeat (go_quiet (fail); try go_wp2)
              go_ret
              exact ⟨by first | rfl | (simp [errW_none, errW_some] <;> rfl) | (simp [*, errW_none, errW_some] <;> rfl), by repeat (first | (with_reducible first | exact HB.out | apply below_alloc | apply pw_below_drewN | apply below_drew1) | exact HB.out)⟩
             ·replace c26 := Bool.eq_false_iff.mpr c26
              subst c26
              have H1 : (davitlaw20_CopiesRow.l1 kj20 l0 a1 l2 t208 0) = some r := by rw [if_neg (show ¬ (false = true) by decide)] at H; exact H
              clear H
              have H := H1
              clear H1
              have H' := Aside0.mk H
              clear H
              go_wp2
              repeat (go_quiet (fail); try go_wp2)
              go_loopg [11] kj20 (fun kq v11 w' => ∃ (x11_5 : Int), v11 = .int .i64 x11_5 ∧ Aside0 (davitlaw20_CopiesRow.l1 kq l0 a1 l2 t208 x11_5 = some r) ∧ Aside0 (kq ≤ kj20) ∧ Aside0 (Kd.R k34 34 w' w.heap.size (fun _ => True) v210 t208) ∧ Aside0 (Below w.heap.size w w'))
              case atStart => exact ⟨(0), (by first | rfl | (simp; done) | (simp [*]; done)), H', ⟨Nat.le_refl _⟩, ⟨by (with_reducible repeat (first | apply Kd.R_alloc | apply Kd.R_drewN | apply Kd.R_drew)); exact HO_7.out⟩, ⟨by repeat (first | (with_reducible first | exact HB.out | apply below_alloc | apply pw_below_drewN | apply below_drew1) | exact HB.out)⟩⟩
              case round =>
               clear H'
               try clear c1
               try clear c2
               try clear p2
               try clear q2
               try clear hx2
               try clear c4
               try clear c5
               try clear p6
               try clear c8
               try clear c8b0
               try clear c8b1
               try clear c9
               try clear c14
               try clear c15
               try clear c15b0
               try clear c16
               try clear c16b0
               try clear c17
               try clear c18
               try clear c18b0
               try clear c19
               try clear c19b0
               try clear c19b1
               try clear c20
               try clear p21
               try clear q21
               try clear hx21
               try clear c22
               try clear c22b0
               try clear c22b1
               try clear c26
               try clear hx213_0
               try clear hx213_1
               try clear hx214_0
               try clear hx214_1
               try clear p2
               try clear p21
               try clear p213
               try clear p214
               try clear p6
               try clear q2
               try clear q21
               try clear q213
               try clear q214
               obtain ⟨x11_5, rfl, HA, HK5, HO_7, HB⟩ := hrel
               cases gk with
               | zero => exact absurd HA.out (by simp [davitlaw20_CopiesRow.l1])
               | succ k5 =>
                have H := HA.out
                clear HA
                simp only [davitlaw20_CopiesRow.l1] at H
                by_cases c27 : x11_5 < (l0.length : Int)
                ·rw [if_pos c27] at H
                 have c27b0 : decide (x11_5 < (l0.length : Int)) = true := decide_eq_true c27
                 clear c27
                 by_cases c28 : 0 ≤ x11_5
                 ·rw [if_pos c28] at H
                  have c28b0 : decide (0 ≤ x11_5) = true := decide_eq_true c28
                  clear c28
                  by_cases c29 : ((rd_T34 l0 x11_5).f0) ≥ 100
                  ·rw [if_pos c29] at H
                   have c29b0 : decide (100 ≤ ((rd_T34 l0 x11_5).f0)) = true := decide_eq_true c29
                   clear c29
                   obtain rfl := Option.some.inj H
                   have p217 : 0 ≤ (x11_5 : Int) := of_decide_eq_true (by first | (with_reducible assumption) | assumption)
                   have q217 : x11_5 < (l0.length : Int) := of_decide_eq_true (by first | (with_reducible assumption) | assumption)
                   obtain ⟨ad217, e217, hx217_0, hx217_1⟩ := at_T34 HR0.out x11_5 p217 q217
                   cases e217
                   replace hx217_0 := (HB.out.cell (World.block_lt_of_cell? w _ hx217_0)).trans hx217_0
                   replace hx217_1 := (HB.out.cell (World.block_lt_of_cell? w _ hx217_1)).trans hx217_1
                   replace p217 := eq_true p217
                   replace q217 := eq_true q217
                   go_wp2
                   repeat (go_quiet (fail); try go_wp2)
                   go_ret
                   exact ⟨by first | rfl | (simp [errW_none, errW_some] <;> rfl) | (simp [*, errW_none, errW_some] <;> rfl), by repeat (first | (with_reducible first | exact HB.out | apply below_alloc | apply pw_below_drewN | apply below_drew1) | exact HB.out)⟩
                  ·rw [if_neg c29] at H
                   have c29b0 : decide (100 ≤ ((rd_T34 l0 x11_5).f0)) = false := decide_eq_false c29
                   clear c29
                   by_cases c30 : ((rd_T34 l0 x11_5).f1) ≥ 100
                   ·rw [if_pos c30] at H
                    have c30b0 : decide (100 ≤ ((rd_T34 l0 x11_5).f1)) = true := decide_eq_true c30
                    clear c30
                    obtain rfl := Option.some.inj H
                    have p217 : 0 ≤ (x11_5 : Int) := of_decide_eq_true (by first | (with_reducible assumption) | assumption)
                    have q217 : x11_5 < (l0.length : Int) := of_decide_eq_true (by first | (with_reducible assumption) | assumption)
                    obtain ⟨ad217, e217, hx217_0, hx217_1⟩ := at_T34 HR0.out x11_5 p217 q217
                    cases e217
                    replace hx217_0 := (HB.out.cell (World.block_lt_of_cell? w _ hx217_0)).trans hx217_0
                    replace hx217_1 := (HB.out.cell (World.block_lt_of_cell? w _ hx217_1)).trans hx217_1
                    replace p217 := eq_true p217
                    replace q217 := eq_true q217
                    have p218 : 0 ≤ (x11_5 : Int) := of_decide_eq_true (by first | (with_reducible assumption) | assumption)
                    have q218 : x11_5 < (l0.length : Int) := of_decide_eq_true (by first | (with_reducible assumption) | assumption)
                    obtain ⟨ad218, e218, hx218_0, hx218_1⟩ := at_T34 HR0.out x11_5 p218 q218
                    obtain rfl : ad217 = ad218 := (by injection e218)
                    replace hx218_0 := (HB.out.cell (World.block_lt_of_cell? w _ hx218_0)).trans hx218_0
                    replace hx218_1 := (HB.out.cell (World.block_lt_of_cell? w _ hx218_1)).trans hx218_1
                    replace p218 := eq_true p218
                    replace q218 := eq_true q218
                    go_wp2
                    repeat (go_quiet (fail); try go_wp2)
                    go_ret
                    exact ⟨by first | rfl | (simp [errW_none, errW_some] <;> rfl) | (simp [*, errW_none, errW_some] <;> rfl), by repeat (first | (with_reducible first | exact HB.out | apply below_alloc | apply pw_below_drewN | apply below_drew1) | exact HB.out)⟩
                   ·rw [if_neg c30] at H
                    have c30b0 : decide (100 ≤ ((rd_T34 l0 x11_5).f1)) = false := decide_eq_false c30
                    clear c30
                    have H' := Aside0.mk H
                    clear H
                    have p217 : 0 ≤ (x11_5 : Int) := of_decide_eq_true (by first | (with_reducible assumption) | assumption)
                    have q217 : x11_5 < (l0.length : Int) := of_decide_eq_true (by first | (with_reducible assumption) | assumption)
                    obtain ⟨ad217, e217, hx217_0, hx217_1⟩ := at_T34 HR0.out x11_5 p217 q217
                    cases e217
                    replace hx217_0 := (HB.out.cell (World.block_lt_of_cell? w _ hx217_0)).trans hx217_0
                    replace hx217_1 := (HB.out.cell (World.block_lt_of_cell? w _ hx217_1)).trans hx217_1
                    replace p217 := eq_true p217
                    replace q217 := eq_true q217
                    have p218 : 0 ≤ (x11_5 : Int) := of_decide_eq_true (by first | (with_reducible assumption) | assumption)
                    have q218 : x11_5 < (l0.length : Int) := of_decide_eq_true (by first | (with_reducible assumption) | assumption)
                    obtain ⟨ad218, e218, hx218_0, hx218_1⟩ := at_T34 HR0.out x11_5 p218 q218
                    obtain rfl : ad217 = ad218 := (by injection e218)
                    replace hx218_0 := (HB.out.cell (World.block_lt_of_cell? w _ hx218_0)).trans hx218_0
                    replace hx218_1 := (HB.out.cell (World.block_lt_of_cell? w _ hx218_1)).trans hx218_1
                    replace p218 := eq_true p218
                    replace q218 := eq_true q218
                    go_wp2
                    repeat (go_quiet (fail); try go_wp2)
                    go_roundg k5
                    case measure => have := HJ5.out; have := HJ10.out; have := HK3.out; have := HJ20.out; have := HK5.out; omega
                    case rel => exact ⟨(wrap64 (x11_5 + 1)), (by first | rfl | (simp; done) | (simp [*]; done)), H', ⟨by have := HJ5.out; have := HJ10.out; have := HK3.out; have := HJ20.out; have := HK5.out; omega⟩, ⟨by (with_reducible repeat (first | apply Kd.R_alloc | apply Kd.R_drewN | apply Kd.R_drew)); exact HO_7.out⟩, ⟨by repeat (first | (with_reducible first | exact HB.out | apply below_alloc | apply pw_below_drewN | apply below_drew1) | exact HB.out)⟩⟩
                 ·rw [if_neg c28] at H
                  exact absurd H (by simp)
                ·rw [if_neg c27] at H
                 have c27b0 : decide (x11_5 < (l0.length : Int)) = false := decide_eq_false c27
                 clear c27
                 by_cases c31 : a1 ≥ 100
                 ·rw [if_pos c31] at H
                  have c31b0 : decide (100 ≤ a1) = true := decide_eq_true c31
                  clear c31
                  obtain rfl := Option.some.inj H
                  go_wp2
                  repeat (go_quiet (fail); try go_wp2)
                  go_ret
                  exact ⟨by first | rfl | (simp [errW_none, errW_some] <;> rfl) | (simp [*, errW_none, errW_some] <;> rfl), by repeat (first | (with_reducible first | exact HB.out | apply below_alloc | apply pw_below_drewN | apply below_drew1) | exact HB.out)⟩
                 ·rw [if_neg c31] at H
                  have c31b0 : decide (100 ≤ a1) = false := decide_eq_false c31
                  clear c31
                  by_cases c32 : 100 ≤ 140737488355328
                  ·rw [if_pos c32] at H
                   have c32b0 := eq_true c32
                   have c32b1 : decide (100 ≤ 140737488355328) = true := decide_eq_true c32
                   clear c32
                   obtain ⟨y219, hy219⟩ : ∃ y_ : List Int, y_ = (List.replicate 100 0) := ⟨_, rfl⟩
                   replace H : (davitlaw20_CopiesRow.l2 k5 l0 a1 l2 t208 y219 0) = some r := by first | (rw [hy219]; with_reducible exact H) | (have H2_ := (Option.bind_some _ _).symm.trans H; rw [hy219]; with_reducible exact H2_) | (have H2_ := (Option.bind_some _ _).symm.trans H; with_reducible exact H2_) | with_reducible exact H | (rw [hy219]; exact H) | exact H
                   have Ny219 := Aside0.mk hy219
                   clear hy219
                   have H' := Aside0.mk H
                   clear H
                   go_wp2_with (first | ((with_reducible refine gate_dst (N := 111) rfl ?_); (try (refine gate_guard (by rfl) ?_; dsimp only)); refine Kd.R_make (Kd.int .u16) _ 35 rfl (N := 111) rfl 23 _ _ rfl 100 rfl rfl Try.underlying23 (.int .u16 0) 2 info35 rfl (by decide) (by omega) 0 (ok := fun _ => True) (okp := fun _ => True) rfl (fun _ hk => hk) trivial (by omega) (by omega) (Below.refl _ _) (Nat.le_refl _) ?_; intro v220 w33 ho34 hb hg_ hnew_; clear hg_ hnew_; (first | rw [← Ny219.out] at ho34 | (simp only [Int.reduceToNat] at ho34; rw [← Ny219.out] at ho34)); have n0_ := Aside0.mk (Kd.R_below (by (with_reducible repeat (first | apply Kd.R_alloc | apply Kd.R_drewN | apply Kd.R_drew)); exact HO_7.out) hb); have n1_ := Aside0.mk (Kd.R_lower ho34 (below_size (by repeat (first | (with_reducible first | exact HB.out | apply below_alloc | apply pw_below_drewN | apply below_drew1) | exact HB.out)))); have n2_ := Aside0.mk (below_step (by repeat (first | (with_reducible first | exact HB.out | apply below_alloc | apply pw_below_drewN | apply below_drew1) | exact HB.out)) hb); clear HO_7; clear HB; have HO_7 := n0_; have HO221 := n1_; have HB := n2_; clear n0_ n1_ n2_; clear hb ho34))
                   repeat (go_quiet (first | ((with_reducible refine gate_dst (N := 111) rfl ?_); (try (refine gate_guard (by rfl) ?_; dsimp only)); refine Kd.R_make (Kd.int .u16) _ 35 rfl (N := 111) rfl 23 _ _ rfl 100 rfl rfl Try.underlying23 (.int .u16 0) 2 info35 rfl (by decide) (by omega) 0 (ok := fun _ => True) (okp := fun _ => True) rfl (fun _ hk => hk) trivial (by omega) (by omega) (Below.refl _ _) (Nat.le_refl _) ?_; intro v220 w33 ho34 hb hg_ hnew_; clear hg_ hnew_; (first | rw [← Ny219.out] at ho34 | (simp only [Int.reduceToNat] at ho34; rw [← Ny219.out] at ho34)); have n0_ := Aside0.mk (Kd.R_below (by (with_reducible repeat (first | apply Kd.R_alloc | apply Kd.R_drewN | apply Kd.R_drew)); exact HO_7.out) hb); have n1_ := Aside0.mk (Kd.R_lower ho34 (below_size (by repeat (first | (with_reducible first | exact HB.out | apply below_alloc | apply pw_below_drewN | apply below_drew1) | exact HB.out)))); have n2_ := Aside0.mk (below_step (by repeat (first | (with_reducible first | exact HB.out | apply below_alloc | apply pw_below_drewN | apply below_drew1) | exact HB.out)) hb); clear HO_7; clear HB; have HO_7 := n0_; have HO221 := n1_; have HB := n2_; clear n0_ n1_ n2_; clear hb ho34)); try go_wp2_with (first | ((with_reducible refine gate_dst (N := 111) rfl ?_); (try (refine gate_guard (by rfl) ?_; dsimp only)); refine Kd.R_make (Kd.int .u16) _ 35 rfl (N := 111) rfl 23 _ _ rfl 100 rfl rfl Try.underlying23 (.int .u16 0) 2 info35 rfl (by decide) (by omega) 0 (ok := fun _ => True) (okp := fun _ => True) rfl (fun _ hk => hk) trivial (by omega) (by omega) (Below.refl _ _) (Nat.le_refl _) ?_; intro v220 w33 ho34 hb hg_ hnew_; clear hg_ hnew_; (first | rw [← Ny219.out] at ho34 | (simp only [Int.reduceToNat] at ho34; rw [← Ny219.out] at ho34)); have n0_ := Aside0.mk (Kd.R_below (by (with_reducible repeat (first | apply Kd.R_alloc | apply Kd.R_drewN | apply Kd.R_drew)); exact HO_7.out) hb); have n1_ := Aside0.mk (Kd.R_lower ho34 (below_size (by repeat (first | (with_reducible first | exact HB.out | apply below_alloc | apply pw_below_drewN | apply below_drew1) | exact HB.out)))); have n2_ := Aside0.mk (below_step (by repeat (first | (with_reducible first | exact HB.out | apply below_alloc | apply pw_below_drewN | apply below_drew1) | exact HB.out)) hb); clear HO_7; clear HB; have HO_7 := n0_; have HO221 := n1_; have HB := n2_; clear n0_ n1_ n2_; clear hb ho34)))
                   go_loopg [13] k5 (fun kq v13 w' => ∃ (x12_6 : List Int) (x13_6 : Int), v13 = .int .i64 x13_6 ∧ Aside0 (davitlaw20_CopiesRow.l2 kq l0 a1 l2 t208 x12_6 x13_6 = some r) ∧ Aside0 (kq ≤ k5) ∧ Aside0 (Kd.R k34 34 w' w.heap.size (fun _ => True) v210 t208) ∧ Aside0 (Kd.R (Kd.int .u16) 35 w' w.heap.size (fun _ => True) v220 x12_6) ∧ Aside0 (Below w.heap.size w w'))
                   case atStart => exact ⟨(y219), (0), (by first | rfl | (simp; done) | (simp [*]; done)), H', ⟨Nat.le_refl _⟩, ⟨by (with_reducible repeat (first | apply Kd.R_alloc | apply Kd.R_drewN | apply Kd.R_drew)); exact HO_7.out⟩, ⟨by (with_reducible repeat (first | apply Kd.R_alloc | apply Kd.R_drewN | apply Kd.R_drew)); exact HO221.out⟩, ⟨by repeat (first | (with_reducible first | exact HB.out | apply below_alloc | apply pw_below_drewN | apply below_drew1) | exact HB.out)⟩⟩
                   case round =>
                    clear H'
                    try clear c1
                    try clear c2
                    try clear p2
                    try clear q2
                    try clear hx2
                    try clear c3
                    try clear c4
                    try clear c5
                    try clear p6
                    try clear c8
                    try clear c8b0
                    try clear c8b1
                    try clear c9
                    try clear c14
                    try clear c15
                    try clear c15b0
                    try clear c16
                    try clear c16b0
                    try clear c17
                    try clear c18
                    try clear c18b0
                    try clear c19
                    try clear c19b0
                    try clear c19b1
                    try clear c20
                    try clear p21
                    try clear q21
                    try clear hx21
                    try clear c22
                    try clear c22b0
                    try clear c22b1
                    try clear c26
                    try clear c27
                    try clear c27b0
                    try clear c28
                    try clear c28b0
                    try clear c29
                    try clear c29b0
                    try clear c30
                    try clear c30b0
                    try clear c31
                    try clear c31b0
                    try clear c32
                    try clear c32b0
                    try clear c32b1
                    try clear hx213_0
                    try clear hx213_1
                    try clear hx214_0
                    try clear hx214_1
                    try clear hx217_0
                    try clear hx217_1
                    try clear hx218_0
                    try clear hx218_1
                    try clear p2
                    try clear p21
                    try clear p213
                    try clear p214
                    try clear p217
                    try clear p218
                    try clear p6
                    try clear q2
                    try clear q21
                    try clear q213
                    try clear q214
                    try clear q217
                    try clear q218
                    obtain ⟨x12_6, x13_6, rfl, HA, HK6, HO_7, HO_12, HB⟩ := hrel
                    cases gk with
                    | zero => exact absurd HA.out (by simp [davitlaw20_CopiesRow.l2])
                    | succ k6 =>
                     have H := HA.out
                     clear HA
                     simp only [davitlaw20_CopiesRow.l2] at H
                     by_cases c35 : x13_6 < (x12_6.length : Int)
                     ·rw [if_pos c35] at H
                      have c35b0 : decide (x13_6 < (x12_6.length : Int)) = true := decide_eq_true c35
                      clear c35
                      by_cases c36 : 0 ≤ x13_6
                      ·rw [if_pos c36] at H
                       have c36b0 : decide (0 ≤ x13_6) = true := decide_eq_true c36
                       clear c36
                       obtain ⟨y222, hy222⟩ : ∃ y_ : List Int, y_ = (x12_6.set (x13_6 : Int).toNat (IntKind.u16.wrap (wrap64 (1000 + x13_6)))) := ⟨_, rfl⟩
                       replace H : (if x13_6 < (l2.length : Int) then (davitlaw20_CopiesRow.l2 k6 l0 a1 l2 t208 (y222.set (x13_6 : Int).toNat (rd l2 x13_6)) (wrap64 (x13_6 + 1))) else (davitlaw20_CopiesRow.l2 k6 l0 a1 l2 t208 y222 (wrap64 (x13_6 + 1)))) = some r := by first | (rw [hy222]; with_reducible exact H) | (have H2_ := (Option.bind_some _ _).symm.trans H; rw [hy222]; with_reducible exact H2_) | (have H2_ := (Option.bind_some _ _).symm.trans H; with_reducible exact H2_) | with_reducible exact H | (rw [hy222]; exact H) | exact H
                       have Ny222 := Aside0.mk hy222
                       clear hy222
                       by_cases c38 : x13_6 < (l2.length : Int)
                       ·rw [if_pos c38] at H
                        have c38b0 : decide (x13_6 < (l2.length : Int)) = true := decide_eq_true c38
                        clear c38
                        obtain ⟨y224, hy224⟩ : ∃ y_ : List Int, y_ = (y222.set (x13_6 : Int).toNat (rd l2 x13_6)) := ⟨_, rfl⟩
                        replace H : (davitlaw20_CopiesRow.l2 k6 l0 a1 l2 t208 y224 (wrap64 (x13_6 + 1))) = some r := by first | (rw [hy224]; with_reducible exact H) | (have H2_ := (Option.bind_some _ _).symm.trans H; rw [hy224]; with_reducible exact H2_) | (have H2_ := (Option.bind_some _ _).symm.trans H; with_reducible exact H2_) | with_reducible exact H | (rw [hy224]; exact H) | exact H
                        have Ny224 := Aside0.mk hy224
                        clear hy224
                        have H' := Aside0.mk H
                        clear H
                        obtain ⟨Ao40, co40, eo40⟩ := Kd.R_slice HO_12.out
                        subst eo40
                        have p37 : 0 ≤ (x13_6 : Int) := of_decide_eq_true (by first | (with_reducible assumption) | assumption)
                        have q37 : (x13_6 : Int) < ((x12_6.length : Int) : Int) := of_decide_eq_true (by first | (with_reducible assumption) | assumption)
                        obtain ⟨go37, co37, eo37, gb37, gl37, cl37, HG37⟩ := Kd.R_form HO_12.out (by omega)
                        (first | cases eo37 | (injection eo37 with ea_ en_ ec_; (first | subst ea_ | (injection ea_ with ea_; subst ea_)); subst ec_; clear en_))
                        have GB37 := Aside0.mk gb37
                        have GG37 := Aside0.mk HG37
                        clear gb37 gl37 HG37
                        obtain ⟨hx37_0, hf37_0⟩ := Kd.R_celln 0 HO_12.out (x13_6 : Int) p37 q37
                        replace p37 := eq_true p37
                        replace q37 := eq_true q37
                        have HP41 := Kd.R_putg HO_12.out (x13_6 : Int) (IntKind.u16.wrap (wrap64 (1000 + x13_6)))
                        go_wp2_with (first | ((with_reducible refine gate_store (t := 35) (p := 123) rfl ?_); (try (rw [drewN_self wr]; generalize hq_ : World.drewN wr _ = wr; have n0_ := Aside0.mk (Kd.R_at hq_ HO_7.out); have n1_ := Aside0.mk (Kd.R_at hq_ HO_12.out); have n2_ := Aside0.mk (below_at hq_ HB.out); clear hq_ HO_7 HO_12 HB; have HO_7 := n0_; have HO_12 := n1_; have HB := n2_; clear n0_ n1_ n2_; (try (have HP41 := Kd.R_putg HO_12.out (x13_6 : Int) (IntKind.u16.wrap (wrap64 (1000 + x13_6))))))); refine store_event (t := 35) (p := 123) (v := ?vo_w42) (w1 := (wr.setCell ⟨go37, (x13_6 : Int).toNat, none⟩ (.int .u16 (IntKind.u16.wrap (wrap64 (1000 + x13_6)))))) ?hg ?ho ?hn ?hr ?_; (case ho => rfl); (case hg => rfl); (case hn => rfl); (case hr => first | (go_simp; done) | (go_simp; rfl)); intro w42 hw; have hg : wr.grownBy w42 (some go37) := (by rw [hw]; exact HP41.2); have hp_ : Kd.R (Kd.int .u16) 35 w42 w.heap.size (fun _ => True) (.slice (some ⟨go37, 0, none⟩) x12_6.length co40) y222 := (by rw [hw, Ny222.out]; exact HP41.1); clear HP41; have n0_ := Aside0.mk (Kd.R_over' (v := (.slice (some ⟨go37, 0, none⟩) x12_6.length co40)) (by (with_reducible repeat (first | apply Kd.R_alloc | apply Kd.R_drewN | apply Kd.R_drew)); exact HO_7.out) (Kd.R_typed HO_12.out) (by decide) hg); have n1_ := Aside0.mk (hp_); have n2_ := Aside0.mk ((by rw [hw]; exact below_set (HB.out) GB37.out : Below w.heap.size w w42)); clear HO_7; clear HO_12; clear HB; have HO_7 := n0_; have HO_12 := n1_; have HB := n2_; clear n0_ n1_ n2_; clear hg hw hp_; have p223 : 0 ≤ (x13_6 : Int) := of_decide_eq_true (by first | (with_reducible assumption) | assumption); have q223 : x13_6 < (l2.length : Int) := of_decide_eq_true (by first | (with_reducible assumption) | assumption); obtain ⟨ad223, e223, hx223_0⟩ := Kd.at_int HR2.out x13_6 p223 q223; cases e223; replace hx223_0 := (HB.out.cell (World.block_lt_of_cell? w _ hx223_0)).trans hx223_0; replace p223 := eq_true p223; replace q223 := eq_true q223; have p39 : 0 ≤ (x13_6 : Int) := of_decide_eq_true (by first | (with_reducible assumption) | assumption); have q39 : (x13_6 : Int) < ((x12_6.length : Int) : Int) := of_decide_eq_true (by first | (with_reducible assumption) | assumption); obtain ⟨hx39_0, hf39_0⟩ := Kd.R_celln 0 HO_12.out (x13_6 : Int) p39 q39; replace p39 := eq_true p39; replace q39 := eq_true q39; obtain ⟨hy43_, hz43_⟩ := Kd.R_celln 0 HO_12.out (x13_6 : Int) (of_decide_eq_true (by first | (with_reducible assumption) | assumption)) (of_decide_eq_true (by first | (with_reducible assumption) | assumption)); have HP43 := Kd.R_putg HO_12.out (x13_6 : Int) (rd l2 x13_6)) | ((with_reducible refine gate_store (t := 35) (p := 134) rfl ?_); (try (rw [drewN_self w42]; generalize hq_ : World.drewN w42 _ = w42; have n0_ := Aside0.mk (Kd.R_at hq_ HO_7.out); have n1_ := Aside0.mk (Kd.R_at hq_ HO_12.out); have n2_ := Aside0.mk (below_at hq_ HB.out); clear hq_ HO_7 HO_12 HB; have HO_7 := n0_; have HO_12 := n1_; have HB := n2_; clear n0_ n1_ n2_; (try (obtain ⟨hy43_, hz43_⟩ := Kd.R_celln 0 HO_12.out (x13_6 : Int) (of_decide_eq_true (by first | (with_reducible assumption) | assumption)) (of_decide_eq_true (by first | (with_reducible assumption) | assumption)))); (try (have HP43 := Kd.R_putg HO_12.out (x13_6 : Int) (rd l2 x13_6))))); refine store_event (t := 35) (p := 134) (v := ?vo_w44) (w1 := (w42.setCell ⟨go37, (x13_6 : Int).toNat, none⟩ (.int .u16 (rd l2 x13_6)))) ?hg ?ho ?hn ?hr ?_; (case ho => rfl); (case hg => rfl); (case hn => rfl); (case hr => first | (go_simp; done) | (go_simp; rfl)); intro w44 hw; have hg : w42.grownBy w44 (some go37) := (by rw [hw]; exact HP43.2); have hp_ : Kd.R (Kd.int .u16) 35 w44 w.heap.size (fun _ => True) (.slice (some ⟨go37, 0, none⟩) x12_6.length co40) y224 := (by rw [hw, Ny224.out]; exact HP43.1); clear HP43; have n0_ := Aside0.mk (Kd.R_over' (v := (.slice (some ⟨go37, 0, none⟩) x12_6.length co40)) (by (with_reducible repeat (first | apply Kd.R_alloc | apply Kd.R_drewN | apply Kd.R_drew)); exact HO_7.out) (Kd.R_typed HO_12.out) (by decide) hg); have n1_ := Aside0.mk (hp_); have n2_ := Aside0.mk ((by rw [hw]; exact below_set (HB.out) GB37.out : Below w.heap.size w w44)); clear HO_7; clear HO_12; clear HB; have HO_7 := n0_; have HO_12 := n1_; have HB := n2_; clear n0_ n1_ n2_; clear hg hw hp_))
                        repeat (go_quiet (first | ((with_reducible refine gate_store (t := 35) (p := 123) rfl ?_); (try (rw [drewN_self wr]; generalize hq_ : World.drewN wr _ = wr; have n0_ := Aside0.mk (Kd.R_at hq_ HO_7.out); have n1_ := Aside0.mk (Kd.R_at hq_ HO_12.out); have n2_ := Aside0.mk (below_at hq_ HB.out); clear hq_ HO_7 HO_12 HB; have HO_7 := n0_; have HO_12 := n1_; have HB := n2_; clear n0_ n1_ n2_; (try (have HP41 := Kd.R_putg HO_12.out (x13_6 : Int) (IntKind.u16.wrap (wrap64 (1000 + x13_6))))))); refine store_event (t := 35) (p := 123) (v := ?vo_w42) (w1 := (wr.setCell ⟨go37, (x13_6 : Int).toNat, none⟩ (.int .u16 (IntKind.u16.wrap (wrap64 (1000 + x13_6)))))) ?hg ?ho ?hn ?hr ?_; (case ho => rfl); (case hg => rfl); (case hn => rfl); (case hr => first | (go_simp; done) | (go_simp; rfl)); intro w42 hw; have hg : wr.grownBy w42 (some go37) := (by rw [hw]; exact HP41.2); have hp_ : Kd.R (Kd.int .u16) 35 w42 w.heap.size (fun _ => True) (.slice (some ⟨go37, 0, none⟩) x12_6.length co40) y222 := (by rw [hw, Ny222.out]; exact HP41.1); clear HP41; have n0_ := Aside0.mk (Kd.R_over' (v := (.slice (some ⟨go37, 0, none⟩) x12_6.length co40)) (by (with_reducible repeat (first | apply Kd.R_alloc | apply Kd.R_drewN | apply Kd.R_drew)); exact HO_7.out) (Kd.R_typed HO_12.out) (by decide) hg); have n1_ := Aside0.mk (hp_); have n2_ := Aside0.mk ((by rw [hw]; exact below_set (HB.out) GB37.out : Below w.heap.size w w42)); clear HO_7; clear HO_12; clear HB; have HO_7 := n0_; have HO_12 := n1_; have HB := n2_; clear n0_ n1_ n2_; clear hg hw hp_; have p223 : 0 ≤ (x13_6 : Int) := of_decide_eq_true (by first | (with_reducible assumption) | assumption); have q223 : x13_6 < (l2.length : Int) := of_decide_eq_true (by first | (with_reducible assumption) | assumption); obtain ⟨ad223, e223, hx223_0⟩ := Kd.at_int HR2.out x13_6 p223 q223; cases e223; replace hx223_0 := (HB.out.cell (World.block_lt_of_cell? w _ hx223_0)).trans hx223_0; replace p223 := eq_true p223; replace q223 := eq_true q223; have p39 : 0 ≤ (x13_6 : Int) := of_decide_eq_true (by first | (with_reducible assumption) | assumption); have q39 : (x13_6 : Int) < ((x12_6.length : Int) : Int) := of_decide_eq_true (by first | (with_reducible assumption) | assumption); obtain ⟨hx39_0, hf39_0⟩ := Kd.R_celln 0 HO_12.out (x13_6 : Int) p39 q39; replace p39 := eq_true p39; replace q39 := eq_true q39; obtain ⟨hy43_, hz43_⟩ := Kd.R_celln 0 HO_12.out (x13_6 : Int) (of_decide_eq_true (by first | (with_reducible assumption) | assumption)) (of_decide_eq_true (by first | (with_reducible assumption) | assumption)); have HP43 := Kd.R_putg HO_12.out (x13_6 : Int) (rd l2 x13_6)) | ((with_reducible refine gate_store (t := 35) (p := 134) rfl ?_); (try (rw [drewN_self w42]; generalize hq_ : World.drewN w42 _ = w42; have n0_ := Aside0.mk (Kd.R_at hq_ HO_7.out); have n1_ := Aside0.mk (Kd.R_at hq_ HO_12.out); have n2_ := Aside0.mk (below_at hq_ HB.out); clear hq_ HO_7 HO_12 HB; have HO_7 := n0_; have HO_12 := n1_; have HB := n2_; clear n0_ n1_ n2_; (try (obtain ⟨hy43_, hz43_⟩ := Kd.R_celln 0 HO_12.out (x13_6 : Int) (of_decide_eq_true (by first | (with_reducible assumption) | assumption)) (of_decide_eq_true (by first | (with_reducible assumption) | assumption)))); (try (have HP43 := Kd.R_putg HO_12.out (x13_6 : Int) (rd l2 x13_6))))); refine store_event (t := 35) (p := 134) (v := ?vo_w44) (w1 := (w42.setCell ⟨go37, (x13_6 : Int).toNat, none⟩ (.int .u16 (rd l2 x13_6)))) ?hg ?ho ?hn ?hr ?_; (case ho => rfl); (case hg => rfl); (case hn => rfl); (case hr => first | (go_simp; done) | (go_simp; rfl)); intro w44 hw; have hg : w42.grownBy w44 (some go37) := (by rw [hw]; exact HP43.2); have hp_ : Kd.R (Kd.int .u16) 35 w44 w.heap.size (fun _ => True) (.slice (some ⟨go37, 0, none⟩) x12_6.length co40) y224 := (by rw [hw, Ny224.out]; exact HP43.1); clear HP43; have n0_ := Aside0.mk (Kd.R_over' (v := (.slice (some ⟨go37, 0, none⟩) x12_6.length co40)) (by (with_reducible repeat (first | apply Kd.R_alloc | apply Kd.R_drewN | apply Kd.R_drew)); exact HO_7.out) (Kd.R_typed HO_12.out) (by decide) hg); have n1_ := Aside0.mk (hp_); have n2_ := Aside0.mk ((by rw [hw]; exact below_set (HB.out) GB37.out : Below w.heap.size w w44)); clear HO_7; clear HO_12; clear HB; have HO_7 := n0_; have HO_12 := n1_; have HB := n2_; clear n0_ n1_ n2_; clear hg hw hp_)); try go_wp2_with (first | ((with_reducible refine gate_store (t := 35) (p := 123) rfl ?_); (try (rw [drewN_self wr]; generalize hq_ : World.drewN wr _ = wr; have n0_ := Aside0.mk (Kd.R_at hq_ HO_7.out); have n1_ := Aside0.mk (Kd.R_at hq_ HO_12.out); have n2_ := Aside0.mk (below_at hq_ HB.out); clear hq_ HO_7 HO_12 HB; have HO_7 := n0_; have HO_12 := n1_; have HB := n2_; clear n0_ n1_ n2_; (try (have HP41 := Kd.R_putg HO_12.out (x13_6 : Int) (IntKind.u16.wrap (wrap64 (1000 + x13_6))))))); refine store_event (t := 35) (p := 123) (v := ?vo_w42) (w1 := (wr.setCell ⟨go37, (x13_6 : Int).toNat, none⟩ (.int .u16 (IntKind.u16.wrap (wrap64 (1000 + x13_6)))))) ?hg ?ho ?hn ?hr ?_; (case ho => rfl); (case hg => rfl); (case hn => rfl); (case hr => first | (go_simp; done) | (go_simp; rfl)); intro w42 hw; have hg : wr.grownBy w42 (some go37) := (by rw [hw]; exact HP41.2); have hp_ : Kd.R (Kd.int .u16) 35 w42 w.heap.size (fun _ => True) (.slice (some ⟨go37, 0, none⟩) x12_6.length co40) y222 := (by rw [hw, Ny222.out]; exact HP41.1); clear HP41; have n0_ := Aside0.mk (Kd.R_over' (v := (.slice (some ⟨go37, 0, none⟩) x12_6.length co40)) (by (with_reducible repeat (first | apply Kd.R_alloc | apply Kd.R_drewN | apply Kd.R_drew)); exact HO_7.out) (Kd.R_typed HO_12.out) (by decide) hg); have n1_ := Aside0.mk (hp_); have n2_ := Aside0.mk ((by rw [hw]; exact below_set (HB.out) GB37.out : Below w.heap.size w w42)); clear HO_7; clear HO_12; clear HB; have HO_7 := n0_; have HO_12 := n1_; have HB := n2_; clear n0_ n1_ n2_; clear hg hw hp_; have p223 : 0 ≤ (x13_6 : Int) := of_decide_eq_true (by first | (with_reducible assumption) | assumption); have q223 : x13_6 < (l2.length : Int) := of_decide_eq_true (by first | (with_reducible assumption) | assumption); obtain ⟨ad223, e223, hx223_0⟩ := Kd.at_int HR2.out x13_6 p223 q223; cases e223; replace hx223_0 := (HB.out.cell (World.block_lt_of_cell? w _ hx223_0)).trans hx223_0; replace p223 := eq_true p223; replace q223 := eq_true q223; have p39 : 0 ≤ (x13_6 : Int) := of_decide_eq_true (by first | (with_reducible assumption) | assumption); have q39 : (x13_6 : Int) < ((x12_6.length : Int) : Int) := of_decide_eq_true (by first | (with_reducible assumption) | assumption); obtain ⟨hx39_0, hf39_0⟩ := Kd.R_celln 0 HO_12.out (x13_6 : Int) p39 q39; replace p39 := eq_true p39; replace q39 := eq_true q39; obtain ⟨hy43_, hz43_⟩ := Kd.R_celln 0 HO_12.out (x13_6 : Int) (of_decide_eq_true (by first | (with_reducible assumption) | assumption)) (of_decide_eq_true (by first | (with_reducible assumption) | assumption)); have HP43 := Kd.R_putg HO_12.out (x13_6 : Int) (rd l2 x13_6)) | ((with_reducible refine gate_store (t := 35) (p := 134) rfl ?_); (try (rw [drewN_self w42]; generalize hq_ : World.drewN w42 _ = w42; have n0_ := Aside0.mk (Kd.R_at hq_ HO_7.out); have n1_ := Aside0.mk (Kd.R_at hq_ HO_12.out); have n2_ := Aside0.mk (below_at hq_ HB.out); clear hq_ HO_7 HO_12 HB; have HO_7 := n0_; have HO_12 := n1_; have HB := n2_; clear n0_ n1_ n2_; (try (obtain ⟨hy43_, hz43_⟩ := Kd.R_celln 0 HO_12.out (x13_6 : Int) (of_decide_eq_true (by first | (with_reducible assumption) | assumption)) (of_decide_eq_true (by first | (with_reducible assumption) | assumption)))); (try (have HP43 := Kd.R_putg HO_12.out (x13_6 : Int) (rd l2 x13_6))))); refine store_event (t := 35) (p := 134) (v := ?vo_w44) (w1 := (w42.setCell ⟨go37, (x13_6 : Int).toNat, none⟩ (.int .u16 (rd l2 x13_6)))) ?hg ?ho ?hn ?hr ?_; (case ho => rfl); (case hg => rfl); (case hn => rfl); (case hr => first | (go_simp; done) | (go_simp; rfl)); intro w44 hw; have hg : w42.grownBy w44 (some go37) := (by rw [hw]; exact HP43.2); have hp_ : Kd.R (Kd.int .u16) 35 w44 w.heap.size (fun _ => True) (.slice (some ⟨go37, 0, none⟩) x12_6.length co40) y224 := (by rw [hw, Ny224.out]; exact HP43.1); clear HP43; have n0_ := Aside0.mk (Kd.R_over' (v := (.slice (some ⟨go37, 0, none⟩) x12_6.length co40)) (by (with_reducible repeat (first | apply Kd.R_alloc | apply Kd.R_drewN | apply Kd.R_drew)); exact HO_7.out) (Kd.R_typed HO_12.out) (by decide) hg); have n1_ := Aside0.mk (hp_); have n2_ := Aside0.mk ((by rw [hw]; exact below_set (HB.out) GB37.out : Below w.heap.size w w44)); clear HO_7; clear HO_12; clear HB; have HO_7 := n0_; have HO_12 := n1_; have HB := n2_; clear n0_ n1_ n2_; clear hg hw hp_)))
                        go_roundg k6
                        case measure => have := HJ5.out; have := HJ10.out; have := HK3.out; have := HJ20.out; have := HK5.out; have := HK6.out; omega
                        case rel => exact ⟨(y224), (wrap64 (x13_6 + 1)), (by first | rfl | (simp; done) | (simp [*]; done)), H', ⟨by have := HJ5.out; have := HJ10.out; have := HK3.out; have := HJ20.out; have := HK5.out; have := HK6.out; omega⟩, ⟨by (with_reducible repeat (first | apply Kd.R_alloc | apply Kd.R_drewN | apply Kd.R_drew)); exact HO_7.out⟩, ⟨by (with_reducible repeat (first | apply Kd.R_alloc | apply Kd.R_drewN | apply Kd.R_drew)); exact HO_12.out⟩, ⟨by repeat (first | (with_reducible first | exact HB.out | apply below_alloc | apply pw_below_drewN | apply below_drew1) | exact HB.out)⟩⟩
                       ·rw [if_neg c38] at H
                        have c38b0 : decide (x13_6 < (l2.length : Int)) = false := decide_eq_false c38
                        clear c38
                        have H' := Aside0.mk H
                        clear H
                        obtain ⟨Ao45, co45, eo45⟩ := Kd.R_slice HO_12.out
                        subst eo45
                        have p37 : 0 ≤ (x13_6 : Int) := of_decide_eq_true (by first | (with_reducible assumption) | assumption)
                        have q37 : (x13_6 : Int) < ((x12_6.length : Int) : Int) := of_decide_eq_true (by first | (with_reducible assumption) | assumption)
                        obtain ⟨go37, co37, eo37, gb37, gl37, cl37, HG37⟩ := Kd.R_form HO_12.out (by omega)
                        (first | cases eo37 | (injection eo37 with ea_ en_ ec_; (first | subst ea_ | (injection ea_ with ea_; subst ea_)); subst ec_; clear en_))
                        have GB37 := Aside0.mk gb37
                        have GG37 := Aside0.mk HG37
                        clear gb37 gl37 HG37
                        obtain ⟨hx37_0, hf37_0⟩ := Kd.R_celln 0 HO_12.out (x13_6 : Int) p37 q37
                        replace p37 := eq_true p37
                        replace q37 := eq_true q37
                        have HP46 := Kd.R_putg HO_12.out (x13_6 : Int) (IntKind.u16.wrap (wrap64 (1000 + x13_6)))
                        go_wp2_with (first | ((with_reducible refine gate_store (t := 35) (p := 123) rfl ?_); (try (rw [drewN_self wr]; generalize hq_ : World.drewN wr _ = wr; have n0_ := Aside0.mk (Kd.R_at hq_ HO_7.out); have n1_ := Aside0.mk (Kd.R_at hq_ HO_12.out); have n2_ := Aside0.mk (below_at hq_ HB.out); clear hq_ HO_7 HO_12 HB; have HO_7 := n0_; have HO_12 := n1_; have HB := n2_; clear n0_ n1_ n2_; (try (have HP46 := Kd.R_putg HO_12.out (x13_6 : Int) (IntKind.u16.wrap (wrap64 (1000 + x13_6))))))); refine store_event (t := 35) (p := 123) (v := ?vo_w47) (w1 := (wr.setCell ⟨go37, (x13_6 : Int).toNat, none⟩ (.int .u16 (IntKind.u16.wrap (wrap64 (1000 + x13_6)))))) ?hg ?ho ?hn ?hr ?_; (case ho => rfl); (case hg => rfl); (case hn => rfl); (case hr => first | (go_simp; done) | (go_simp; rfl)); intro w47 hw; have hg : wr.grownBy w47 (some go37) := (by rw [hw]; exact HP46.2); have hp_ : Kd.R (Kd.int .u16) 35 w47 w.heap.size (fun _ => True) (.slice (some ⟨go37, 0, none⟩) x12_6.length co45) y222 := (by rw [hw, Ny222.out]; exact HP46.1); clear HP46; have n0_ := Aside0.mk (Kd.R_over' (v := (.slice (some ⟨go37, 0, none⟩) x12_6.length co45)) (by (with_reducible repeat (first | apply Kd.R_alloc | apply Kd.R_drewN | apply Kd.R_drew)); exact HO_7.out) (Kd.R_typed HO_12.out) (by decide) hg); have n1_ := Aside0.mk (hp_); have n2_ := Aside0.mk ((by rw [hw]; exact below_set (HB.out) GB37.out : Below w.heap.size w w47)); clear HO_7; clear HO_12; clear HB; have HO_7 := n0_; have HO_12 := n1_; have HB := n2_; clear n0_ n1_ n2_; clear hg hw hp_))
                        repeat (go_quiet (first | ((with_reducible refine gate_store (t := 35) (p := 123) rfl ?_); (try (rw [drewN_self wr]; generalize hq_ : World.drewN wr _ = wr; have n0_ := Aside0.mk (Kd.R_at hq_ HO_7.out); have n1_ := Aside0.mk (Kd.R_at hq_ HO_12.out); have n2_ := Aside0.mk (below_at hq_ HB.out); clear hq_ HO_7 HO_12 HB; have HO_7 := n0_; have HO_12 := n1_; have HB := n2_; clear n0_ n1_ n2_; (try (have HP46 := Kd.R_putg HO_12.out (x13_6 : Int) (IntKind.u16.wrap (wrap64 (1000 + x13_6))))))); refine store_event (t := 35) (p := 123) (v := ?vo_w47) (w1 := (wr.setCell ⟨go37, (x13_6 : Int).toNat, none⟩ (.int .u16 (IntKind.u16.wrap (wrap64 (1000 + x13_6)))))) ?hg ?ho ?hn ?hr ?_; (case ho => rfl); (case hg => rfl); (case hn => rfl); (case hr => first | (go_simp; done) | (go_simp; rfl)); intro w47 hw; have hg : wr.grownBy w47 (some go37) := (by rw [hw]; exact HP46.2); have hp_ : Kd.R (Kd.int .u16) 35 w47 w.heap.size (fun _ => True) (.slice (some ⟨go37, 0, none⟩) x12_6.length co45) y222 := (by rw [hw, Ny222.out]; exact HP46.1); clear HP46; have n0_ := Aside0.mk (Kd.R_over' (v := (.slice (some ⟨go37, 0, none⟩) x12_6.length co45)) (by (with_reducible repeat (first | apply Kd.R_alloc | apply Kd.R_drewN | apply Kd.R_drew)); exact HO_7.out) (Kd.R_typed HO_12.out) (by decide) hg); have n1_ := Aside0.mk (hp_); have n2_ := Aside0.mk ((by rw [hw]; exact below_set (HB.out) GB37.out : Below w.heap.size w w47)); clear HO_7; clear HO_12; clear HB; have HO_7 := n0_; have HO_12 := n1_; have HB := n2_; clear n0_ n1_ n2_; clear hg hw hp_)); try go_wp2_with (first | ((with_reducible refine gate_store (t := 35) (p := 123) rfl ?_); (try (rw [drewN_self wr]; generalize hq_ : World.drewN wr _ = wr; have n0_ := Aside0.mk (Kd.R_at hq_ HO_7.out); have n1_ := Aside0.mk (Kd.R_at hq_ HO_12.out); have n2_ := Aside0.mk (below_at hq_ HB.out); clear hq_ HO_7 HO_12 HB; have HO_7 := n0_; have HO_12 := n1_; have HB := n2_; clear n0_ n1_ n2_; (try (have HP46 := Kd.R_putg HO_12.out (x13_6 : Int) (IntKind.u16.wrap (wrap64 (1000 + x13_6))))))); refine store_event (t := 35) (p := 123) (v := ?vo_w47) (w1 := (wr.setCell ⟨go37, (x13_6 : Int).toNat, none⟩ (.int .u16 (IntKind.u16.wrap (wrap64 (1000 + x13_6)))))) ?hg ?ho ?hn ?hr ?_; (case ho => rfl); (case hg => rfl); (case hn => rfl); (case hr => first | (go_simp; done) | (go_simp; rfl)); intro w47 hw; have hg : wr.grownBy w47 (some go37) := (by rw [hw]; exact HP46.2); have hp_ : Kd.R (Kd.int .u16) 35 w47 w.heap.size (fun _ => True) (.slice (some ⟨go37, 0, none⟩) x12_6.length co45) y222 := (by rw [hw, Ny222.out]; exact HP46.1); clear HP46; have n0_ := Aside0.mk (Kd.R_over' (v := (.slice (some ⟨go37, 0, none⟩) x12_6.length co45)) (by (with_reducible repeat (first | apply Kd.R_alloc | apply Kd.R_drewN | apply Kd.R_drew)); exact HO_7.out) (Kd.R_typed HO_12.out) (by decide) hg); have n1_ := Aside0.mk (hp_); have n2_ := Aside0.mk ((by rw [hw]; exact below_set (HB.out) GB37.out : Below w.heap.size w w47)); clear HO_7; clear HO_12; clear HB; have HO_7 := n0_; have HO_12 := n1_; have HB := n2_; clear n0_ n1_ n2_; clear hg hw hp_)))
                        go_roundg k6
                        case measure => have := HJ5.out; have := HJ10.out; have := HK3.out; have := HJ20.out; have := HK5.out; have := HK6.out; omega
                        case rel => exact ⟨(y222), (wrap64 (x13_6 + 1)), (by first | rfl | (simp; done) | (simp [*]; done)), H', ⟨by have := HJ5.out; have := HJ10.out; have := HK3.out; have := HJ20.out; have := HK5.out; have := HK6.out; omega⟩, ⟨by (with_reducible repeat (first | apply Kd.R_alloc | apply Kd.R_drewN | apply Kd.R_drew)); exact HO_7.out⟩, ⟨by (with_reducible repeat (first | apply Kd.R_alloc | apply Kd.R_drewN | apply Kd.R_drew)); exact HO_12.out⟩, ⟨by repeat (first | (with_reducible first | exact HB.out | apply below_alloc | apply pw_below_drewN | apply below_drew1) | exact HB.out)⟩⟩
                      ·rw [if_neg c36] at H
                       exact absurd H (by simp)
                     ·rw [if_neg c35] at H
                      have c35b0 : decide (x13_6 < (x12_6.length : Int)) = false := decide_eq_false c35
                      clear c35
                      replace H := Option.bind_eq_some_iff.mp H
                      obtain ⟨t225, A480, H⟩ := H
                      replace H : ((davitref20_Once.f k6 l0 x12_6).bind fun t228 => (davitlaw20_CopiesRow.l3 k6 a1 x12_6 t225 t228 0)) = some r := H
                      have A48 := Aside0.mk A480
                      clear A480
                      replace H := Option.bind_eq_some_iff.mp H
                      obtain ⟨t228, A490, H⟩ := H
                      replace H : (davitlaw20_CopiesRow.l3 k6 a1 x12_6 t225 t228 0) = some r := H
                      have A49 := Aside0.mk A490
                      clear A490
                      have H' := Aside0.mk H
                      clear H
                      obtain ⟨Ao50, co50, eo50⟩ := Kd.R_slice HO_12.out
                      subst eo50
                      obtain ⟨Ao51, co51, eo51⟩ := Kd.R_slice HO_7.out
                      subst eo51
                      go_wp2_with (first | (go_at_call 13; (with_reducible refine (davitref20_Made.calls k6 _ _ t208 (fun k_ => some k_ = (.slice Ao50 x12_6.length co50 : Value).ownBlock) _ _ x12_6 t225 _ ?side1 ?side2 ?side3 A48.out).mono ?_); (case side1 => repeat (first | exact (Kd.R_reads' HO_7.out).2.2 | (with_reducible refine Kd.C_alloc ?_ _) | (with_reducible refine Kd.C_drewN ?_ _) | (with_reducible refine Kd.C_drew ?_))); (case side2 => exact (Kd.R_reads' HO_7.out).2.1); (case side3 => exact Kd.R_V (Kd.R_tight rfl (Kd.R_apart' (HO_12.out) (Kd.R_typed HO_7.out) (by decide)))); rintro e w52 ⟨v226, rfl, ho0, hb⟩; have n0_ := Aside0.mk (Kd.R_below (by (with_reducible repeat (first | apply Kd.R_alloc | apply Kd.R_drewN | apply Kd.R_drew)); exact HO_7.out) hb); have n1_ := Aside0.mk (Kd.R_below (by (with_reducible repeat (first | apply Kd.R_alloc | apply Kd.R_drewN | apply Kd.R_drew)); exact HO_12.out) hb); have n2_ := Aside0.mk (Kd.V_lower (Kd.V_mono (ok' := fun k_ => some k_ ≠ (.slice Ao51 t208.length co51 : Value).ownBlock) ho0 (fun k_ hk_ => Or.elim hk_ (fun hs_ => ((Kd.R_apart' (HO_12.out) (Kd.R_typed HO_7.out) (by decide)).1 k_ hs_.symm).2) (fun hn_ => (Kd.fresh' (Kd.R_lt (by (with_reducible repeat (first | apply Kd.R_alloc | apply Kd.R_drewN | apply Kd.R_drew)); exact HO_7.out)) k_ hn_)))) (below_size (by repeat (first | (with_reducible first | exact HB.out | apply below_alloc | apply pw_below_drewN | apply below_drew1) | exact HB.out)))); have n3_ := Aside0.mk (below_step (by repeat (first | (with_reducible first | exact HB.out | apply below_alloc | apply pw_below_drewN | apply below_drew1) | exact HB.out)) hb); clear HO_7; clear HO_12; clear HB; have HO_7 := n0_; have HO_12 := n1_; have HO227 := n2_; have HB := n3_; clear n0_ n1_ n2_ n3_; (try clear hb); (try clear hb2); (try clear hk); (try clear hi); (try clear ho0)) | (go_at_call 16; (with_reducible refine (davitref20_Once.calls k6 _ _ l0 _ _ x12_6 t228 _ ?side1 ?side2 ?side3 ?side4 A49.out).mono ?_); (case side1 => repeat (first | exact (Kd.C_below HR0.out HB.out) | (with_reducible refine Kd.C_alloc ?_ _) | (with_reducible refine Kd.C_drewN ?_ _) | (with_reducible refine Kd.C_drew ?_))); (case side2 => exact HC0.out); (case side3 => repeat (first | exact (Kd.R_reads' HO_12.out).2.2 | (with_reducible refine Kd.C_alloc ?_ _) | (with_reducible refine Kd.C_drewN ?_ _) | (with_reducible refine Kd.C_drew ?_))); (case side4 => exact (Kd.R_reads' HO_12.out).2.1); rintro e w53 ⟨v229, rfl, ho0, hb⟩; have n0_ := Aside0.mk (Kd.R_below (by (with_reducible repeat (first | apply Kd.R_alloc | apply Kd.R_drewN | apply Kd.R_drew)); exact HO_7.out) hb); have n1_ := Aside0.mk (Kd.R_elder' (by (with_reducible repeat (first | apply Kd.R_alloc | apply Kd.R_drewN | apply Kd.R_drew)); exact HO_12.out) (Kd.R_base ho0) hb); have n2_ := Aside0.mk (Kd.V_elder' (by (with_reducible repeat (first | apply Kd.V_alloc | apply Kd.V_drewN | apply Kd.V_drew)); exact HO227.out) (Kd.R_base ho0) hb); have n3_ := Aside0.mk (Kd.R_lower (Kd.R_new' ho0 (Kd.R_lt (by (with_reducible repeat (first | apply Kd.R_alloc | apply Kd.R_drewN | apply Kd.R_drew)); exact HO_12.out))) (below_size (by repeat (first | (with_reducible first | exact HB.out | apply below_alloc | apply pw_below_drewN | apply below_drew1) | exact HB.out)))); have n4_ := Aside0.mk (below_step (by repeat (first | (with_reducible first | exact HB.out | apply below_alloc | apply pw_below_drewN | apply below_drew1) | exact HB.out)) hb); clear HO_7; clear HO_12; clear HO227; clear HB; have HO_7 := n0_; have HO_12 := n1_; have HO227 := n2_; have HO230 := n3_; have HB := n4_; clear n0_ n1_ n2_ n3_ n4_; (try clear hb); (try clear hb2); (try clear hk); (try clear hi); (try clear ho0)))
                      repeat (go_quiet (first | (go_at_call 13; (with_reducible refine (davitref20_Made.calls k6 _ _ t208 (fun k_ => some k_ = (.slice Ao50 x12_6.length co50 : Value).ownBlock) _ _ x12_6 t225 _ ?side1 ?side2 ?side3 A48.out).mono ?_); (case side1 => repeat (first | exact (Kd.R_reads' HO_7.out).2.2 | (with_reducible refine Kd.C_alloc ?_ _) | (with_reducible refine Kd.C_drewN ?_ _) | (with_reducible refine Kd.C_drew ?_))); (case side2 => exact (Kd.R_reads' HO_7.out).2.1); (case side3 => exact Kd.R_V (Kd.R_tight rfl (Kd.R_apart' (HO_12.out) (Kd.R_typed HO_7.out) (by decide)))); rintro e w52 ⟨v226, rfl, ho0, hb⟩; have n0_ := Aside0.mk (Kd.R_below (by (with_reducible repeat (first | apply Kd.R_alloc | apply Kd.R_drewN | apply Kd.R_drew)); exact HO_7.out) hb); have n1_ := Aside0.mk (Kd.R_below (by (with_reducible repeat (first | apply Kd.R_alloc | apply Kd.R_drewN | apply Kd.R_drew)); exact HO_12.out) hb); have n2_ := Aside0.mk (Kd.V_lower (Kd.V_mono (ok' := fun k_ => some k_ ≠ (.slice Ao51 t208.length co51 : Value).ownBlock) ho0 (fun k_ hk_ => Or.elim hk_ (fun hs_ => ((Kd.R_apart' (HO_12.out) (Kd.R_typed HO_7.out) (by decide)).1 k_ hs_.symm).2) (fun hn_ => (Kd.fresh' (Kd.R_lt (by (with_reducible repeat (first | apply Kd.R_alloc | apply Kd.R_drewN | apply Kd.R_drew)); exact HO_7.out)) k_ hn_)))) (below_size (by repeat (first | (with_reducible first | exact HB.out | apply below_alloc | apply pw_below_drewN | apply below_drew1) | exact HB.out)))); have n3_ := Aside0.mk (below_step (by repeat (first | (with_reducible first | exact HB.out | apply below_alloc | apply pw_below_drewN | apply below_drew1) | exact HB.out)) hb); clear HO_7; clear HO_12; clear HB; have HO_7 := n0_; have HO_12 := n1_; have HO227 := n2_; have HB := n3_; clear n0_ n1_ n2_ n3_; (try clear hb); (try clear hb2); (try clear hk); (try clear hi); (try clear ho0)) | (go_at_call 16; (with_reducible refine (davitref20_Once.calls k6 _ _ l0 _ _ x12_6 t228 _ ?side1 ?side2 ?side3 ?side4 A49.out).mono ?_); (case side1 => repeat (first | exact (Kd.C_below HR0.out HB.out) | (with_reducible refine Kd.C_alloc ?_ _) | (with_reducible refine Kd.C_drewN ?_ _) | (with_reducible refine Kd.C_drew ?_))); (case side2 => exact HC0.out); (case side3 => repeat (first | exact (Kd.R_reads' HO_12.out).2.2 | (with_reducible refine Kd.C_alloc ?_ _) | (with_reducible refine Kd.C_drewN ?_ _) | (with_reducible refine Kd.C_drew ?_))); (case side4 => exact (Kd.R_reads' HO_12.out).2.1); rintro e w53 ⟨v229, rfl, ho0, hb⟩; have n0_ := Aside0.mk (Kd.R_below (by (with_reducible repeat (first | apply Kd.R_alloc | apply Kd.R_drewN | apply Kd.R_drew)); exact HO_7.out) hb); have n1_ := Aside0.mk (Kd.R_elder' (by (with_reducible repeat (first | apply Kd.R_alloc | apply Kd.R_drewN | apply Kd.R_drew)); exact HO_12.out) (Kd.R_base ho0) hb); have n2_ := Aside0.mk (Kd.V_elder' (by (with_reducible repeat (first | apply Kd.V_alloc | apply Kd.V_drewN | apply Kd.V_drew)); exact HO227.out) (Kd.R_base ho0) hb); have n3_ := Aside0.mk (Kd.R_lower (Kd.R_new' ho0 (Kd.R_lt (by (with_reducible repeat (first | apply Kd.R_alloc | apply Kd.R_drewN | apply Kd.R_drew)); exact HO_12.out))) (below_size (by repeat (first | (with_reducible first | exact HB.out | apply below_alloc | apply pw_below_drewN | apply below_drew1) | exact HB.out)))); have n4_ := Aside0.mk (below_step (by repeat (first | (with_reducible first | exact HB.out | apply below_alloc | apply pw_below_drewN | apply below_drew1) | exact HB.out)) hb); clear HO_7; clear HO_12; clear HO227; clear HB; have HO_7 := n0_; have HO_12 := n1_; have HO227 := n2_; have HO230 := n3_; have HB := n4_; clear n0_ n1_ n2_ n3_ n4_; (try clear hb); (try clear hb2); (try clear hk); (try clear hi); (try clear ho0))); try go_wp2_with (first | (go_at_call 13; (with_reducible refine (davitref20_Made.calls k6 _ _ t208 (fun k_ => some k_ = (.slice Ao50 x12_6.length co50 : Value).ownBlock) _ _ x12_6 t225 _ ?side1 ?side2 ?side3 A48.out).mono ?_); (case side1 => repeat (first | exact (Kd.R_reads' HO_7.out).2.2 | (with_reducible refine Kd.C_alloc ?_ _) | (with_reducible refine Kd.C_drewN ?_ _) | (with_reducible refine Kd.C_drew ?_))); (case side2 => exact (Kd.R_reads' HO_7.out).2.1); (case side3 => exact Kd.R_V (Kd.R_tight rfl (Kd.R_apart' (HO_12.out) (Kd.R_typed HO_7.out) (by decide)))); rintro e w52 ⟨v226, rfl, ho0, hb⟩; have n0_ := Aside0.mk (Kd.R_below (by (with_reducible repeat (first | apply Kd.R_alloc | apply Kd.R_drewN | apply Kd.R_drew)); exact HO_7.out) hb); have n1_ := Aside0.mk (Kd.R_below (by (with_reducible repeat (first | apply Kd.R_alloc | apply Kd.R_drewN | apply Kd.R_drew)); exact HO_12.out) hb); have n2_ := Aside0.mk (Kd.V_lower (Kd.V_mono (ok' := fun k_ => some k_ ≠ (.slice Ao51 t208.length co51 : Value).ownBlock) ho0 (fun k_ hk_ => Or.elim hk_ (fun hs_ => ((Kd.R_apart' (HO_12.out) (Kd.R_typed HO_7.out) (by decide)).1 k_ hs_.symm).2) (fun hn_ => (Kd.fresh' (Kd.R_lt (by (with_reducible repeat (first | apply Kd.R_alloc | apply Kd.R_drewN | apply Kd.R_drew)); exact HO_7.out)) k_ hn_)))) (below_size (by repeat (first | (with_reducible first | exact HB.out | apply below_alloc | apply pw_below_drewN | apply below_drew1) | exact HB.out)))); have n3_ := Aside0.mk (below_step (by repeat (first | (with_reducible first | exact HB.out | apply below_alloc | apply pw_below_drewN | apply below_drew1) | exact HB.out)) hb); clear HO_7; clear HO_12; clear HB; have HO_7 := n0_; have HO_12 := n1_; have HO227 := n2_; have HB := n3_; clear n0_ n1_ n2_ n3_; (try clear hb); (try clear hb2); (try clear hk); (try clear hi); (try clear ho0)) | (go_at_call 16; (with_reducible refine (davitref20_Once.calls k6 _ _ l0 _ _ x12_6 t228 _ ?side1 ?side2 ?side3 ?side4 A49.out).mono ?_); (case side1 => repeat (first | exact (Kd.C_below HR0.out HB.out) | (with_reducible refine Kd.C_alloc ?_ _) | (with_reducible refine Kd.C_drewN ?_ _) | (with_reducible refine Kd.C_drew ?_))); (case side2 => exact HC0.out); (case side3 => repeat (first | exact (Kd.R_reads' HO_12.out).2.2 | (with_reducible refine Kd.C_alloc ?_ _) | (with_reducible refine Kd.C_drewN ?_ _) | (with_reducible refine Kd.C_drew ?_))); (case side4 => exact (Kd.R_reads' HO_12.out).2.1); rintro e w53 ⟨v229, rfl, ho0, hb⟩; have n0_ := Aside0.mk (Kd.R_below (by (with_reducible repeat (first | apply Kd.R_alloc | apply Kd.R_drewN | apply Kd.R_drew)); exact HO_7.out) hb); have n1_ := Aside0.mk (Kd.R_elder' (by (with_reducible repeat (first | apply Kd.R_alloc | apply Kd.R_drewN | apply Kd.R_drew)); exact HO_12.out) (Kd.R_base ho0) hb); have n2_ := Aside0.mk (Kd.V_elder' (by (with_reducible repeat (first | apply Kd.V_alloc | apply Kd.V_drewN | apply Kd.V_drew)); exact HO227.out) (Kd.R_base ho0) hb); have n3_ := Aside0.mk (Kd.R_lower (Kd.R_new' ho0 (Kd.R_lt (by (with_reducible repeat (first | apply Kd.R_alloc | apply Kd.R_drewN | apply Kd.R_drew)); exact HO_12.out))) (below_size (by repeat (first | (with_reducible first | exact HB.out | apply below_alloc | apply pw_below_drewN | apply below_drew1) | exact HB.out)))); have n4_ := Aside0.mk (below_step (by repeat (first | (with_reducible first | exact HB.out | apply below_alloc | apply pw_below_drewN | apply below_drew1) | exact HB.out)) hb); clear HO_7; clear HO_12; clear HO227; clear HB; have HO_7 := n0_; have HO_12 := n1_; have HO227 := n2_; have HO230 := n3_; have HB := n4_; clear n0_ n1_ n2_ n3_ n4_; (try clear hb); (try clear hb2); (try clear hk); (try clear hi); (try clear ho0))))
                      go_loopg [16] k6 (fun kq v16 w' => ∃ (x16_7 : Int), v16 = .int .i64 x16_7 ∧ Aside0 (davitlaw20_CopiesRow.l3 kq a1 x12_6 t225 t228 x16_7 = some r) ∧ Aside0 (kq ≤ k6) ∧ Aside0 (Kd.R (Kd.int .u16) 35 w' w.heap.size (fun k_ => some k_ ≠ (v229 : Value).ownBlock) (.slice Ao50 x12_6.length co50) x12_6) ∧ Aside0 (Kd.V (Kd.int .u16) 35 w' w.heap.size (fun k_ => some k_ ≠ (v229 : Value).ownBlock) v226 t225) ∧ Aside0 (Kd.R (Kd.int .u16) 35 w' w.heap.size (fun k_ => some k_ ≠ ((.slice Ao50 x12_6.length co50) : Value).ownBlock) v229 t228) ∧ Aside0 (Below w.heap.size w w'))
                      case atStart => exact ⟨(0), (by first | rfl | (simp; done) | (simp [*]; done)), H', ⟨Nat.le_refl _⟩, ⟨by (with_reducible repeat (first | apply Kd.R_alloc | apply Kd.R_drewN | apply Kd.R_drew)); exact Kd.R_mono HO_12.out (fun _ hk => hk.2)⟩, ⟨by (with_reducible repeat (first | apply Kd.V_alloc | apply Kd.V_drewN | apply Kd.V_drew)); exact Kd.V_mono HO227.out (fun _ hk => hk.2)⟩, ⟨by (with_reducible repeat (first | apply Kd.R_alloc | apply Kd.R_drewN | apply Kd.R_drew)); exact Kd.R_mono HO230.out (fun _ hk => hk.2)⟩, ⟨by repeat (first | (with_reducible first | exact HB.out | apply below_alloc | apply pw_below_drewN | apply below_drew1) | exact HB.out)⟩⟩
                      case round =>
                       clear H'
                       try clear c1
                       try clear c2
                       try clear p2
                       try clear q2
                       try clear hx2
                       try clear c3
                       try clear p3
                       try clear q3
                       try clear hx3
                       try clear hf3
                       try clear c4
                       try clear c5
                       try clear p6
                       try clear c8
                       try clear c8b0
                       try clear c8b1
                       try clear c9
                       try clear c14
                       try clear c15
                       try clear c15b0
                       try clear c16
                       try clear c16b0
                       try clear c17
                       try clear c18
                       try clear c18b0
                       try clear c19
                       try clear c19b0
                       try clear c19b1
                       try clear c20
                       try clear p21
                       try clear q21
                       try clear hx21
                       try clear c22
                       try clear c22b0
                       try clear c22b1
                       try clear p22
                       try clear q22
                       try clear hx22
                       try clear c26
                       try clear c27
                       try clear c27b0
                       try clear c28
                       try clear c28b0
                       try clear c29
                       try clear c29b0
                       try clear c30
                       try clear c30b0
                       try clear c31
                       try clear c31b0
                       try clear c32
                       try clear c32b0
                       try clear c32b1
                       try clear c35
                       try clear c35b0
                       try clear c36
                       try clear c36b0
                       try clear p37
                       try clear q37
                       try clear hx37
                       try clear hf37
                       try clear c38
                       try clear c38b0
                       try clear p39
                       try clear q39
                       try clear hx39
                       try clear hf39
                       try clear hx213_0
                       try clear hx213_1
                       try clear hx214_0
                       try clear hx214_1
                       try clear hx217_0
                       try clear hx217_1
                       try clear hx218_0
                       try clear hx218_1
                       try clear hx223_0
                       try clear hx37_0
                       try clear hx39_0
                       try clear p2
                       try clear p21
                       try clear p213
                       try clear p214
                       try clear p217
                       try clear p218
                       try clear p223
                       try clear p37
                       try clear p39
                       try clear p6
                       try clear q2
                       try clear q21
                       try clear q213
                       try clear q214
                       try clear q217
                       try clear q218
                       try clear q223
                       try clear q37
                       try clear q39
                       obtain ⟨x16_7, rfl, HA, HK7, HO_12, HO_14, HO_15, HB⟩ := hrel
                       cases gk with
                       | zero => exact absurd HA.out (by simp [davitlaw20_CopiesRow.l3])
                       | succ k7 =>
                        have H := HA.out
                        clear HA
                        simp only [davitlaw20_CopiesRow.l3] at H
                        by_cases c54 : x16_7 < (x12_6.length : Int)
                        ·rw [if_pos c54] at H
                         have c54b0 : decide (x16_7 < (x12_6.length : Int)) = true := decide_eq_true c54
                         clear c54
                         by_cases c55 : x16_7 = a1
                         ·rw [if_pos c55] at H
                          have c55b0 : (x16_7 == a1) = true := beq_iff_eq.mpr c55
                          have c55b1 : (x16_7 != a1) = false := bne_eq_false_iff_eq.mpr c55
                          clear c55
                          have H' := Aside0.mk H
                          clear H
                          go_wp2
                          repeat (go_quiet (fail); try go_wp2)
                          go_roundg k7
                          case measure => have := HJ5.out; have := HJ10.out; have := HK3.out; have := HJ20.out; have := HK5.out; have := HK6.out; have := HK7.out; omega
                          case rel => exact ⟨(wrap64 (x16_7 + 1)), (by first | rfl | (simp; done) | (simp [*]; done)), H', ⟨by have := HJ5.out; have := HJ10.out; have := HK3.out; have := HJ20.out; have := HK5.out; have := HK6.out; have := HK7.out; omega⟩, ⟨by (with_reducible repeat (first | apply Kd.R_alloc | apply Kd.R_drewN | apply Kd.R_drew)); exact HO_12.out⟩, ⟨by (with_reducible repeat (first | apply Kd.V_alloc | apply Kd.V_drewN | apply Kd.V_drew)); exact HO_14.out⟩, ⟨by (with_reducible repeat (first | apply Kd.R_alloc | apply Kd.R_drewN | apply Kd.R_drew)); exact HO_15.out⟩, ⟨by repeat (first | (with_reducible first | exact HB.out | apply below_alloc | apply pw_below_drewN | apply below_drew1) | exact HB.out)⟩⟩
                         ·rw [if_neg c55] at H
                          have c55b0 : (x16_7 == a1) = false := beq_eq_false_iff_ne.mpr c55
                          have c55b1 : (x16_7 != a1) = true := bne_iff_ne.mpr c55
                          by_cases c56 : 0 ≤ x16_7
                          ·rw [if_pos c56] at H
                           have c56b0 : decide (0 ≤ x16_7) = true := decide_eq_true c56
                           clear c56
                           by_cases c57 : x16_7 < (t225.length : Int)
                           ·rw [if_pos c57] at H
                            have c57b0 : decide (x16_7 < (t225.length : Int)) = true := decide_eq_true c57
                            clear c57
                            by_cases c58 : x16_7 < (t228.length : Int)
                            ·rw [if_pos c58] at H
                             have c58b0 : decide (x16_7 < (t228.length : Int)) = true := decide_eq_true c58
                             clear c58
                             by_cases c59 : (rd t225 x16_7) = (rd t228 x16_7)
                             ·rw [if_pos c59] at H
                              have c59b0 : ((rd t225 x16_7) == (rd t228 x16_7)) = true := beq_iff_eq.mpr c59
                              have c59b1 : ((rd t225 x16_7) != (rd t228 x16_7)) = false := bne_eq_false_iff_eq.mpr c59
                              clear c59
                              have H' := Aside0.mk H
                              clear H
                              obtain ⟨Ao60, co60, eo60⟩ := Kd.V_slice HO_14.out
                              subst eo60
                              have p231 : 0 ≤ (x16_7 : Int) := of_decide_eq_true (by first | (with_reducible assumption) | assumption)
                              have q231 : x16_7 < (t225.length : Int) := of_decide_eq_true (by first | (with_reducible assumption) | assumption)
                              obtain ⟨ad231, e231, hx231_0⟩ := Kd.at_int (Kd.V_reads' HO_14.out).2.2 x16_7 p231 q231
                              cases e231
                              replace p231 := eq_true p231
                              replace q231 := eq_true q231
                              obtain ⟨Ao61, co61, eo61⟩ := Kd.R_slice HO_15.out
                              subst eo61
                              have p232 : 0 ≤ (x16_7 : Int) := of_decide_eq_true (by first | (with_reducible assumption) | assumption)
                              have q232 : x16_7 < (t228.length : Int) := of_decide_eq_true (by first | (with_reducible assumption) | assumption)
                              obtain ⟨ad232, e232, hx232_0⟩ := Kd.at_int (Kd.R_reads' HO_15.out).2.2 x16_7 p232 q232
                              cases e232
                              replace p232 := eq_true p232
                              replace q232 := eq_true q232
                              go_wp2
                              repeat (go_quiet (fail); try go_wp2)
                              go_roundg k7
                              case measure => have := HJ5.out; have := HJ10.out; have := HK3.out; have := HJ20.out; have := HK5.out; have := HK6.out; have := HK7.out; omega
                              case rel => exact ⟨(wrap64 (x16_7 + 1)), (by first | rfl | (simp; done) | (simp [*]; done)), H', ⟨by have := HJ5.out; have := HJ10.out; have := HK3.out; have := HJ20.out; have := HK5.out; have := HK6.out; have := HK7.out; omega⟩, ⟨by (with_reducible repeat (first | apply Kd.R_alloc | apply Kd.R_drewN | apply Kd.R_drew)); exact HO_12.out⟩, ⟨by (with_reducible repeat (first | apply Kd.V_alloc | apply Kd.V_drewN | apply Kd.V_drew)); exact HO_14.out⟩, ⟨by (with_reducible repeat (first | apply Kd.R_alloc | apply Kd.R_drewN | apply Kd.R_drew)); exact HO_15.out⟩, ⟨by repeat (first | (with_reducible first | exact HB.out | apply below_alloc | apply pw_below_drewN | apply below_drew1) | exact HB.out)⟩⟩
                             ·rw [if_neg c59] at H
                              have c59b0 : ((rd t225 x16_7) == (rd t228 x16_7)) = false := beq_eq_false_iff_ne.mpr c59
                              have c59b1 : ((rd t225 x16_7) != (rd t228 x16_7)) = true := bne_iff_ne.mpr c59
                              obtain rfl := Option.some.inj H
                              obtain ⟨Ao62, co62, eo62⟩ := Kd.V_slice HO_14.out
                              subst eo62
                              have p231 : 0 ≤ (x16_7 : Int) := of_decide_eq_true (by first | (with_reducible assumption) | assumption)
                              have q231 : x16_7 < (t225.length : Int) := of_decide_eq_true (by first | (with_reducible assumption) | assumption)
                              obtain ⟨ad231, e231, hx231_0⟩ := Kd.at_int (Kd.V_reads' HO_14.out).2.2 x16_7 p231 q231
                              cases e231
                              replace p231 := eq_true p231
                              replace q231 := eq_true q231
                              obtain ⟨Ao63, co63, eo63⟩ := Kd.R_slice HO_15.out
                              subst eo63
                              have p232 : 0 ≤ (x16_7 : Int) := of_decide_eq_true (by first | (with_reducible assumption) | assumption)
                              have q232 : x16_7 < (t228.length : Int) := of_decide_eq_true (by first | (with_reducible assumption) | assumption)
                              obtain ⟨ad232, e232, hx232_0⟩ := Kd.at_int (Kd.R_reads' HO_15.out).2.2 x16_7 p232 q232
                              cases e232
                              replace p232 := eq_true p232
                              replace q232 := eq_true q232
                              go_wp2
                              repeat (go_quiet (fail); try go_wp2)
                              go_ret
                              exact ⟨by first | rfl | (simp [errW_none, errW_some] <;> rfl) | (simp [*, errW_none, errW_some] <;> rfl), by repeat (first | (with_reducible first | exact HB.out | apply below_alloc | apply pw_below_drewN | apply below_drew1) | exact HB.out)⟩
                            ·rw [if_neg c58] at H
                             exact absurd H (by simp)
                           ·rw [if_neg c57] at H
                            exact absurd H (by simp)
                          ·rw [if_neg c56] at H
                           exact absurd H (by simp)
                        ·rw [if_neg c54] at H
                         have c54b0 : decide (x16_7 < (x12_6.length : Int)) = false := decide_eq_false c54
                         clear c54
                         obtain rfl := Option.some.inj H
                         go_wp2
                         repeat (go_quiet (fail); try go_wp2)
                         go_ret
                         exact ⟨by first | rfl | (simp [errW_none, errW_some] <;> rfl) | (simp [*, errW_none, errW_some] <;> rfl), by repeat (first | (with_reducible first | exact HB.out | apply below_alloc | apply pw_below_drewN | apply below_drew1) | exact HB.out)⟩
                  ·rw [if_neg c32] at H
                   exact absurd H (by simp)
          ·replace c20 := Bool.eq_false_iff.mpr c20
           subst c20
           have H1 : (if t209 = 1 then (some ((t208.length : Int) == 0)) else (some false)) = some r := by rw [if_neg (show ¬ (false = true) by decide)] at H; exact H
           clear H
           have H := H1
           clear H1
           by_cases c64 : t209 = 1
           ·rw [if_pos c64] at H
            have c64b0 : (t209 == 1) = true := beq_iff_eq.mpr c64
            have c64b1 : (t209 != 1) = false := bne_eq_false_iff_eq.mpr c64
            clear c64
            obtain rfl := Option.some.inj H
            obtain ⟨Ao65, co65, eo65⟩ := Kd.R_slice HO_7.out
            subst eo65
            go_wp2
            repeat (go_quiet (fail); try go_wp2)
            go_ret
            exact ⟨by first | rfl | (simp [errW_none, errW_some] <;> rfl) | (simp [*, errW_none, errW_some] <;> rfl), by repeat (first | (with_reducible first | exact HB.out | apply below_alloc | apply pw_below_drewN | apply below_drew1) | exact HB.out)⟩
           ·rw [if_neg c64] at H
            have c64b0 : (t209 == 1) = false := beq_eq_false_iff_ne.mpr c64
            have c64b1 : (t209 != 1) = true := bne_iff_ne.mpr c64
            obtain rfl := Option.some.inj H
            go_wp2
            repeat (go_quiet (fail); try go_wp2)
            go_ret
            exact ⟨by first | rfl | (simp [errW_none, errW_some] <;> rfl) | (simp [*, errW_none, errW_some] <;> rfl), by repeat (first | (with_reducible first | exact HB.out | apply below_alloc | apply pw_below_drewN | apply below_drew1) | exact HB.out)⟩
 ·replace c5 := Bool.eq_false_iff.mpr c5
  subst c5
  have H1 : (some false) = some r := by rw [if_neg (show ¬ (false = true) by decide)] at H; exact H
  clear H
  have H := H1
  clear H1
  obtain rfl := Option.some.inj H
  go_enter Try.func4, Try.ntmps4
  go_wp2_with (first | (go_at_call 6; (with_reducible refine (davitlaw20_awake.calls k  false _ A4.out).mono ?_); rintro e w66 ⟨rfl, hb⟩; have n0_ := Aside0.mk (below_step (by repeat (first | (with_reducible first | exact HB.out | apply below_alloc | apply pw_below_drewN | apply below_drew1) | exact HB.out)) hb); clear HB; have HB := n0_; clear n0_; (try clear hb); (try clear hb2); (try clear hk); (try clear hi)))
  repeat (go_quiet (first | (go_at_call 6; (with_reducible refine (davitlaw20_awake.calls k  false _ A4.out).mono ?_); rintro e w66 ⟨rfl, hb⟩; have n0_ := Aside0.mk (below_step (by repeat (first | (with_reducible first | exact HB.out | apply below_alloc | apply pw_below_drewN | apply below_drew1) | exact HB.out)) hb); clear HB; have HB := n0_; clear n0_; (try clear hb); (try clear hb2); (try clear hk); (try clear hi))); try go_wp2_with (first | (go_at_call 6; (with_reducible refine (davitlaw20_awake.calls k  false _ A4.out).mono ?_); rintro e w66 ⟨rfl, hb⟩; have n0_ := Aside0.mk (below_step (by repeat (first | (with_reducible first | exact HB.out | apply below_alloc | apply pw_below_drewN | apply below_drew1) | exact HB.out)) hb); clear HB; have HB := n0_; clear n0_; (try clear hb); (try clear hb2); (try clear hk); (try clear hi))))
  go_ret
  exact ⟨by first | rfl | (simp [errW_none, errW_some] <;> rfl) | (simp [*, errW_none, errW_some] <;> rfl), by repeat (first | (with_reducible first | exact HB.out | apply below_alloc | apply pw_below_drewN | apply below_drew1) | exact HB.out)⟩
end
end Go.Proofs.Ytfbbfnadmnejeaa.X
namespace Go.Proofs.Ytfbbfnadmnejeaa.G
open Go.Proofs.Ytfbbfnadmnejeaa.X
set_option linter.all false
def frm : List S34 → Int → Int
 | [], _ => -1
 | m :: r, p => if m.f0 = p then m.f1 else frm r p
def ds (l : List S34) : List Int := l.map (·.f0)
def ss (l : List S34) : List Int := l.map (·.f1)
theorem mem_ds {l : List S34} {m : S34} (h : m ∈ l) : m.f0 ∈ ds l := List.mem_map.2 ⟨m, h, rfl⟩
theorem mem_ss {l : List S34} {m : S34} (h : m ∈ l) : m.f1 ∈ ss l := List.mem_map.2 ⟨m, h, rfl⟩
theorem of_ds {l : List S34} {p : Int} (h : p ∈ ds l) : ∃ m ∈ l, m.f0 = p := List.mem_map.1 h
theorem of_ss {l : List S34} {p : Int} (h : p ∈ ss l) : ∃ m ∈ l, m.f1 = p := List.mem_map.1 h
theorem frm_none {l : List S34} {p : Int} (h : p ∉ ds l) : frm l p = -1 := by
 induction l with
 | nil => rfl
 | cons m r ih =>
  simp only [ds, List.map_cons, List.mem_cons, not_or] at h
  rw [frm, if_neg (fun e => h.1 e.symm)]
  exact ih h.2
theorem frm_some {l : List S34} {m : S34} (hn : (ds l).Nodup) (h : m ∈ l) : frm l m.f0 = m.f1 := by
 induction l with
 | nil => cases h
 | cons a r ih =>
  simp only [ds, List.map_cons, List.nodup_cons] at hn
  rcases List.mem_cons.1 h with rfl | h
  ·rw [frm, if_pos rfl]
  ·rw [frm, if_neg (fun e => hn.1 (by rw [e]; exact mem_ds h))]
   exact ih hn.2 h
theorem frm_mem (l : List S34) (p : Int) : frm l p ∈ ss l ∨ frm l p = -1 := by
 induction l with
 | nil => exact .inr rfl
 | cons a r ih =>
  rw [frm]
  split
  ·exact .inl (by simp [ss])
  ·rcases ih with h | h
   ·exact .inl (by simp only [ss, List.map_cons, List.mem_cons]; exact .inr h)
   ·exact .inr h
theorem frm_cut (a b : List S34) (m : S34) {p : Int} (h : p ≠ m.f0) : frm (a ++ m :: b) p = frm (a ++ b) p := by
 induction a with
 | nil => show frm (m :: b) p = frm b p; rw [frm, if_neg (fun e => h e.symm)]
 | cons x a ih =>
  show frm (x :: (a ++ m :: b)) p = frm (x :: (a ++ b)) p
  rw [frm, frm, ih]
theorem frm_filter (f : S34 → Bool) {l : List S34} {p : Int} (h : ∀ m ∈ l, m.f0 = p → f m = true) : frm (l.filter f) p = frm l p := by
 induction l with
 | nil => rfl
 | cons a r ih =>
  have ih := ih (fun m hm => h m (List.mem_cons_of_mem _ hm))
  rw [List.filter_cons]
  by_cases e : a.f0 = p
  ·rw [if_pos (h a (by simp) e), frm, frm, if_pos e, if_pos e]
  ·split
   ·rw [frm, frm, if_neg e, if_neg e, ih]
   ·rw [frm, if_neg e, ih]
def orb (f : Int → Int) (p : Int) : Nat → Int
 | 0 => p
 | t + 1 => f (orb f p t)
theorem orb_add (f : Int → Int) (p : Int) (s t : Nat) : orb f p (s + t) = orb f (orb f p s) t := by
 induction t with
 | zero => rfl
 | succ t ih => show f (orb f p (s + t)) = f _; rw [ih]
theorem orb_one (f : Int → Int) (p : Int) (t : Nat) : orb f (f p) t = orb f p (t + 1) := by
 rw [Nat.add_comm t 1, orb_add f p 1 t]; rfl
theorem orb_mul (f : Int → Int) {p : Int} {T : Nat} (h : orb f p T = p) (k : Nat) : orb f p (k * T) = p := by
 induction k with
 | zero => rw [Nat.zero_mul]; rfl
 | succ k ih => rw [Nat.succ_mul, orb_add, ih, h]
theorem orb_mod (f : Int → Int) {p : Int} {T : Nat} (h : orb f p T = p) (s : Nat) : orb f p s = orb f p (s % T) := by
 conv => lhs; rw [show s = s / T * T + s % T by rw [Nat.mul_comm]; exact (Nat.div_add_mod s T).symm]
 rw [orb_add, orb_mul f h]
def Least (l : List S34) (m : S34) : Prop := ∃ t, orb (frm l) m.f1 t = m.f0 ∧ ∀ j, j < t → m.f0 < orb (frm l) m.f1 j
open Classical in
noncomputable def cyc (l : List S34) : Nat := l.countP fun m => decide (Least l m)
structure Ok (l : List S34) : Prop where
 nd : (ds l).Nodup
 nn : ∀ m ∈ l, 0 ≤ m.f0
 real : ∀ m ∈ l, m.f0 ≠ m.f1
theorem Ok.uniq {l : List S34} (h : Ok l) {m m' : S34} (hm : m ∈ l) (hm' : m' ∈ l) (e : m.f0 = m'.f0) : m = m' := by
 have h1 := frm_some h.nd hm
 have h2 := frm_some h.nd hm'
 rw [e, h2] at h1
 cases m; cases m'; simp_all
theorem Ok.cut {a b : List S34} {m : S34} (h : Ok (a ++ m :: b)) : Ok (a ++ b) := by
 have hs : ∀ x ∈ a ++ b, x ∈ a ++ m :: b := fun x hx => by
  rcases List.mem_append.1 hx with hx | hx
  ·exact List.mem_append_left _ hx
  ·exact List.mem_append_right _ (List.mem_cons_of_mem _ hx)
 refine ⟨?_, fun x hx => h.nn x (hs x hx), fun x hx => h.real x (hs x hx)⟩
 have h1 := h.nd
 simp only [ds, List.map_append, List.map_cons] at h1 ⊢
 exact h1.sublist (List.Sublist.append (List.Sublist.refl _) (List.sublist_cons_self _ _))
theorem cyc_cut {a b : List S34} {m : S34} (h : Ok (a ++ m :: b)) (hf : m.f0 ∉ ss (a ++ m :: b)) : cyc (a ++ m :: b) = cyc (a ++ b) := by
 classical
 have h0 := h.nn m (by simp)
 have key : ∀ x ∈ a ++ m :: b, ∀ t, orb (frm (a ++ m :: b)) x.f1 t ≠ m.f0 := by
  intro x hx t
  cases t with
  | zero => exact fun e => hf (e ▸ mem_ss hx)
  | succ t =>
   intro e
   rcases frm_mem (a ++ m :: b) (orb (frm (a ++ m :: b)) x.f1 t) with h1 | h1
   ·exact hf (by rw [← e]; exact h1)
   ·have e2 : frm (a ++ m :: b) (orb (frm (a ++ m :: b)) x.f1 t) = m.f0 := e
    omega
 have same : ∀ x ∈ a ++ m :: b, ∀ t, orb (frm (a ++ m :: b)) x.f1 t = orb (frm (a ++ b)) x.f1 t := by
  intro x hx t
  induction t with
  | zero => rfl
  | succ t ih =>
   show frm _ _ = frm _ _
   rw [← ih]
   exact frm_cut a b m (key x hx t)
 have iff : ∀ x ∈ a ++ m :: b, (Least (a ++ m :: b) x ↔ Least (a ++ b) x) := by
  intro x hx
  unfold Least
  constructor
  ·rintro ⟨t, h1, h2⟩
   exact ⟨t, by rw [← same x hx]; exact h1, fun j hj => by rw [← same x hx]; exact h2 j hj⟩
  ·rintro ⟨t, h1, h2⟩
   exact ⟨t, by rw [same x hx]; exact h1, fun j hj => by rw [same x hx]; exact h2 j hj⟩
 have hno : ¬ Least (a ++ m :: b) m := fun ⟨t, ht, _⟩ => key m (by simp) t ht
 unfold cyc
 rw [List.countP_append, List.countP_cons, List.countP_append, if_neg (by simpa using hno)]
 rw [List.countP_congr (l := a) (q := fun x => decide (Least (a ++ b) x)) (fun x hx => by simpa using iff x (by simp [hx]))]
 rw [List.countP_congr (l := b) (q := fun x => decide (Least (a ++ b) x)) (fun x hx => by simpa using iff x (by simp [hx]))]
 omega
section
variable {l : List S34}
theorem full_src (h : Ok l) (hf : ∀ m ∈ l, m.f0 ∈ ss l) : ∀ m ∈ l, m.f1 ∈ ds l := by
 intro m hm
 by_cases hin : m.f1 ∈ ds l
 ·exact hin
 ·exfalso
  have hsub : ds l ⊆ (ss l).erase m.f1 := by
   intro p hp
   obtain ⟨x, hx, rfl⟩ := of_ds hp
   exact (List.mem_erase_of_ne (fun e => hin (by rw [← e]; exact mem_ds hx))).2 (hf x hx)
  have := h.nd.length_le_of_subset hsub
  rw [List.length_erase, if_pos (mem_ss hm)] at this
  have h1 : 0 < l.length := List.length_pos_of_mem hm
  simp [ds, ss] at this
  omega
theorem full_inj (h : Ok l) (hf : ∀ m ∈ l, m.f0 ∈ ss l) {m m' : S34} (hm : m ∈ l) (hm' : m' ∈ l) (e : m.f1 = m'.f1) : m = m' := by
 obtain ⟨i, hi, rfl⟩ := List.getElem_of_mem hm
 obtain ⟨j, hj, rfl⟩ := List.getElem_of_mem hm'
 by_cases hij : i = j
 ·subst hij; rfl
 ·exfalso
  have hsub : ds l ⊆ (ss l).eraseIdx j := by
   intro p hp
   obtain ⟨x, hx, rfl⟩ := of_ds hp
   obtain ⟨y, hy, hye⟩ := of_ss (hf x hx)
   obtain ⟨k, hk, rfl⟩ := List.getElem_of_mem hy
   rw [List.mem_eraseIdx_iff_getElem]
   by_cases hkj : k = j
   ·subst hkj
    exact ⟨i, by simpa [ss] using hi, hij, by simp only [ss, List.getElem_map]; rw [e, hye]⟩
   ·exact ⟨k, by simpa [ss] using hk, hkj, by simp only [ss, List.getElem_map]; rw [hye]⟩
  have := h.nd.length_le_of_subset hsub
  rw [List.length_eraseIdx, if_pos (by simpa [ss] using hj)] at this
  simp [ds, ss] at this
  omega
theorem frm_in (h : Ok l) (hf : ∀ m ∈ l, m.f0 ∈ ss l) {p : Int} (hp : p ∈ ds l) : frm l p ∈ ds l := by
 obtain ⟨m, hm, rfl⟩ := of_ds hp
 rw [frm_some h.nd hm]
 exact full_src h hf m hm
theorem frm_inj (h : Ok l) (hf : ∀ m ∈ l, m.f0 ∈ ss l) {p q : Int} (hp : p ∈ ds l) (hq : q ∈ ds l) (e : frm l p = frm l q) : p = q := by
 obtain ⟨m, hm, rfl⟩ := of_ds hp
 obtain ⟨m', hm', rfl⟩ := of_ds hq
 rw [frm_some h.nd hm, frm_some h.nd hm'] at e
 rw [full_inj h hf hm hm' e]
theorem orb_in (h : Ok l) (hf : ∀ m ∈ l, m.f0 ∈ ss l) {p : Int} (hp : p ∈ ds l) (t : Nat) : orb (frm l) p t ∈ ds l := by
 induction t with
 | zero => exact hp
 | succ t ih => exact frm_in h hf ih
theorem orb_cancel (h : Ok l) (hf : ∀ m ∈ l, m.f0 ∈ ss l) {p : Int} (hp : p ∈ ds l) (i d : Nat) (e : orb (frm l) p i = orb (frm l) p (i + d)) : orb (frm l) p d = p := by
 induction i with
 | zero => rw [Nat.zero_add] at e; exact e.symm
 | succ i ih =>
  rw [show i + 1 + d = (i + d) + 1 by omega] at e
  exact ih (frm_inj h hf (orb_in h hf hp i) (orb_in h hf hp (i + d)) e)
theorem orb_back (h : Ok l) (hf : ∀ m ∈ l, m.f0 ∈ ss l) {p : Int} (hp : p ∈ ds l) : ∃ T, 0 < T ∧ orb (frm l) p T = p := by
 by_cases hn : ((List.range (l.length + 1)).map (orb (frm l) p)).Nodup
 ·exfalso
  have := hn.length_le_of_subset (l₂ := ds l) (fun x hx => by
   obtain ⟨t, _, rfl⟩ := List.mem_map.1 hx
   exact orb_in h hf hp t)
  simp [ds] at this
  omega
 ·have : ∃ i j, i < j ∧ orb (frm l) p i = orb (frm l) p j := by
   by_cases hex : ∃ i j, i < j ∧ orb (frm l) p i = orb (frm l) p j
   ·exact hex
   ·exfalso
    apply hn
    rw [List.nodup_iff_pairwise_ne, List.pairwise_map]
    exact List.pairwise_lt_range.imp (fun {i j} hij e => hex ⟨i, j, hij, e⟩)
  obtain ⟨i, j, hij, e⟩ := this
  exact ⟨j - i, by omega, orb_cancel h hf hp i (j - i) (by rw [e]; congr 1; omega)⟩
def Rc (l : List S34) (p q : Int) : Prop := ∃ t, orb (frm l) p t = q
theorem Rc.symm (h : Ok l) (hf : ∀ m ∈ l, m.f0 ∈ ss l) {p q : Int} (hp : p ∈ ds l) (hr : Rc l p q) : Rc l q p := by
 obtain ⟨t, rfl⟩ := hr
 obtain ⟨T, hT, e⟩ := orb_back h hf hp
 have hk : t ≤ (t + 1) * T := by
  have : (t + 1) * 1 ≤ (t + 1) * T := Nat.mul_le_mul_left _ hT
  omega
 exact ⟨(t + 1) * T - t, by rw [← orb_add, show t + ((t + 1) * T - t) = (t + 1) * T by omega]; exact orb_mul _ e _⟩
theorem Rc.trans {p q r : Int} (h1 : Rc l p q) (h2 : Rc l q r) : Rc l p r := by
 obtain ⟨s, rfl⟩ := h1
 obtain ⟨t, rfl⟩ := h2
 exact ⟨s + t, orb_add _ _ _ _⟩
theorem least_iff (h : Ok l) (hf : ∀ m ∈ l, m.f0 ∈ ss l) {m : S34} (hm : m ∈ l) : Least l m ↔ ∀ q, Rc l m.f0 q → m.f0 ≤ q := by
 have e1 : frm l m.f0 = m.f1 := frm_some h.nd hm
 constructor
 ·rintro ⟨t, h1, h2⟩ q ⟨s, rfl⟩
  have h1' : orb (frm l) m.f0 (t + 1) = m.f0 := by rw [← orb_one, e1]; exact h1
  rw [orb_mod _ h1' s]
  have hs : s % (t + 1) < t + 1 := Nat.mod_lt s (Nat.succ_pos t)
  cases hc : s % (t + 1) with
  | zero => exact Int.le_refl _
  | succ j =>
   rw [← orb_one, e1]
   exact Int.le_of_lt (h2 j (by omega))
 ·intro hall
  obtain ⟨T, ⟨hT, e⟩, hmin⟩ := Go.exists_least (orb_back h hf (mem_ds hm))
  refine ⟨T - 1, ?_, fun j hj => ?_⟩
  ·rw [← e1, orb_one, show T - 1 + 1 = T by omega]; exact e
  ·have hle := hall (orb (frm l) m.f1 j) ⟨j + 1, by rw [← orb_one, e1]⟩
   have hne : m.f0 ≠ orb (frm l) m.f1 j := fun hne => by
    have := hmin (j + 1) ⟨by omega, by rw [← orb_one, e1]; exact hne.symm⟩
    omega
   omega
end
def away (lost apart : Int) (m : S34) : S34 := if m.f1 = lost then ⟨m.f0, apart⟩ else m
theorem away_f0 (lost apart : Int) (m : S34) : (away lost apart m).f0 = m.f0 := by unfold away; split <;> rfl
theorem ds_away (lost apart : Int) (l : List S34) : ds (l.map (away lost apart)) = ds l := by
 simp only [ds, List.map_map]
 exact List.map_congr_left (fun m _ => away_f0 lost apart m)
theorem countP_one {α : Type} (p : α → Bool) (l : List α) (a : α) (ha : a ∈ l) (hp : p a = true) (hn : l.Nodup) (hu : ∀ b ∈ l, p b = true → b = a) : l.countP p = 1 := by
 induction l with
 | nil => cases ha
 | cons x r ih =>
  rw [List.nodup_cons] at hn
  rw [List.countP_cons]
  by_cases hx : p x = true
  ·have := hu x (by simp) hx
   subst this
   have : r.countP p = 0 := by
    rw [List.countP_eq_zero]
    intro b hb hpb
    have := hu b (by simp [hb]) hpb
    subst this
    exact hn.1 hb
   rw [this, if_pos hx]
  ·have hr : a ∈ r := by
    rcases List.mem_cons.1 ha with rfl | h
    ·exact absurd hp hx
    ·exact h
   rw [if_neg hx, ih hr hn.2 (fun b hb => hu b (by simp [hb]))]
theorem min_of (l : List S34) (P : S34 → Prop) (h : ∃ m ∈ l, P m) : ∃ m ∈ l, P m ∧ ∀ x ∈ l, P x → m.f0 ≤ x.f0 := by
 classical
 induction l with
 | nil => obtain ⟨m, hm, _⟩ := h; cases hm
 | cons a r ih =>
  by_cases hr : ∃ m ∈ r, P m
  ·obtain ⟨m, hm, hp, hle⟩ := ih hr
   by_cases ha : P a ∧ a.f0 < m.f0
   ·refine ⟨a, by simp, ha.1, fun x hx hpx => ?_⟩
    rcases List.mem_cons.1 hx with rfl | hx
    ·exact Int.le_refl _
    ·have := hle x hx hpx; omega
   ·refine ⟨m, by simp [hm], hp, fun x hx hpx => ?_⟩
    rcases List.mem_cons.1 hx with rfl | hx
    ·have : ¬ x.f0 < m.f0 := fun h => ha ⟨hpx, h⟩
     omega
    ·exact hle x hx hpx
  ·obtain ⟨m, hm, hp⟩ := h
   rcases List.mem_cons.1 hm with rfl | hm
   ·refine ⟨m, by simp, hp, fun x hx hpx => ?_⟩
    rcases List.mem_cons.1 hx with rfl | hx
    ·exact Int.le_refl _
    ·exact absurd ⟨x, hx, hpx⟩ hr
   ·exact absurd ⟨m, hm, hp⟩ hr
theorem cyc_open {l : List S34} (h : Ok l) (hf : ∀ m ∈ l, m.f0 ∈ ss l) {x : S34} (hx : x ∈ l) {apart : Int} (ha : apart ∉ ds l) : cyc l = cyc (l.map (away x.f0 apart)) + 1 := by
 classical
 have hlost := mem_ds hx
 have hminus : (-1 : Int) ∉ ds l := fun hm => by
  obtain ⟨y, hy, e⟩ := of_ds hm
  have := h.nn y hy
  omega
 have fr2 : ∀ p ∈ ds l, frm (l.map (away x.f0 apart)) p = if frm l p = x.f0 then apart else frm l p := by
  intro p hp
  obtain ⟨m, hm, rfl⟩ := of_ds hp
  have h1 := frm_some (l := l.map (away x.f0 apart)) (by rw [ds_away]; exact h.nd) (List.mem_map.2 ⟨m, hm, rfl⟩)
  rw [away_f0] at h1
  rw [h1, frm_some h.nd hm]
  unfold away
  split <;> rfl
 have fr2n : ∀ p, p ∉ ds l → frm (l.map (away x.f0 apart)) p = -1 := fun p hp => frm_none (by rw [ds_away]; exact hp)
 have track : ∀ (q : Int) (t : Nat), orb (frm (l.map (away x.f0 apart))) q t ∈ ds l → q ∈ ds l ∧ (∀ j, j ≤ t → orb (frm (l.map (away x.f0 apart))) q j = orb (frm l) q j) ∧ ∀ j, 0 < j → j ≤ t → orb (frm l) q j ≠ x.f0 := by
  intro q t
  induction t with
  | zero => exact fun hq => ⟨hq, fun j hj => by rw [Nat.le_zero.1 hj]; rfl, fun j h0 hj => by omega⟩
  | succ t ih =>
   intro hq
   have hq1 : frm (l.map (away x.f0 apart)) (orb (frm (l.map (away x.f0 apart))) q t) ∈ ds l := hq
   by_cases hin : orb (frm (l.map (away x.f0 apart))) q t ∈ ds l
   ·obtain ⟨h1, h2, h3⟩ := ih hin
    rw [fr2 _ hin, h2 t (Nat.le_refl _)] at hq1
    by_cases e : frm l (orb (frm l) q t) = x.f0
    ·rw [if_pos e] at hq1; exact absurd hq1 ha
    ·refine ⟨h1, fun j hj => ?_, fun j h0 hj => ?_⟩
     ·rcases Nat.lt_or_ge t j with hlt | hge
      ·obtain rfl : j = t + 1 := by omega
       show frm _ _ = frm _ _
       rw [fr2 _ hin, h2 t (Nat.le_refl _), if_neg e]
      ·exact h2 j hge
     ·rcases Nat.lt_or_ge t j with hlt | hge
      ·obtain rfl : j = t + 1 := by omega
       exact e
      ·exact h3 j h0 hge
   ·rw [fr2n _ hin] at hq1
    exact absurd hq1 hminus
 have iff : ∀ m ∈ l, (Least (l.map (away x.f0 apart)) (away x.f0 apart m) ↔ Least l m ∧ ¬ Rc l x.f0 m.f0) := by
  intro m hm
  have e1 : frm l m.f0 = m.f1 := frm_some h.nd hm
  constructor
  ·rintro ⟨t, h1, h2⟩
   rw [away_f0] at h1 h2
   obtain ⟨i1, i2, i3⟩ := track _ t (by rw [h1]; exact mem_ds hm)
   have hne : m.f1 ≠ x.f0 := fun e => by
    unfold away at i1
    rw [if_pos e] at i1
    exact ha i1
   have em : away x.f0 apart m = m := by unfold away; rw [if_neg hne]
   rw [em] at h1 h2 i2 i3
   have h1' : orb (frm l) m.f1 t = m.f0 := by rw [← i2 t (Nat.le_refl _)]; exact h1
   refine ⟨⟨t, h1', fun j hj => by rw [← i2 j (by omega)]; exact h2 j hj⟩, fun hr => ?_⟩
   obtain ⟨s, hs⟩ := Rc.symm h hf hlost hr
   have hT : orb (frm l) m.f0 (t + 1) = m.f0 := by rw [← orb_one, e1]; exact h1'
   rw [orb_mod _ hT s] at hs
   have hlt : s % (t + 1) < t + 1 := Nat.mod_lt s (Nat.succ_pos t)
   have no : ∀ j, j ≤ t → orb (frm l) m.f1 j ≠ x.f0 := fun j hj => by
    cases j with
    | zero => exact hne
    | succ j => exact i3 (j + 1) (by omega) hj
   cases hc : s % (t + 1) with
   | zero =>
    rw [hc] at hs
    exact no t (Nat.le_refl _) (h1'.trans hs)
   | succ j =>
    rw [hc, ← orb_one, e1] at hs
    exact no j (by omega) hs
  ·rintro ⟨⟨t, h1, h2⟩, hr⟩
   have no : ∀ j, orb (frm l) m.f1 j ≠ x.f0 := fun j e => hr (Rc.symm h hf (mem_ds hm) ⟨j + 1, by rw [← orb_one, e1]; exact e⟩)
   have em : away x.f0 apart m = m := by unfold away; rw [if_neg (show m.f1 ≠ x.f0 from no 0)]
   have same : ∀ j, orb (frm (l.map (away x.f0 apart))) m.f1 j = orb (frm l) m.f1 j := by
    intro j
    induction j with
    | zero => rfl
    | succ j ih =>
     show frm _ _ = frm _ _
     rw [ih, fr2 _ (orb_in h hf (full_src h hf m hm) j), if_neg (show ¬ frm l (orb (frm l) m.f1 j) = x.f0 from no (j + 1))]
   rw [em]
   exact ⟨t, by rw [same]; exact h1, fun j hj => by rw [same]; exact h2 j hj⟩
 unfold cyc
 rw [List.countP_map]
 have c1 : l.countP (fun m => decide (Least (l.map (away x.f0 apart)) (away x.f0 apart m))) = l.countP (fun m => decide (Least l m) && !decide (Rc l x.f0 m.f0)) :=
  List.countP_congr (fun m hm => by simpa using iff m hm)
 have c2 : l.countP (fun m => decide (Least l m) && decide (Rc l x.f0 m.f0)) = 1 := by
  obtain ⟨m, hm, hr, hle⟩ := min_of l (fun m => Rc l x.f0 m.f0) ⟨x, hx, 0, rfl⟩
  refine countP_one _ l m hm ?_ ?_ ?_
  ·have hl : Least l m := (least_iff h hf hm).2 (fun q hq => by
    obtain ⟨t, rfl⟩ := hq
    obtain ⟨y, hy, e⟩ := of_ds (orb_in h hf (mem_ds hm) t)
    rw [← e]
    exact hle y hy (by rw [e]; exact Rc.trans hr ⟨t, rfl⟩))
   simp [hl, hr]
  ·have := h.nd
   rw [ds, List.nodup_iff_pairwise_ne, List.pairwise_map] at this
   rw [List.nodup_iff_pairwise_ne]
   exact this.imp (fun hne e => hne (by rw [e]))
  ·intro b hb hp
   simp only [Bool.and_eq_true, decide_eq_true_eq] at hp
   have h1 := hle b hb hp.2
   have h2 := (least_iff h hf hb).1 hp.1 m.f0 (Rc.trans (Rc.symm h hf hlost hp.2) hr)
   exact h.uniq hb hm (by omega)
 have c3 : l.countP (fun m => decide (Least l m)) = l.countP (fun m => decide (Least l m) && !decide (Rc l x.f0 m.f0)) + l.countP (fun m => decide (Least l m) && decide (Rc l x.f0 m.f0)) := by
  clear c1 c2 iff track fr2 fr2n
  generalize hL : (fun m => decide (Least l m)) = L
  have : ∀ (r : List S34), r.countP (fun m => decide (Least l m)) = r.countP (fun m => decide (Least l m) && !decide (Rc l x.f0 m.f0)) + r.countP (fun m => decide (Least l m) && decide (Rc l x.f0 m.f0)) := by
   intro r
   induction r with
   | nil => rfl
   | cons a r ih =>
    simp only [List.countP_cons, ih]
    by_cases h1 : Least l a <;> by_cases h2 : Rc l x.f0 a.f0 <;> simp [h1, h2] <;> omega
  rw [← hL]
  exact this l
 rw [c3, c2]
 congr 1
 exact c1.symm
end Go.Proofs.Ytfbbfnadmnejeaa.G
namespace Go.Proofs.Ytfbbfnadmnejeaa.G
open Go.Proofs.Ytfbbfnadmnejeaa.X Go.RowKit Go.Proofs.YtfbbfnadmnejeaaW.PrintWords
set_option linter.all false
def Evt {α : Type} (g : Nat → Option α) (r : α) : Prop := ∃ k0, ∀ k, k0 ≤ k → g k = some r
theorem Evt.succ {α : Type} {g : Nat → Option α} {r : α} (h : Evt (fun k => g (k + 1)) r) : Evt g r := by
 obtain ⟨k0, h⟩ := h
 refine ⟨k0 + 1, fun k hk => ?_⟩
 obtain ⟨j, rfl⟩ : ∃ j, k = j + 1 := ⟨k - 1, by omega⟩
 exact h j (by omega)
theorem Evt.bind {α β : Type} {g : Nat → Option α} {h : Nat → α → Option β} {a : α} {r : β} (h1 : Evt g a) (h2 : Evt (fun k => h k a) r) : Evt (fun k => (g k).bind (h k)) r := by
 obtain ⟨k1, h1⟩ := h1
 obtain ⟨k2, h2⟩ := h2
 refine ⟨k1 + k2, fun k hk => ?_⟩
 show (g k).bind (h k) = some r
 rw [h1 k (by omega)]
 exact h2 k (by omega)
theorem Evt.pure {α : Type} (r : α) : Evt (fun _ => some r) r := ⟨0, fun _ _ => rfl⟩
theorem Evt.congr {α : Type} {g g' : Nat → Option α} {r : α} (h : Evt g' r) (e : ∀ k, g k = g' k) : Evt g r := by
 obtain ⟨k0, h⟩ := h
 exact ⟨k0, fun k hk => (e k).trans (h k hk)⟩
theorem Evt.inj {α : Type} {g : Nat → Option α} {r s : α} (h1 : Evt g r) (h2 : Evt g s) : r = s := by
 obtain ⟨k1, h1⟩ := h1
 obtain ⟨k2, h2⟩ := h2
 have e1 := h1 (k1 + k2) (by omega)
 have e2 := h2 (k1 + k2) (by omega)
 rw [e1] at e2
 exact Option.some.inj e2
theorem Evt.ex {α : Type} {g : Nat → Option α} {r : α} (h : Evt g r) : ∃ k, g k = some r := by
 obtain ⟨k0, h⟩ := h
 exact ⟨k0, h k0 (Nat.le_refl _)⟩
def wd (w : List Int) (p : Int) : Int := if 0 ≤ p ∧ p < (w.length : Int) then w.getD p.toNat 0 else 0
def put (w : List Int) (d v : Int) : List Int := if 0 ≤ d ∧ d < (w.length : Int) then w.set d.toNat v else w
theorem put_len (w : List Int) (d v : Int) : (put w d v).length = w.length := by unfold put; split <;> simp
theorem wd_put (w : List Int) (d v p : Int) (hd : 0 ≤ d ∧ d < (w.length : Int)) : wd (put w d v) p = if p = d then v else wd w p := by
 unfold wd
 rw [put_len]
 unfold put
 rw [if_pos hd]
 by_cases e : p = d
 ·subst e
  rw [if_pos hd, if_pos rfl, List.getD_eq_getElem?_getD, List.getElem?_set_self (by omega)]; rfl
 ·rw [if_neg e]
  by_cases hp : 0 ≤ p ∧ p < (w.length : Int)
  ·rw [if_pos hp, if_pos hp, List.getD_eq_getElem?_getD, List.getElem?_set_ne (by omega), ← List.getD_eq_getElem?_getD]
  ·rw [if_neg hp, if_neg hp]
theorem wd_put_ne (w : List Int) (d v p : Int) (hne : p ≠ d) : wd (put w d v) p = wd w p := by
 by_cases hd : 0 ≤ d ∧ d < (w.length : Int)
 ·rw [wd_put w d v p hd, if_neg hne]
 ·unfold put; rw [if_neg hd]
def onceGo (w : List Int) : List S34 → List Int → List Int
 | [], out => out
 | m :: r, out => onceGo w r (put out m.f0 (wd w m.f1))
def once (l : List S34) (w : List Int) : List Int := onceGo w l w
def made : List S34 → List Int → List Int
 | [], w => w
 | m :: r, w => made r (put w m.f0 (wd w m.f1))
theorem onceGo_len (w : List Int) : ∀ (l : List S34) (out : List Int), (onceGo w l out).length = out.length
 | [], _ => rfl
 | m :: r, out => by rw [onceGo, onceGo_len w r, put_len]
theorem made_len : ∀ (l : List S34) (w : List Int), (made l w).length = w.length
 | [], _ => rfl
 | m :: r, w => by rw [made, made_len r, put_len]
def InR (N : Nat) (l : List S34) : Prop := ∀ m ∈ l, (0 ≤ m.f0 ∧ m.f0 < (N : Int)) ∧ (0 ≤ m.f1 ∧ m.f1 < (N : Int))
theorem once_no (w : List Int) (p : Int) : ∀ (l : List S34) (out : List Int), p ∉ ds l → wd (onceGo w l out) p = wd out p
 | [], _, _ => rfl
 | m :: r, out, h => by
  simp only [ds, List.map_cons, List.mem_cons, not_or] at h
  rw [onceGo, once_no w p r _ h.2, wd_put_ne _ _ _ _ h.1]
theorem once_at (w : List Int) (m : S34) : ∀ (l : List S34) (out : List Int), (ds l).Nodup → m ∈ l → (0 ≤ m.f0 ∧ m.f0 < (out.length : Int)) → wd (onceGo w l out) m.f0 = wd w m.f1
 | [], _, _, h, _ => by cases h
 | x :: r, out, hn, h, hr => by
  simp only [ds, List.map_cons, List.nodup_cons] at hn
  rw [onceGo]
  rcases List.mem_cons.1 h with rfl | h
  ·rw [once_no w m.f0 r _ hn.1, wd_put _ _ _ _ hr, if_pos rfl]
  ·exact once_at w m r _ hn.2 h (by rw [put_len]; exact hr)
def Sem (N : Nat) (l : List S34) (apart : Int) (r : List S34) : Prop := ∀ w : List Int, w.length = N → ∀ p, p ≠ apart → wd (made r w) p = wd (once l w) p
theorem sem_nil (N : Nat) (apart : Int) : Sem N [] apart [] := fun w _ p _ => rfl
theorem sem_cut {N : Nat} {a b : List S34} {m : S34} {apart : Int} {r : List S34} (h : Ok (a ++ m :: b)) (hf : m.f0 ∉ ss (a ++ m :: b)) (hr : InR N (a ++ m :: b)) (hs : Sem N (a ++ b) apart r) : Sem N (a ++ m :: b) apart (m :: r) := by
 intro w hw p hp
 have hm : m ∈ a ++ m :: b := by simp
 have sub : ∀ x ∈ a ++ b, x ∈ a ++ m :: b := fun x hx => by
  rcases List.mem_append.1 hx with hx | hx
  ·exact List.mem_append_left _ hx
  ·exact List.mem_append_right _ (List.mem_cons_of_mem _ hx)
 have hmr := hr m hm
 have hw2 : (put w m.f0 (wd w m.f1)).length = N := by rw [put_len, hw]
 rw [made, hs _ hw2 p hp]
 have hnm : m.f0 ∉ ds (a ++ b) := by
  have := h.nd
  simp only [ds, List.map_append, List.map_cons] at this ⊢
  have := (List.perm_middle.nodup_iff).1 this
  exact (List.nodup_cons.1 this).1
 by_cases e : p ∈ ds (a ++ m :: b)
 ·obtain ⟨x, hx, rfl⟩ := of_ds e
  have hxr := hr x hx
  rw [show wd (once (a ++ m :: b) w) x.f0 = wd w x.f1 from once_at w x _ w h.nd hx (by rw [hw]; exact hxr.1)]
  by_cases ex : x.f0 = m.f0
  ·have := h.uniq hx hm ex
   subst this
   rw [show wd (once (a ++ b) (put w x.f0 (wd w x.f1))) x.f0 = wd (put w x.f0 (wd w x.f1)) x.f0 from once_no _ _ _ _ hnm]
   rw [wd_put _ _ _ _ (by rw [hw]; exact hxr.1), if_pos rfl]
  ·have hx' : x ∈ a ++ b := by
    rcases List.mem_append.1 hx with hx | hx
    ·exact List.mem_append_left _ hx
    ·rcases List.mem_cons.1 hx with rfl | hx
     ·exact absurd rfl ex
     ·exact List.mem_append_right _ hx
   rw [show wd (once (a ++ b) (put w m.f0 (wd w m.f1))) x.f0 = wd (put w m.f0 (wd w m.f1)) x.f1 from once_at _ x _ _ h.cut.nd hx' (by rw [hw2]; exact hxr.1)]
   exact wd_put_ne _ _ _ _ (fun e => hf (by rw [← e]; exact mem_ss hx))
 ·have e2 : p ∉ ds (a ++ b) := fun h2 => by
   obtain ⟨x, hx, rfl⟩ := of_ds h2
   exact e (mem_ds (sub x hx))
  rw [show wd (once (a ++ m :: b) w) p = wd w p from once_no _ _ _ _ e, show wd (once (a ++ b) (put w m.f0 (wd w m.f1))) p = wd (put w m.f0 (wd w m.f1)) p from once_no _ _ _ _ e2]
  exact wd_put_ne _ _ _ _ (fun e3 => e (by rw [e3]; exact mem_ds hm))
theorem ok_away {l : List S34} (h : Ok l) {lost apart : Int} (ha : apart ∉ ds l) : Ok (l.map (away lost apart)) := by
 refine ⟨by rw [ds_away]; exact h.nd, fun m hm => ?_, fun m hm => ?_⟩
 ·obtain ⟨x, hx, rfl⟩ := List.mem_map.1 hm
  rw [away_f0]; exact h.nn x hx
 ·obtain ⟨x, hx, rfl⟩ := List.mem_map.1 hm
  rw [away_f0]
  unfold away
  split
  ·exact fun e => ha (by rw [show apart = x.f0 from e.symm]; exact mem_ds hx)
  ·exact h.real x hx
theorem inR_away {N : Nat} {l : List S34} (h : InR N l) {lost apart : Int} (ha : 0 ≤ apart ∧ apart < (N : Int)) : InR N (l.map (away lost apart)) := by
 intro m hm
 obtain ⟨x, hx, rfl⟩ := List.mem_map.1 hm
 rw [away_f0]
 unfold away
 split
 ·exact ⟨(h x hx).1, ha⟩
 ·exact h x hx
theorem sem_open {N : Nat} {l : List S34} (h : Ok l) (hf : ∀ m ∈ l, m.f0 ∈ ss l) {x : S34} (hx : x ∈ l) {apart : Int} (ha : apart ∉ ds l) (hr : InR N l) (han : 0 ≤ apart ∧ apart < (N : Int)) {r : List S34} (hs : Sem N (l.map (away x.f0 apart)) apart r) : Sem N l apart (⟨apart, x.f0⟩ :: r) := by
 intro w hw p hp
 have hw2 : (put w apart (wd w x.f0)).length = N := by rw [put_len, hw]
 rw [made, hs _ hw2 p hp]
 by_cases e : p ∈ ds l
 ·obtain ⟨m, hm, rfl⟩ := of_ds e
  have h1 := once_at (put w apart (wd w x.f0)) (away x.f0 apart m) (l.map (away x.f0 apart)) (put w apart (wd w x.f0)) (by rw [ds_away]; exact h.nd) (List.mem_map.2 ⟨m, hm, rfl⟩) (by rw [away_f0, hw2]; exact (hr m hm).1)
  rw [away_f0] at h1
  rw [show wd (once (l.map (away x.f0 apart)) (put w apart (wd w x.f0))) m.f0 = _ from h1, show wd (once l w) m.f0 = wd w m.f1 from once_at w m _ w h.nd hm (by rw [hw]; exact (hr m hm).1)]
  unfold away
  split
  ·rename_i e2
   rw [wd_put _ _ _ _ (by rw [hw]; exact han), if_pos rfl, e2]
  ·exact wd_put_ne _ _ _ _ (fun e3 => ha (by rw [← e3]; exact full_src h hf m hm))
 ·rw [show wd (once l w) p = wd w p from once_no _ _ _ _ e, show wd (once (l.map (away x.f0 apart)) (put w apart (wd w x.f0))) p = wd (put w apart (wd w x.f0)) p from once_no _ _ _ _ (by rw [ds_away]; exact e)]
  exact wd_put_ne _ _ _ _ hp
theorem wrap_small (n : Int) (h0 : -9223372036854775808 ≤ n) (h1 : n ≤ 9223372036854775807) : wrap64 n = n := by unfold wrap64; omega
theorem rd_nat (l : List S34) (i : Nat) : rd_T34 l (i : Int) = l.getD i z34 := by unfold rd_T34; rw [Int.toNat_natCast]
theorem apart_loop (l : List S34) (apart lost : Int) (out : List S34) (rings : Int) (res : List S34 × Int) (hl : l.length ≤ 1000) (h : Evt (fun k => copies_row.l0 k (l.map (away lost apart)) apart out rings) res) :
  ∀ (d i : Nat) (x : List S34), i + d = l.length → x = (l.take i).map (away lost apart) ++ l.drop i → Evt (fun k => copies_row.l1 k x apart out rings lost (l.length : Int) (i : Int)) res := by
 intro d
 induction d with
 | zero =>
  intro i x hi hx
  refine Evt.succ (Evt.congr h fun k => ?_)
  obtain rfl : i = l.length := by omega
  rw [List.take_length, List.drop_length, List.append_nil] at hx
  subst hx
  rw [copies_row.l1, if_neg (by omega)]
 | succ d ih =>
  intro i x hi hx
  have hil : i < l.length := by omega
  have hxl : x.length = l.length := by rw [hx]; simp; omega
  have hx0 : x.getD i z34 = l.getD i z34 := by
   rw [hx, List.getD_eq_getElem?_getD, List.getElem?_append_right (by rw [List.length_map, List.length_take]; omega), List.getElem?_drop, List.getD_eq_getElem?_getD]
   congr 2
   rw [List.length_map, List.length_take]; omega
  have hmin : min i l.length = i := by omega
  have hset : (l.take (i + 1)).map (away lost apart) ++ l.drop (i + 1) = x.set i (away lost apart (l.getD i z34)) := by
   rw [hx, List.set_append_right _ _ (by simp [hmin]), show i - ((l.take i).map (away lost apart)).length = 0 by simp [hmin], List.drop_eq_getElem_cons hil, List.set_cons_zero, List.take_succ_eq_append_getElem hil, List.map_append, List.append_assoc]
   congr 1
   rw [List.getD_eq_getElem?_getD, List.getElem?_eq_getElem hil]
   rfl
  have nx := ih (i + 1) _ (by omega) rfl
  rw [hset, show (((i + 1 : Nat)) : Int) = (i : Int) + 1 by omega] at nx
  refine Evt.succ (Evt.congr nx fun k => ?_)
  rw [copies_row.l1, if_pos (by omega), if_pos (by omega), if_pos (by rw [hxl]; omega), wrap_small _ (by omega) (by omega), rd_nat, hx0, Int.toNat_natCast]
  unfold away
  by_cases e : (l.getD i z34).f1 = lost
  ·rw [if_pos e, if_pos e]
  ·rw [if_neg e, if_neg e]
   congr 1
   apply List.ext_getElem?
   intro j
   rw [List.getElem?_set]
   by_cases hj : i = j
   ·subst hj
    rw [if_pos rfl, if_pos (by omega), ← hx0, List.getD_eq_getElem?_getD, List.getElem?_eq_getElem (by omega)]
    rfl
   ·rw [if_neg hj]
theorem freeP_iff (l : List S34) (m : S34) : freeP l m = true ↔ m.f0 ∉ ss l := by
 unfold freeP
 rcases idxF_spec (fun n : S34 => n.f1 == m.f0) z34 l with ⟨e, hall⟩ | ⟨k, hk, e, hp, _⟩
 ·rw [e]
  constructor
  ·intro _ h
   obtain ⟨x, hx, hxe⟩ := of_ss h
   obtain ⟨j, hj, rfl⟩ := List.getElem_of_mem hx
   have := hall j hj
   rw [List.getD_eq_getElem?_getD, List.getElem?_eq_getElem hj] at this
   simp at this
   exact this hxe
  ·intro _; decide
 ·rw [e]
  constructor
  ·intro h
   exfalso
   simp at h
  ·intro h
   exfalso
   apply h
   have : (l.getD k z34).f1 = m.f0 := by simpa using hp
   rw [← this]
   exact mem_ss (getD_mem l k z34 hk)
theorem split_at (l : List S34) (k : Nat) (hk : k < l.length) : l = l.take k ++ l.getD k z34 :: l.drop (k + 1) := by
 conv => lhs; rw [← List.take_append_drop k l, List.drop_eq_getElem_cons hk]
 rw [List.getD_eq_getElem?_getD, List.getElem?_eq_getElem hk]
 rfl
def RowIs (N : Nat) (l : List S34) (apart : Int) (r : List S34) (c : Nat) : Prop :=
 r.length = l.length + c ∧ c = cyc l ∧ (InR N l → 0 ≤ apart ∧ apart < (N : Int) → Sem N l apart r)
theorem ex_free (l : List S34) : (∃ m ∈ l, m.f0 ∉ ss l) ∨ ∀ m ∈ l, m.f0 ∈ ss l := by
 by_cases h : ∃ m ∈ l, m.f0 ∉ ss l
 ·exact .inl h
 ·refine .inr fun m hm => ?_
  by_cases h2 : m.f0 ∈ ss l
  ·exact h2
  ·exact absurd ⟨m, hm, h2⟩ h
theorem free_step (N : Nat) (l : List S34) (apart : Int) (h : Ok l) (hlen : l.length ≤ 1000) (m : S34) (hm : m ∈ l) (hf : m.f0 ∉ ss l) (out : List S34) (rings : Int) (ho : out.length < 100000)
  (ih : ∀ (a : List S34) (x : S34) (b : List S34), l = a ++ x :: b → x.f0 ∉ ss l → ∃ r c, RowIs N (a ++ b) apart r c ∧ Evt (fun k => copies_row.l0 k (a ++ b) apart (out ++ [x]) rings) (out ++ [x] ++ r, rings + c)) :
  ∃ r c, RowIs N l apart r c ∧ Evt (fun k => copies_row.l0 k l apart out rings) (out ++ r, rings + c) := by
 rcases idxF_spec (freeP l) z34 l with ⟨e, hall⟩ | ⟨k0, hk0, e, hp, _⟩
 ·obtain ⟨j, hj, rfl⟩ := List.getElem_of_mem hm
  have := hall j hj
  rw [List.getD_eq_getElem?_getD, List.getElem?_eq_getElem hj] at this
  have h2 := (freeP_iff l l[j]).2 hf
  rw [show (some l[j]).getD z34 = l[j] from rfl, h2] at this
  cases this
 ·have hfr := (freeP_iff l _).1 hp
  have hsp := split_at l k0 hk0
  obtain ⟨x, hx⟩ : ∃ x, x = l.getD k0 z34 := ⟨_, rfl⟩
  rw [← hx] at hsp hfr
  obtain ⟨r, c, ⟨h1, h2, h4⟩, hE⟩ := ih (l.take k0) x (l.drop (k0 + 1)) hsp hfr
  have hlr : (l.take k0 ++ l.drop (k0 + 1)).length + 1 = l.length := by simp; omega
  refine ⟨x :: r, c, ⟨by simp; omega, ?_, ?_⟩, ?_⟩
  ·have h5 := cyc_cut (a := l.take k0) (b := l.drop (k0 + 1)) (m := x) (by rw [← hsp]; exact h) (by rw [← hsp]; exact hfr)
   rw [← hsp] at h5
   rw [h5]; exact h2
  ·intro hr ha
   have h5 := sem_cut (N := N) (a := l.take k0) (b := l.drop (k0 + 1)) (m := x) (apart := apart) (r := r) (by rw [← hsp]; exact h) (by rw [← hsp]; exact hfr) (by rw [← hsp]; exact hr) (h4 (fun y hy => hr y (by
    rw [hsp]
    rcases List.mem_append.1 hy with hy | hy
    ·exact List.mem_append_left _ hy
    ·exact List.mem_append_right _ (List.mem_cons_of_mem _ hy))) ha)
   rw [← hsp] at h5
   exact h5
  ·rw [show out ++ x :: r = out ++ [x] ++ r by simp]
   refine Evt.succ (Evt.congr hE fun k => ?_)
   rw [copies_row.l0, if_pos (by omega)]
   show ((some (idxF (freeP l) l 0)).bind _) = _
   rw [e, Option.bind_some, if_pos (by omega), if_pos (by omega), if_pos (by omega), if_pos (by omega), wrap_small _ (by omega) (by omega)]
   unfold api_Move.f
   rw [if_pos ⟨by omega, by omega, by omega, by omega⟩, Option.bind_some, rd_nat, ← hx, Int.toNat_natCast, show ((k0 : Int) + 1).toNat = k0 + 1 by omega]
theorem row_loop (N : Nat) (apart : Int) : ∀ (n : Nat) (l : List S34), l.length ≤ n → n ≤ 1000 → Ok l → apart ∉ ds l → ∀ (out : List S34) (rings : Int), out.length + 2 * n < 100000 → 0 ≤ rings → rings + 2 * n < 100000 →
  ∃ r c, RowIs N l apart r c ∧ Evt (fun k => copies_row.l0 k l apart out rings) (out ++ r, rings + c) := by
 intro n
 induction n with
 | zero =>
  intro l hl hn h ha out rings ho h0 h1
  obtain rfl := List.eq_nil_of_length_eq_zero (Nat.le_zero.1 hl)
  refine ⟨[], 0, ⟨rfl, rfl, fun _ _ => sem_nil _ _⟩, ?_⟩
  refine Evt.succ (Evt.congr (Evt.pure _) fun k => ?_)
  rw [copies_row.l0, if_neg (by simp)]; simp
 | succ n ihn =>
  intro l hl hn h ha out rings ho h0 h1
  rcases Nat.eq_zero_or_pos l.length with hz | hpos
  ·obtain rfl := List.eq_nil_of_length_eq_zero hz
   refine ⟨[], 0, ⟨rfl, rfl, fun _ _ => sem_nil _ _⟩, ?_⟩
   refine Evt.succ (Evt.congr (Evt.pure _) fun k => ?_)
   rw [copies_row.l0, if_neg (by simp)]; simp
  ·have freed : ∀ (l : List S34), l.length ≤ n + 1 → Ok l → apart ∉ ds l → (∃ m ∈ l, m.f0 ∉ ss l) → ∀ (out : List S34) (rings : Int), out.length + 2 * n + 1 < 100000 → 0 ≤ rings → rings + 2 * n + 1 < 100000 → ∃ r c, RowIs N l apart r c ∧ Evt (fun k => copies_row.l0 k l apart out rings) (out ++ r, rings + c) := by
    intro l hl h ha ⟨m, hm, hf⟩ out rings ho h0 h1
    refine free_step N l apart h (by omega) m hm hf out rings (by omega) fun a x b hab hxf => ?_
    have hle : (a ++ b).length ≤ n := by rw [hab] at hl; simp at hl ⊢; omega
    refine ihn (a ++ b) hle (by omega) (by rw [hab] at h; exact h.cut) (fun hin => ha ?_) (out ++ [x]) rings (by simp; omega) h0 (by omega)
    obtain ⟨y, hy, e⟩ := of_ds hin
    rw [← e, hab]
    refine mem_ds ?_
    rcases List.mem_append.1 hy with hy | hy
    ·exact List.mem_append_left _ hy
    ·exact List.mem_append_right _ (List.mem_cons_of_mem _ hy)
   rcases ex_free l with hex | hfull
   ·exact freed l hl h ha hex out rings (by omega) h0 (by omega)
   ·
    have hd0 : l.getD 0 z34 ∈ l := getD_mem l 0 z34 hpos
    obtain ⟨x, hx⟩ : ∃ x, x = l.getD 0 z34 := ⟨_, rfl⟩
    rw [← hx] at hd0
    have hok2 := ok_away h (lost := x.f0) ha
    have ha2 : apart ∉ ds (l.map (away x.f0 apart)) := by rw [ds_away]; exact ha
    have hex2 : ∃ m ∈ l.map (away x.f0 apart), m.f0 ∉ ss (l.map (away x.f0 apart)) := by
     refine ⟨away x.f0 apart x, List.mem_map.2 ⟨x, hd0, rfl⟩, fun hin => ?_⟩
     rw [away_f0] at hin
     obtain ⟨y, hy, e⟩ := of_ss hin
     obtain ⟨z, hz, rfl⟩ := List.mem_map.1 hy
     unfold away at e
     split at e
     ·exact ha (by rw [show apart = x.f0 from e]; exact mem_ds hd0)
     ·rename_i hne; exact hne e
    obtain ⟨r, c, ⟨g1, g2, g4⟩, hE⟩ := freed (l.map (away x.f0 apart)) (by simpa using hl) hok2 ha2 hex2 (out ++ [⟨apart, x.f0⟩]) (rings + 1) (by simp; omega) (by omega) (by omega)
    refine ⟨⟨apart, x.f0⟩ :: r, c + 1, ⟨by rw [List.length_map] at g1; simp; omega, by rw [cyc_open h hfull hd0 ha, g2], fun hr han => sem_open h hfull hd0 ha hr han (g4 (inR_away hr han) han)⟩, ?_⟩
    have hE2 := apart_loop l apart x.f0 (out ++ [⟨apart, x.f0⟩]) (rings + 1) _ (by omega) hE l.length 0 l (by omega) (by simp)
    rw [show out ++ (⟨apart, x.f0⟩ : S34) :: r = out ++ [⟨apart, x.f0⟩] ++ r by simp, show rings + ((c + 1 : Nat) : Int) = rings + 1 + (c : Int) by omega]
    refine Evt.succ (Evt.congr hE2 fun k => ?_)
    have hidx : idxF (freeP l) l 0 = -1 := idxF_miss _ z34 l 0 (fun j hj => by
     cases hq : freeP l (l.getD j z34) with
     | false => rfl
     | true => exact absurd (hfull _ (getD_mem l j z34 hj)) ((freeP_iff l _).1 hq))
    rw [copies_row.l0, if_pos (by omega)]
    show ((some (idxF (freeP l) l 0)).bind _) = _
    rw [hidx, Option.bind_some, if_neg (by omega), if_pos (by omega), if_pos (by omega), wrap_small _ (by omega) (by omega), show rd_T34 l 0 = x by rw [hx]; exact rd_nat l 0]
    rfl
end Go.Proofs.Ytfbbfnadmnejeaa.G
namespace Go.Proofs.Ytfbbfnadmnejeaa.G
open Go.Proofs.Ytfbbfnadmnejeaa.X Go.RowKit Go.Proofs.YtfbbfnadmnejeaaW.PrintWords
set_option linter.all false
theorem Evt.of_mono {α : Type} {g : Nat → Option α} {r : α} (hm : ∀ k, LeO (g k) (g (k + 1))) {k : Nat} (h : g k = some r) : Evt g r := by
 refine ⟨k, fun j hj => ?_⟩
 obtain ⟨d, rfl⟩ := Nat.exists_eq_add_of_le hj
 clear hj
 induction d with
 | zero => exact h
 | succ d ih => exact hm (k + d) _ ih
structure MayIs (l : List S34) : Prop where
 len : l.length ≤ 64
 pl : ∀ m ∈ l, (0 ≤ m.f0 ∧ m.f0 ≤ 65535) ∧ (0 ≤ m.f1 ∧ m.f1 ≤ 65535)
 nd : (ds l).Nodup
theorem placeB_iff (a : Int) : placeB a = true ↔ 0 ≤ a ∧ a ≤ 65535 := by unfold placeB; simp
theorem mayGo_iff : ∀ (l : List S34) (S : List Int), mayGo S l = true ↔ (∀ m ∈ l, (0 ≤ m.f0 ∧ m.f0 ≤ 65535) ∧ (0 ≤ m.f1 ∧ m.f1 ≤ 65535)) ∧ (ds l).Nodup ∧ ∀ m ∈ l, m.f0 ∉ S
 | [], S => by simp [mayGo, ds]
 | m :: r, S => by
  rw [mayGo]
  have ih := mayGo_iff r (m.f0 :: S)
  constructor
  ·intro h
   split at h
   ·rename_i hc
    obtain ⟨h1, h2, h3⟩ := ih.1 h
    refine ⟨fun x hx => ?_, ?_, fun x hx => ?_⟩
    ·rcases List.mem_cons.1 hx with rfl | hx
     ·exact ⟨(placeB_iff _).1 hc.1, (placeB_iff _).1 hc.2.1⟩
     ·exact h1 x hx
    ·simp only [ds, List.map_cons, List.nodup_cons]
     refine ⟨fun hin => ?_, h2⟩
     obtain ⟨x, hx, e⟩ := of_ds hin
     exact h3 x hx (by rw [e]; simp)
    ·rcases List.mem_cons.1 hx with rfl | hx
     ·exact hc.2.2
     ·exact fun hin => h3 x hx (List.mem_cons_of_mem _ hin)
   ·cases h
  ·rintro ⟨h1, h2, h3⟩
   simp only [ds, List.map_cons, List.nodup_cons] at h2
   rw [if_pos ⟨(placeB_iff _).2 (h1 m (by simp)).1, (placeB_iff _).2 (h1 m (by simp)).2, h3 m (by simp)⟩]
   refine ih.2 ⟨fun x hx => h1 x (by simp [hx]), h2.2, fun x hx hin => ?_⟩
   rcases List.mem_cons.1 hin with e | hin
   ·exact h2.1 (by rw [← e]; exact mem_ds hx)
   ·exact h3 x (by simp [hx]) hin
theorem mayL_iff (l : List S34) : mayL l = true ↔ MayIs l := by
 unfold mayL
 rw [Bool.and_eq_true, mayGo_iff, decide_eq_true_eq]
 exact ⟨fun ⟨⟨h1, h2, _⟩, h3⟩ => ⟨h3, h1, h2⟩, fun h => ⟨⟨h.pl, h.nd, fun _ _ => by simp⟩, h.len⟩⟩
theorem nd_iff (l : List S34) : (ds l).Nodup ↔ ∀ j, j < l.length → ∀ i, i < j → (l.getD i z34).f0 ≠ (l.getD j z34).f0 := by
 rw [ds, List.nodup_iff_pairwise_ne, List.pairwise_map, List.pairwise_iff_getElem]
 constructor
 ·intro h j hj i hi
  have := h i j (by omega) hj hi
  rwa [List.getD_eq_getElem?_getD, List.getD_eq_getElem?_getD, List.getElem?_eq_getElem hj, List.getElem?_eq_getElem (by omega)]
 ·intro h i j hi hj hij
  have := h j hj i hij
  rwa [List.getD_eq_getElem?_getD, List.getD_eq_getElem?_getD, List.getElem?_eq_getElem hj, List.getElem?_eq_getElem hi] at this
theorem refMay_inner (l : List S34) (i : Nat) (hi : i < l.length) (hl : l.length ≤ 1000) (r : Bool) (hdup : (∃ k, k < i ∧ (l.getD k z34).f0 = (l.getD i z34).f0) → r = false) (hn : (∀ k, k < i → (l.getD k z34).f0 ≠ (l.getD i z34).f0) → Evt (fun k => davitref20_May.l0 k l ((i : Int) + 1)) r) :
  ∀ (d k : Nat), k + d = i → (∀ j, j < k → (l.getD j z34).f0 ≠ (l.getD i z34).f0) → Evt (fun f => davitref20_May.l1 f l (i : Int) (k : Int)) r := by
 intro d
 induction d with
 | zero =>
  intro k hk hno
  obtain rfl : k = i := by omega
  refine Evt.succ (Evt.congr (hn hno) fun f => ?_)
  rw [davitref20_May.l1, if_neg (by omega), wrap_small _ (by omega) (by omega)]
 | succ d ih =>
  intro k hk hno
  by_cases e : (l.getD k z34).f0 = (l.getD i z34).f0
  ·obtain rfl := hdup ⟨k, by omega, e⟩
   refine Evt.succ (Evt.congr (Evt.pure _) fun f => ?_)
   rw [davitref20_May.l1, if_pos (by omega), if_pos (by omega), if_pos (by omega), if_pos (by omega), if_pos (by omega), rd_nat, rd_nat, if_pos e]
  ·have := ih (k + 1) (by omega) (fun j hj => by
    rcases Nat.lt_or_ge j k with h | h
    ·exact hno j h
    ·obtain rfl : j = k := by omega
     exact e)
   refine Evt.succ (Evt.congr this fun f => ?_)
   rw [davitref20_May.l1, if_pos (by omega), if_pos (by omega), if_pos (by omega), if_pos (by omega), if_pos (by omega), rd_nat, rd_nat, if_neg e, wrap_small _ (by omega) (by omega), show (((k + 1 : Nat)) : Int) = (k : Int) + 1 by omega]
theorem refMay_loop (l : List S34) (hl : l.length ≤ 1000) : ∀ (d i : Nat), i + d = l.length → i ≤ 64 → (∀ j, j < i → ((0 ≤ (l.getD j z34).f0 ∧ (l.getD j z34).f0 ≤ 65535) ∧ (0 ≤ (l.getD j z34).f1 ∧ (l.getD j z34).f1 ≤ 65535)) ∧ ∀ k, k < j → (l.getD k z34).f0 ≠ (l.getD j z34).f0) →
  Evt (fun f => davitref20_May.l0 f l (i : Int)) (mayL l) := by
 intro d
 induction d with
 | zero =>
  intro i hi h64 hp
  obtain rfl : i = l.length := by omega
  have : mayL l = true := (mayL_iff l).2 ⟨h64, fun m hm => by
   obtain ⟨j, hj, rfl⟩ := List.getElem_of_mem hm
   have := (hp j hj).1
   rwa [List.getD_eq_getElem?_getD, List.getElem?_eq_getElem hj] at this, (nd_iff l).2 fun j hj k hk => (hp j hj).2 k hk⟩
  rw [this]
  refine Evt.succ (Evt.congr (Evt.pure _) fun f => ?_)
  rw [davitref20_May.l0, if_neg (by omega)]
 | succ d ih =>
  intro i hi h64 hp
  have hil : i < l.length := by omega
  have bad : mayL l = false → Evt (fun f => davitref20_May.j1 f l (i : Int) true) (mayL l) := fun e => by
   rw [e]
   refine Evt.succ (Evt.congr (Evt.pure _) fun f => ?_)
   rw [davitref20_May.j1, if_pos rfl]
  have no : ¬ MayIs l → mayL l = false := fun h => by
   cases e : mayL l with
   | false => rfl
   | true => exact absurd ((mayL_iff l).1 e) h
  have hmem := getD_mem l i z34 hil
  by_cases h1 : 64 ≤ i
  ·refine Evt.succ (Evt.congr (bad (no fun h => by have := h.len; omega)) fun f => ?_)
   rw [davitref20_May.l0, if_pos (by omega), if_pos (by omega)]
  ·by_cases hpl : (0 ≤ (l.getD i z34).f0 ∧ (l.getD i z34).f0 ≤ 65535) ∧ (0 ≤ (l.getD i z34).f1 ∧ (l.getD i z34).f1 ≤ 65535)
   ·have good : Evt (fun f => davitref20_May.j1 f l (i : Int) false) (mayL l) := by
     have := refMay_inner l i hil hl (mayL l) (fun ⟨k, hk, e⟩ => no fun h => (nd_iff l).1 h.nd i hil k hk e) (fun hno => by
      have := ih (i + 1) (by omega) (by omega) (fun j hj => by
       rcases Nat.lt_or_ge j i with h | h
       ·exact hp j h
       ·obtain rfl : j = i := by omega
        exact ⟨hpl, hno⟩)
      rwa [show (((i + 1 : Nat)) : Int) = (i : Int) + 1 by omega] at this) i 0 (by omega) (fun j hj => by omega)
     refine Evt.succ (Evt.congr this fun f => ?_)
     rw [davitref20_May.j1, if_neg (by simp)]
     rfl
    refine Evt.succ (Evt.congr good fun f => ?_)
    rw [davitref20_May.l0, if_pos (by omega), if_neg (by omega), if_pos (by omega), rd_nat, if_neg (by omega), if_neg (by omega), if_neg (by omega), decide_eq_false (by omega)]
   ·have hb := bad (no fun h => hpl (h.pl _ hmem))
    refine Evt.succ (Evt.congr hb fun f => ?_)
    rw [davitref20_May.l0, if_pos (by omega), if_neg (by omega), if_pos (by omega), rd_nat]
    by_cases c1 : (l.getD i z34).f0 < 0
    ·rw [if_pos c1]
    ·rw [if_neg c1]
     by_cases c2 : (l.getD i z34).f0 > 65535
     ·rw [if_pos c2]
     ·rw [if_neg c2]
      by_cases c3 : (l.getD i z34).f1 < 0
      ·rw [if_pos c3]
      ·rw [if_neg c3, decide_eq_true (by omega)]
theorem refMay_ev (l : List S34) (hl : l.length ≤ 1000) : Evt (fun f => davitref20_May.f f l) (mayL l) := refMay_loop l hl l.length 0 (by omega) (by omega) (fun j hj => by omega)
def realL (l : List S34) : List S34 := l.filter fun m => !(m.f0 == m.f1)
theorem realL_mem {l : List S34} {m : S34} : m ∈ realL l ↔ m ∈ l ∧ m.f0 ≠ m.f1 := by unfold realL; rw [List.mem_filter]; simp
theorem ok_real {l : List S34} (h : MayIs l) : Ok (realL l) := by
 refine ⟨?_, fun m hm => (h.pl m (realL_mem.1 hm).1).1.1, fun m hm => (realL_mem.1 hm).2⟩
 exact h.nd.sublist (List.Sublist.map _ List.filter_sublist)
theorem row_ev (N : Nat) (l : List S34) (apart : Int) (h : MayIs l) (ha : apart ∉ ds (realL l)) : ∃ r c, RowIs N (realL l) apart r c ∧ Evt (fun k => copies_row.f k l apart) (r, (c : Int)) := by
 have hle : (realL l).length ≤ l.length := List.length_filter_le _ _
 have := h.len
 obtain ⟨r, c, h1, h2⟩ := row_loop N apart 64 (realL l) (by omega) (by omega) (ok_real h) ha [] 0 (by simp) (by omega) (by omega)
 refine ⟨r, c, h1, Evt.congr (r := (r, (c : Int))) (by rw [List.nil_append, Int.zero_add] at h2; exact h2) fun k => ?_⟩
 unfold copies_row.f copies_real.f
 rw [if_pos (by omega)]
 rfl
theorem from_ev (l : List S34) (p : Int) (hl : l.length ≤ 1000) : Evt (fun k => davitref20_from.f k l p) (frm l p) := by
 have key : ∀ (d i : Nat), i + d = l.length → Evt (fun k => davitref20_from.l0 k l p (i : Int)) (frm (l.drop i) p) := by
  intro d
  induction d with
  | zero =>
   intro i hi
   refine Evt.succ (Evt.congr (Evt.pure _) fun k => ?_)
   rw [davitref20_from.l0, if_neg (by omega), List.drop_of_length_le (by omega)]
   rfl
  | succ d ih =>
   intro i hi
   have hil : i < l.length := by omega
   rw [drop_at l i z34 hil, frm]
   by_cases e : (l.getD i z34).f0 = p
   ·rw [if_pos e]
    refine Evt.succ (Evt.congr (Evt.pure _) fun k => ?_)
    rw [davitref20_from.l0, if_pos (by omega), if_pos (by omega), rd_nat, if_pos e]
   ·rw [if_neg e]
    refine Evt.succ (Evt.congr (ih (i + 1) (by omega)) fun k => ?_)
    rw [davitref20_from.l0, if_pos (by omega), if_pos (by omega), rd_nat, if_neg e, wrap_small _ (by omega) (by omega), show (((i + 1 : Nat)) : Int) = (i : Int) + 1 by omega]
 exact key l.length 0 (by omega)
theorem least_bound {l : List S34} {m : S34} (hm : m ∈ l) (h0 : 0 ≤ m.f0) {t : Nat} (h1 : orb (frm l) m.f1 t = m.f0) (h2 : ∀ j, j < t → m.f0 < orb (frm l) m.f1 j) : t < l.length := by
 have dist : ∀ i j, i < j → j ≤ t → orb (frm l) m.f1 i ≠ orb (frm l) m.f1 j := by
  intro i j hij hjt e
  have h3 : orb (frm l) m.f1 (i + (t - j)) = m.f0 := by
   rw [orb_add, e, ← orb_add, show j + (t - j) = t by omega]; exact h1
  have := h2 (i + (t - j)) (by omega)
  omega
 have hn : ((List.range (t + 1)).map (orb (frm l) m.f1)).Nodup := by
  rw [List.nodup_iff_pairwise_ne, List.pairwise_map, List.pairwise_iff_getElem]
  intro i j hi hj hij
  simp only [List.length_range] at hi hj
  simp only [List.getElem_range]
  exact dist i j hij (by omega)
 have := hn.length_le_of_subset (l₂ := ss l) (fun x hx => by
  obtain ⟨j, hj, rfl⟩ := List.mem_map.1 hx
  have hj := List.mem_range.1 hj
  cases j with
  | zero => exact mem_ss hm
  | succ j =>
   rcases frm_mem l (orb (frm l) m.f1 j) with h | h
   ·exact h
   ·exfalso
    have e : orb (frm l) m.f1 (j + 1) = -1 := h
    rcases Nat.lt_or_ge (j + 1) t with h3 | h3
    ·have := h2 _ h3; omega
    ·have : j + 1 = t := by omega
     rw [this] at e; omega)
 simp [ss] at this
 omega
theorem refRings_inner (l : List S34) (i : Nat) (hi : i < l.length) (hl : l.length ≤ 1000) (n : Int) (hn0 : 0 ≤ n ∧ n ≤ 1000) (res : Int) (h0 : 0 ≤ (l.getD i z34).f0)
  (hyes : (l.getD i z34).f1 ≠ (l.getD i z34).f0 ∧ Least l (l.getD i z34) → Evt (fun k => davitref20_Rings.l0 k l (n + 1) ((i : Int) + 1)) res)
  (hno : ¬ ((l.getD i z34).f1 ≠ (l.getD i z34).f0 ∧ Least l (l.getD i z34)) → Evt (fun k => davitref20_Rings.l0 k l n ((i : Int) + 1)) res) :
  ∀ (d k : Nat) (lb : Bool), k + d = l.length → lb = decide (∀ j, j < k → (l.getD i z34).f0 < orb (frm l) (l.getD i z34).f1 j) → (∀ j, j < k → 0 ≤ orb (frm l) (l.getD i z34).f1 j ∧ orb (frm l) (l.getD i z34).f1 j ≠ (l.getD i z34).f0) →
   Evt (fun f => davitref20_Rings.l1 f l n (i : Int) (orb (frm l) (l.getD i z34).f1 k) lb (k : Int)) res := by
 obtain ⟨m, hm⟩ : ∃ m, m = l.getD i z34 := ⟨_, rfl⟩
 have hmem : m ∈ l := by rw [hm]; exact getD_mem l i z34 hi
 rw [← hm] at hyes hno h0 ⊢
 have w1 : wrap64 ((i : Int) + 1) = (i : Int) + 1 := wrap_small _ (by omega) (by omega)
 have w2 : wrap64 (n + 1) = n + 1 := wrap_small _ (by omega) (by omega)
 have stop : ∀ (k : Nat) (lb : Bool), lb = decide (∀ j, j < k → m.f0 < orb (frm l) m.f1 j) → (∀ j, j < k → 0 ≤ orb (frm l) m.f1 j ∧ orb (frm l) m.f1 j ≠ m.f0) → (k < l.length → orb (frm l) m.f1 k < 0 ∨ orb (frm l) m.f1 k = m.f0) →
   Evt (fun f => if orb (frm l) m.f1 k = m.f0 then (if m.f1 = m.f0 then davitref20_Rings.l0 f l n ((i : Int) + 1) else (if lb = true then davitref20_Rings.l0 f l (n + 1) ((i : Int) + 1) else davitref20_Rings.l0 f l n ((i : Int) + 1))) else davitref20_Rings.l0 f l n ((i : Int) + 1)) res := by
  intro k lb hlb hpre hst
  by_cases e : orb (frm l) m.f1 k = m.f0
  ·by_cases e2 : m.f1 = m.f0
   ·refine Evt.congr (hno fun h => h.1 e2) fun f => ?_
    rw [if_pos e, if_pos e2]
   ·cases lb with
    | true =>
     refine Evt.congr (hyes ⟨e2, k, e, of_decide_eq_true hlb.symm⟩) fun f => ?_
     rw [if_pos e, if_neg e2, if_pos rfl]
    | false =>
     refine Evt.congr (hno fun h => ?_) fun f => ?_
     ·obtain ⟨_, t, h1, h2⟩ := h
      refine of_decide_eq_false hlb.symm fun j hj => h2 j ?_
      rcases Nat.lt_or_ge j t with h3 | h3
      ·exact h3
      ·exact absurd h1 (hpre t (by omega)).2
     ·rw [if_pos e, if_neg e2, if_neg (by simp)]
  ·refine Evt.congr (hno fun h => ?_) fun f => by rw [if_neg e]
   obtain ⟨_, t, h1, h2⟩ := h
   have htb := least_bound hmem h0 h1 h2
   rcases Nat.lt_trichotomy t k with h3 | h3 | h3
   ·exact (hpre t h3).2 h1
   ·subst h3; exact e h1
   ·have h4 := h2 k h3
    rcases hst (by omega) with h5 | h5 <;> omega
 intro d
 induction d with
 | zero =>
  intro k lb hk hlb hpre
  have hs := stop k lb hlb hpre (fun h => by omega)
  refine Evt.succ (Evt.congr hs fun f => ?_)
  rw [davitref20_Rings.l1, if_neg (by omega), if_pos (by omega), if_pos (by omega), rd_nat, ← hm, w1, w2]
 | succ d ih =>
  intro k lb hk hlb hpre
  by_cases hneg : orb (frm l) m.f1 k ≥ 0
  ·by_cases e : orb (frm l) m.f1 k = m.f0
   ·have hs := stop k lb hlb hpre (fun _ => .inr e)
    refine Evt.succ (Evt.congr hs fun f => ?_)
    rw [davitref20_Rings.l1, if_pos (by omega), if_pos hneg, if_pos (by omega), if_pos (by omega), rd_nat, ← hm, w1, w2, if_pos e, if_pos e]
   ·have nx : ∀ lb2 : Bool, lb2 = decide (∀ j, j < k + 1 → m.f0 < orb (frm l) m.f1 j) → Evt (fun f => (davitref20_from.f f l (orb (frm l) m.f1 k)).bind fun t => davitref20_Rings.l1 f l n (i : Int) t lb2 ((k : Int) + 1)) res := by
     intro lb2 h2
     have := ih (k + 1) lb2 (by omega) h2 (fun j hj => by
      rcases Nat.lt_or_ge j k with h | h
      ·exact hpre j h
      ·obtain rfl : j = k := by omega
       exact ⟨hneg, e⟩)
     rw [show (((k + 1 : Nat)) : Int) = (k : Int) + 1 by omega] at this
     exact Evt.bind (from_ev l _ hl) this
    have wk : wrap64 ((k : Int) + 1) = (k : Int) + 1 := wrap_small _ (by omega) (by omega)
    cases lb with
    | true =>
     have hall := of_decide_eq_true hlb.symm
     refine Evt.succ (Evt.congr (nx (decide (orb (frm l) m.f1 k > m.f0)) (decide_eq_decide.2 ⟨fun h j hj => ?_, fun h => h k (by omega)⟩)) fun f => ?_)
     ·rcases Nat.lt_or_ge j k with h3 | h3
      ·exact hall j h3
      ·obtain rfl : j = k := by omega
       exact h
     ·rw [davitref20_Rings.l1, if_pos (by omega), if_pos hneg, if_pos (by omega), if_pos (by omega), rd_nat, ← hm, if_neg e, if_pos rfl, wk]
    | false =>
     have hnall := of_decide_eq_false hlb.symm
     refine Evt.succ (Evt.congr (nx false (Eq.symm (decide_eq_false fun h => hnall fun j hj => h j (by omega)))) fun f => ?_)
     rw [davitref20_Rings.l1, if_pos (by omega), if_pos hneg, if_pos (by omega), if_pos (by omega), rd_nat, ← hm, if_neg e, if_neg (by simp), wk]
  ·have hs := stop k lb hlb hpre (fun _ => .inl (by omega))
   refine Evt.succ (Evt.congr hs fun f => ?_)
   rw [davitref20_Rings.l1, if_pos (by omega), if_neg hneg, if_pos (by omega), if_pos (by omega), rd_nat, ← hm, w1, w2]
theorem least_real {l : List S34} (h : MayIs l) {m : S34} (hm : m ∈ l) (hr : m.f1 ≠ m.f0) : Least l m ↔ Least (realL l) m := by
 have h0 := (h.pl m hm).1.1
 have self : ∀ x ∈ l, x.f0 = x.f1 → frm l x.f0 = x.f0 := fun x hx e => by rw [frm_some h.nd hx, ← e]
 have same : ∀ p, (∀ x ∈ l, x.f0 = p → x.f0 ≠ x.f1) → frm (realL l) p = frm l p := fun p hp => frm_filter _ (fun x hx e => by simpa using hp x hx e)
 have gone : ∀ x ∈ l, x.f0 = x.f1 → frm (realL l) x.f0 = -1 := by
  intro x hx e
  refine frm_none fun hin => ?_
  obtain ⟨y, hy, ey⟩ := of_ds hin
  obtain ⟨hy1, hy2⟩ := realL_mem.1 hy
  have e1 := frm_some h.nd hx
  have e2 := frm_some h.nd hy1
  rw [ey, e1] at e2
  exact hy2 (by rw [ey, e, e2])
 have minus : frm (realL l) (-1) = -1 := frm_none fun hin => by
  obtain ⟨y, hy, ey⟩ := of_ds hin
  have := (h.pl y (realL_mem.1 hy).1).1.1
  omega
 have stuckM : ∀ (p : Int) (j d : Nat), orb (frm (realL l)) p j = -1 → orb (frm (realL l)) p (j + d) = -1 := by
  intro p j d e
  induction d with
  | zero => exact e
  | succ d ih => show frm _ (orb (frm (realL l)) p (j + d)) = -1; rw [ih]; exact minus
 have stuckS : ∀ (p : Int) (j d : Nat) (x : S34), x ∈ l → x.f0 = x.f1 → orb (frm l) p j = x.f0 → orb (frm l) p (j + d) = x.f0 := by
  intro p j d x hx e1 e
  induction d with
  | zero => exact e
  | succ d ih => show frm _ (orb (frm l) p (j + d)) = _; rw [ih]; exact self x hx e1
 constructor
 ·rintro ⟨t, h1, h2⟩
  have eq : ∀ j, j ≤ t → orb (frm (realL l)) m.f1 j = orb (frm l) m.f1 j := by
   intro j
   induction j with
   | zero => intro _; rfl
   | succ j ih =>
    intro hj
    show frm _ _ = frm _ _
    rw [ih (by omega)]
    refine same _ fun x hx e1 e2 => ?_
    have e3 := stuckS m.f1 j (t - j) x hx e2 e1.symm
    rw [show j + (t - j) = t by omega, h1] at e3
    have := h2 j (by omega)
    omega
  exact ⟨t, by rw [eq t (Nat.le_refl _)]; exact h1, fun j hj => by rw [eq j (by omega)]; exact h2 j hj⟩
 ·rintro ⟨t, h1, h2⟩
  have eq : ∀ j, j ≤ t → orb (frm (realL l)) m.f1 j = orb (frm l) m.f1 j := by
   intro j
   induction j with
   | zero => intro _; rfl
   | succ j ih =>
    intro hj
    show frm _ _ = frm _ _
    rw [← ih (by omega)]
    refine same _ fun x hx e1 e2 => ?_
    have e3 : orb (frm (realL l)) m.f1 (j + 1) = -1 := by
     show frm _ _ = -1
     rw [← e1]; exact gone x hx e2
    have e4 := stuckM m.f1 (j + 1) (t - (j + 1)) e3
    rw [show j + 1 + (t - (j + 1)) = t by omega, h1] at e4
    omega
  exact ⟨t, by rw [← eq t (Nat.le_refl _)]; exact h1, fun j hj => by rw [← eq j (by omega)]; exact h2 j hj⟩
theorem countP_filter' {α : Type} (p q : α → Bool) (l : List α) : (l.filter p).countP q = l.countP (fun x => p x && q x) := by
 rw [List.countP_filter]
 refine List.countP_congr fun x _ => by simp [Bool.and_comm]
open Classical in
theorem refRings_ev (l : List S34) (hl : l.length ≤ 1000) : Evt (fun k => davitref20_Rings.f k l) (if mayL l = true then ((cyc (realL l) : Nat) : Int) else 0) := by
 by_cases hm : mayL l = true
 ·rw [if_pos hm]
  have hM := (mayL_iff l).1 hm
  have key : ∀ (d i : Nat), i + d = l.length → Evt (fun k => davitref20_Rings.l0 k l (((l.take i).countP (fun m => decide (m.f1 ≠ m.f0 ∧ Least l m)) : Nat) : Int) (i : Int)) ((l.countP (fun m => decide (m.f1 ≠ m.f0 ∧ Least l m)) : Nat) : Int) := by
   intro d
   induction d with
   | zero =>
    intro i hi
    refine Evt.succ (Evt.congr (Evt.pure _) fun k => ?_)
    rw [davitref20_Rings.l0, if_neg (by omega), List.take_of_length_le (by omega)]
   | succ d ih =>
    intro i hi
    have hil : i < l.length := by omega
    have nx := ih (i + 1) (by omega)
    rw [take_one l i z34 hil, List.countP_append, List.countP_singleton, show (((i + 1 : Nat)) : Int) = (i : Int) + 1 by omega] at nx
    have hc : (l.take i).countP (fun m => decide (m.f1 ≠ m.f0 ∧ Least l m)) ≤ i := Nat.le_trans List.countP_le_length (by simp; omega)
    have := refRings_inner l i hil hl ((((l.take i).countP (fun m => decide (m.f1 ≠ m.f0 ∧ Least l m)) : Nat)) : Int) ⟨by omega, by omega⟩ _ (hM.pl _ (getD_mem l i z34 hil)).1.1 (fun hy => by
     rw [if_pos (by simpa using hy)] at nx
     rw [Int.natCast_add] at nx
     exact nx) (fun hno => by
     rw [if_neg (by simpa using hno), Nat.add_zero] at nx
     exact nx) l.length 0 true (by omega) (by simp) (fun j hj => by omega)
    refine Evt.succ (Evt.congr this fun k => ?_)
    rw [davitref20_Rings.l0, if_pos (by omega), if_pos (by omega), rd_nat]
    rfl
  have hcount : cyc (realL l) = l.countP (fun m => decide (m.f1 ≠ m.f0 ∧ Least l m)) := by
   unfold cyc realL
   rw [countP_filter']
   refine List.countP_congr fun x hx => ?_
   by_cases e : x.f1 = x.f0
   ·simp [e]
   ·have e' : ¬ x.f0 = x.f1 := fun h => e h.symm
    have := least_real hM hx e
    unfold realL at this
    simp [e, e', this]
  rw [hcount]
  refine Evt.congr (g' := fun k => (davitref20_May.f k l).bind fun t => if t = true then davitref20_Rings.l0 k l 0 0 else some 0) (Evt.bind (refMay_ev l hl) ?_) fun k => rfl
  have h0 := key l.length 0 (by omega)
  refine Evt.congr h0 fun k => ?_
  rw [if_pos hm]
  rfl
 ·rw [if_neg hm]
  refine Evt.congr (g' := fun k => (davitref20_May.f k l).bind fun t => if t = true then davitref20_Rings.l0 k l 0 0 else some 0) (Evt.bind (refMay_ev l hl) ?_) fun k => rfl
  refine Evt.congr (Evt.pure _) fun k => ?_
  rw [if_neg hm]
end Go.Proofs.Ytfbbfnadmnejeaa.G
namespace Go.Proofs.Ytfbbfnadmnejeaa.G
open Go.Proofs.Ytfbbfnadmnejeaa.X Go.RowKit Go.Proofs.YtfbbfnadmnejeaaW.PrintWords
set_option linter.all false
theorem rd_wd (w : List Int) (p : Int) (h : 0 ≤ p ∧ p < (w.length : Int)) : rd w p = wd w p := by unfold wd rd; rw [if_pos h]
theorem put_set (w : List Int) (p v : Int) (h : 0 ≤ p ∧ p < (w.length : Int)) : w.set p.toNat v = put w p v := by unfold put; rw [if_pos h]
theorem put_none (w : List Int) (p v : Int) (h : ¬ (0 ≤ p ∧ p < (w.length : Int))) : put w p v = w := by unfold put; rw [if_neg h]
theorem wd_none (w : List Int) (p : Int) (h : ¬ (0 ≤ p ∧ p < (w.length : Int))) : wd w p = 0 := by unfold wd; rw [if_neg h]
theorem at_ev (w : List Int) (p : Int) : davitref20_At.f w p = some (wd w p) := by
 unfold davitref20_At.f
 by_cases h1 : p < 0
 ·rw [if_pos h1, wd_none _ _ (by omega)]
 ·rw [if_neg h1]
  by_cases h2 : p ≥ (w.length : Int)
  ·rw [if_pos h2, wd_none _ _ (by omega)]
  ·rw [if_neg h2, if_pos (by omega), if_pos (by omega), rd_wd _ _ (by omega)]
theorem once_ev (l : List S34) (w : List Int) (hl : l.length ≤ 1000) (hw : w.length ≤ 1000) : Evt (fun k => davitref20_Once.f k l w) (once l w) := by
 have key : ∀ (d i : Nat) (out : List Int), i + d = l.length → Evt (fun k => davitref20_Once.l0 k l w out (i : Int)) (onceGo w (l.drop i) out) := by
  intro d
  induction d with
  | zero =>
   intro i out hi
   refine Evt.succ (Evt.congr (Evt.pure _) fun k => ?_)
   rw [davitref20_Once.l0, if_neg (by omega), List.drop_of_length_le (by omega)]
   rfl
  | succ d ih =>
   intro i out hi
   have hil : i < l.length := by omega
   rw [drop_at l i z34 hil, onceGo]
   have nx := ih (i + 1) (put out (l.getD i z34).f0 (wd w (l.getD i z34).f1)) (by omega)
   rw [show (((i + 1 : Nat)) : Int) = (i : Int) + 1 by omega] at nx
   have hw1 : wrap64 ((i : Int) + 1) = (i : Int) + 1 := wrap_small _ (by omega) (by omega)
   refine Evt.succ (Evt.congr nx fun k => ?_)
   rw [davitref20_Once.l0, if_pos (by omega), if_pos (by omega), rd_nat, hw1]
   by_cases h2 : 0 ≤ (l.getD i z34).f0 ∧ (l.getD i z34).f0 < (out.length : Int)
   ·rw [if_pos h2.1, if_pos h2.2, at_ev, Option.bind_some, if_pos h2.1, put_set _ _ _ h2]
   ·rw [put_none _ _ _ h2]
    by_cases h3 : (l.getD i z34).f0 ≥ 0
    ·rw [if_pos h3, if_neg (by omega)]
    ·rw [if_neg h3]
 refine Evt.congr (key l.length 0 w (by omega)) fun k => ?_
 unfold davitref20_Once.f
 rw [Option.bind_some, if_pos (by simp; omega), List.nil_append]
 rfl
theorem refMade_ev (l : List S34) (w : List Int) (hl : l.length ≤ 1000) (hw : w.length ≤ 1000) : Evt (fun k => davitref20_Made.f k l w) (made l w) := by
 have key : ∀ (d i : Nat) (w : List Int), w.length ≤ 1000 → i + d = l.length → Evt (fun k => davitref20_Made.l0 k l w (i : Int)) (made (l.drop i) w) := by
  intro d
  induction d with
  | zero =>
   intro i w hw hi
   refine Evt.succ (Evt.congr (Evt.pure _) fun k => ?_)
   rw [davitref20_Made.l0, if_neg (by omega), List.drop_of_length_le (by omega)]
   rfl
  | succ d ih =>
   intro i w hw hi
   have hil : i < l.length := by omega
   rw [drop_at l i z34 hil, made]
   have nx := ih (i + 1) (put w (l.getD i z34).f0 (wd w (l.getD i z34).f1)) (by rw [put_len]; exact hw) (by omega)
   rw [show (((i + 1 : Nat)) : Int) = (i : Int) + 1 by omega] at nx
   have hw1 : wrap64 ((i : Int) + 1) = (i : Int) + 1 := wrap_small _ (by omega) (by omega)
   have hc : (l.take (i + 1)).drop i = [l.getD i z34] := by
    rw [take_one l i z34 hil, List.drop_append, List.drop_of_length_le (by simp; omega), List.nil_append]
    simp [List.length_take]
    rw [Nat.min_eq_left (by omega), Nat.sub_self]; rfl
   have ho := once_ev [l.getD i z34] w (by simp) hw
   refine Evt.succ (Evt.congr (Evt.bind (h := fun k t => davitref20_Made.l0 k l t ((i : Int) + 1)) ho nx) fun k => ?_)
   rw [davitref20_Made.l0, if_pos (by omega), if_pos (by omega), hw1, if_pos (by omega), if_pos (by omega), Int.toNat_natCast, show ((i : Int) + 1).toNat = i + 1 by omega, hc]
 exact key l.length 0 w hw (by omega)
theorem real_ev (l : List S34) (hl : l.length ≤ 1000) : Evt (fun k => davitref20_Real.f k l) ((realL l).length : Int) := by
 have key : ∀ (d i : Nat), i + d = l.length → Evt (fun k => davitref20_Real.l0 k l ((realL (l.take i)).length : Int) (i : Int)) ((realL l).length : Int) := by
  intro d
  induction d with
  | zero =>
   intro i hi
   refine Evt.succ (Evt.congr (Evt.pure _) fun k => ?_)
   rw [davitref20_Real.l0, if_neg (by omega), List.take_of_length_le (by omega)]
  | succ d ih =>
   intro i hi
   have hil : i < l.length := by omega
   have nx := ih (i + 1) (by omega)
   have hw1 : wrap64 ((i : Int) + 1) = (i : Int) + 1 := wrap_small _ (by omega) (by omega)
   have hle : (realL (l.take i)).length ≤ i := Nat.le_trans (List.length_filter_le _ _) (by simp; omega)
   rw [take_one l i z34 hil, show (((i + 1 : Nat)) : Int) = (i : Int) + 1 by omega] at nx
   unfold realL at nx hle ⊢
   rw [List.filter_append, List.length_append] at nx
   refine Evt.succ (Evt.congr nx fun k => ?_)
   rw [davitref20_Real.l0, if_pos (by omega), if_pos (by omega), rd_nat, hw1]
   by_cases e : (l.getD i z34).f0 = (l.getD i z34).f1
   ·rw [if_pos e, List.filter_cons_of_neg (by simpa using e)]
    rfl
   ·rw [if_neg e, List.filter_cons_of_pos (by simpa using e), wrap_small _ (by omega) (by omega)]
    rfl
 refine Evt.congr (key l.length 0 (by omega)) fun k => rfl
theorem awake_ev : Evt (fun k => davitlaw20_awake.f k) true := Evt.of_mono (fun k => davitlaw20_awake.mono k) (k := 40) (by decide +kernel)
end Go.Proofs.Ytfbbfnadmnejeaa.G
namespace Go.Proofs.Ytfbbfnadmnejeaa.Pure
open Go.RowKit Go.Proofs.Ytfbbfnadmnejeaa.X Go.Proofs.Ytfbbfnadmnejeaa.G Go.Proofs.YtfbbfnadmnejeaaW.PrintWords
set_option linter.all false
theorem named_iff (l : List S34) (a : Int) : namedB l a = true ↔ ∃ m ∈ l, m.f0 = a ∨ m.f1 = a := by
 unfold namedB
 rcases idxF_spec (fun m : S34 => m.f0 == a || m.f1 == a) z34 l with ⟨e, hall⟩ | ⟨k, hk, e, hp, _⟩
 ·rw [e]
  constructor
  ·intro h; simp at h
  ·rintro ⟨m, hm, h⟩
   obtain ⟨j, hj, rfl⟩ := List.getElem_of_mem hm
   have := hall j hj
   rw [List.getD_eq_getElem?_getD, List.getElem?_eq_getElem hj] at this
   simp at this
   rcases h with h | h
   ·exact absurd h this.1
   ·exact absurd h this.2
 ·rw [e]
  refine ⟨fun _ => ⟨_, getD_mem l k z34 hk, by simpa using hp⟩, fun _ => by simp⟩
theorem last_loop (a : Int) (w x y : List Int) (hw : w.length = 100) (hx : x.length = 100) (hy : y.length = 100) (h : ∀ p, p ≠ a → wd x p = wd y p) : Evt (fun k => davitlaw20_CopiesRow.l3 k a w x y 0) true := by
 have key : ∀ (d i : Nat), i + d = 100 → Evt (fun k => davitlaw20_CopiesRow.l3 k a w x y (i : Int)) true := by
  intro d
  induction d with
  | zero =>
   intro i hi
   refine Evt.succ (Evt.congr (Evt.pure _) fun k => ?_)
   rw [davitlaw20_CopiesRow.l3, if_neg (by omega)]
  | succ d ih =>
   intro i hi
   refine Evt.succ (Evt.congr (ih (i + 1) (by omega)) fun k => ?_)
   rw [davitlaw20_CopiesRow.l3, if_pos (by omega), G.wrap_small _ (by omega) (by omega), show (((i + 1 : Nat)) : Int) = (i : Int) + 1 by omega]
   by_cases e : (i : Int) = a
   ·rw [if_pos e]
   ·rw [if_neg e, if_pos (by omega), if_pos (by omega), if_pos (by omega), rd_wd x _ (by omega), rd_wd y _ (by omega), if_pos (h _ e)]
 exact key 100 0 (by omega)
theorem words_loop (l : List S34) (a : Int) (ws : List Int) (r : List S34) (hl : l.length ≤ 1000) (hr : r.length ≤ 1000) (h : ∀ w : List Int, w.length = 100 → ∀ p, p ≠ a → wd (made r w) p = wd (once l w) p) :
  ∀ (d i : Nat) (x : List Int), x.length = 100 → i + d = 100 → Evt (fun k => davitlaw20_CopiesRow.l2 k l a ws r x (i : Int)) true := by
 intro d
 induction d with
 | zero =>
  intro i x hx hi
  refine Evt.succ (Evt.congr (Evt.bind (h := fun k t225 => (davitref20_Once.f k l x).bind fun t228 => davitlaw20_CopiesRow.l3 k a x t225 t228 0) (refMade_ev r x hr (by omega)) (Evt.bind (h := fun k t228 => davitlaw20_CopiesRow.l3 k a x (made r x) t228 0) (once_ev l x hl (by omega)) (last_loop a x (made r x) (once l x) hx (by rw [made_len]; exact hx) (by unfold once; rw [onceGo_len]; exact hx) (h x hx)))) fun k => ?_)
  rw [davitlaw20_CopiesRow.l2, if_neg (by omega)]
 | succ d ih =>
  intro i x hx hi
  have hw1 : wrap64 ((i : Int) + 1) = (i : Int) + 1 := G.wrap_small _ (by omega) (by omega)
  have n1 := ih (i + 1) (x.set i (IntKind.u16.wrap (wrap64 (1000 + (i : Int))))) (by rw [List.length_set]; exact hx) (by omega)
  have n2 := ih (i + 1) ((x.set i (IntKind.u16.wrap (wrap64 (1000 + (i : Int))))).set i (rd ws (i : Int))) (by rw [List.length_set, List.length_set]; exact hx) (by omega)
  rw [show (((i + 1 : Nat)) : Int) = (i : Int) + 1 by omega] at n1 n2
  by_cases e : (i : Int) < (ws.length : Int)
  ·refine Evt.succ (Evt.congr n2 fun k => ?_)
   rw [davitlaw20_CopiesRow.l2, if_pos (by omega), if_pos (by omega), Option.bind_some, if_pos e, hw1, Int.toNat_natCast]
  ·refine Evt.succ (Evt.congr n1 fun k => ?_)
   rw [davitlaw20_CopiesRow.l2, if_pos (by omega), if_pos (by omega), Option.bind_some, if_neg e, hw1, Int.toNat_natCast]
theorem small_loop (l : List S34) (a : Int) (ws : List Int) (r : List S34) (hl : l.length ≤ 1000) (hn : ∀ m ∈ l, 0 ≤ m.f0 ∧ 0 ≤ m.f1) (h : (∀ m ∈ l, m.f0 < 100 ∧ m.f1 < 100) → a < 100 → Evt (fun k => davitlaw20_CopiesRow.l2 k l a ws r (List.replicate 100 0) 0) true) :
  ∀ (d i : Nat), i + d = l.length → (∀ j, j < i → (l.getD j z34).f0 < 100 ∧ (l.getD j z34).f1 < 100) → Evt (fun k => davitlaw20_CopiesRow.l1 k l a ws r (i : Int)) true := by
 intro d
 induction d with
 | zero =>
  intro i hi hp
  by_cases ha : a ≥ 100
  ·refine Evt.succ (Evt.congr (Evt.pure _) fun k => ?_)
   rw [davitlaw20_CopiesRow.l1, if_neg (by omega), if_pos ha]
  ·refine Evt.succ (Evt.congr (h (fun m hm => ?_) (by omega)) fun k => ?_)
   ·obtain ⟨j, hj, rfl⟩ := List.getElem_of_mem hm
    have := hp j (by omega)
    rwa [List.getD_eq_getElem?_getD, List.getElem?_eq_getElem hj] at this
   ·rw [davitlaw20_CopiesRow.l1, if_neg (by omega), if_neg ha, if_pos (by omega)]
 | succ d ih =>
  intro i hi hp
  have hw1 : wrap64 ((i : Int) + 1) = (i : Int) + 1 := G.wrap_small _ (by omega) (by omega)
  by_cases h0 : (l.getD i z34).f0 ≥ 100
  ·refine Evt.succ (Evt.congr (Evt.pure _) fun k => ?_)
   rw [davitlaw20_CopiesRow.l1, if_pos (by omega), if_pos (by omega), rd_nat, if_pos h0]
  ·by_cases h1 : (l.getD i z34).f1 ≥ 100
   ·refine Evt.succ (Evt.congr (Evt.pure _) fun k => ?_)
    rw [davitlaw20_CopiesRow.l1, if_pos (by omega), if_pos (by omega), rd_nat, if_neg h0, if_pos h1]
   ·have nx := ih (i + 1) (by omega) (fun j hj => by
     rcases Nat.lt_or_ge j i with h | h
     ·exact hp j h
     ·obtain rfl : j = i := by omega
      exact ⟨by omega, by omega⟩)
    rw [show (((i + 1 : Nat)) : Int) = (i : Int) + 1 by omega] at nx
    refine Evt.succ (Evt.congr nx fun k => ?_)
    rw [davitlaw20_CopiesRow.l1, if_pos (by omega), if_pos (by omega), rd_nat, if_neg h0, if_neg h1, hw1]
theorem apart_look (l : List S34) (a : Int) (ws : List Int) (r : List S34) (e : Int) (hl : l.length ≤ 1000) (res : Bool) (b0 : Bool)
  (hfin : ∀ b : Bool, (b = true ↔ b0 = true ∧ ∀ m ∈ l, m.f0 ≠ a ∧ m.f1 ≠ a) → Evt (fun k => davitlaw20_CopiesRow.l0 k l a ws r e b (l.length : Int)) res) :
  ∀ (d i : Nat) (b : Bool), i + d = l.length → (b = true ↔ b0 = true ∧ ∀ j, j < i → (l.getD j z34).f0 ≠ a ∧ (l.getD j z34).f1 ≠ a) → Evt (fun k => davitlaw20_CopiesRow.l0 k l a ws r e b (i : Int)) res := by
 intro d
 induction d with
 | zero =>
  intro i b hi hb
  obtain rfl : i = l.length := by omega
  refine hfin b ⟨fun h => ⟨(hb.1 h).1, fun m hm => ?_⟩, fun h => hb.2 ⟨h.1, fun j hj => h.2 _ (getD_mem l j z34 hj)⟩⟩
  obtain ⟨j, hj, rfl⟩ := List.getElem_of_mem hm
  have := (hb.1 h).2 j hj
  rwa [List.getD_eq_getElem?_getD, List.getElem?_eq_getElem hj] at this
 | succ d ih =>
  intro i b hi hb
  have hw1 : wrap64 ((i : Int) + 1) = (i : Int) + 1 := G.wrap_small _ (by omega) (by omega)
  have nx : ∀ b2 : Bool, (b2 = true ↔ b = true ∧ (l.getD i z34).f0 ≠ a ∧ (l.getD i z34).f1 ≠ a) → Evt (fun k => davitlaw20_CopiesRow.l0 k l a ws r e b2 ((i : Int) + 1)) res := by
   intro b2 h2
   have := ih (i + 1) b2 (by omega) ⟨fun h => ?_, fun h => ?_⟩
   ·rwa [show (((i + 1 : Nat)) : Int) = (i : Int) + 1 by omega] at this
   ·obtain ⟨h3, h4⟩ := h2.1 h
    obtain ⟨h5, h6⟩ := hb.1 h3
    refine ⟨h5, fun j hj => ?_⟩
    rcases Nat.lt_or_ge j i with h | h
    ·exact h6 j h
    ·obtain rfl : j = i := by omega
     exact h4
   ·exact h2.2 ⟨hb.2 ⟨h.1, fun j hj => h.2 j (by omega)⟩, h.2 i (by omega)⟩
  cases b with
  | false =>
   refine Evt.succ (Evt.congr (nx false (by simp)) fun k => ?_)
   rw [davitlaw20_CopiesRow.l0, if_pos (by omega), if_neg (by simp), hw1]
  | true =>
   by_cases h0 : (l.getD i z34).f0 = a
   ·refine Evt.succ (Evt.congr (nx false ⟨fun h => (by cases h), fun h => absurd h0 h.2.1⟩) fun k => ?_)
    rw [davitlaw20_CopiesRow.l0, if_pos (by omega), if_pos rfl, if_pos (by omega), rd_nat, if_pos h0, hw1]
   ·refine Evt.succ (Evt.congr (nx ((l.getD i z34).f1 != a) ⟨fun h => ⟨rfl, h0, bne_iff_ne.1 h⟩, fun h => bne_iff_ne.2 h.2.2⟩) fun k => ?_)
    rw [davitlaw20_CopiesRow.l0, if_pos (by omega), if_pos rfl, if_pos (by omega), rd_nat, if_neg h0, hw1]
theorem CopiesRow (l : List S34) (a : Int) (ws : List Int) : ∃ k, davitlaw20_CopiesRow.f k l a ws = some true := by
 refine Evt.ex (Evt.congr (g' := fun k => (davitlaw20_awake.f k).bind fun t => if t = true then (if (l.length : Int) > 80 then davitlaw20_CopiesRow.j0 k l a ws true else davitlaw20_CopiesRow.j0 k l a ws (decide ((ws.length : Int) > 100))) else some false) (Evt.bind awake_ev ?_) fun k => rfl)
 by_cases h : l.length ≤ 80 ∧ ws.length ≤ 100
 ·obtain ⟨hl, hws⟩ := h
  refine Evt.congr (g' := fun k => davitlaw20_CopiesRow.j0 k l a ws false) (Evt.succ ?_) fun k => by
   rw [if_pos rfl, if_neg (by omega), decide_eq_false (by omega)]
  have hrow : ∃ (r : List S34) (e : Int), Evt (fun k => copies_Row.f k l a) (r, e) ∧ ((mayL l = true ∧ (0 ≤ a ∧ a ≤ 65535) ∧ ∀ m ∈ l, m.f0 ≠ a ∧ m.f1 ≠ a) → e = 0 ∧ ∃ c, RowIs 100 (realL l) a r c) ∧ (¬ (mayL l = true ∧ (0 ≤ a ∧ a ≤ 65535) ∧ ∀ m ∈ l, m.f0 ≠ a ∧ m.f1 ≠ a) → e = 1 ∧ r = []) := by
   by_cases hm : mayL l = true
   ·by_cases hp : placeB a = true
    ·by_cases hn : namedB l a = true
     ·refine ⟨[], 1, Evt.congr (Evt.pure _) (fun k => by unfold copies_Row.f; rw [if_pos (by omega), if_pos hm, if_pos hp, if_pos hn]), fun ⟨_, _, h3⟩ => ?_, fun _ => ⟨rfl, rfl⟩⟩
      obtain ⟨m, hm1, hm2⟩ := (named_iff l a).1 hn
      rcases hm2 with h4 | h4
      ·exact absurd h4 (h3 m hm1).1
      ·exact absurd h4 (h3 m hm1).2
     ·have hno : ∀ m ∈ l, m.f0 ≠ a ∧ m.f1 ≠ a := fun m hm1 => ⟨fun e => hn ((named_iff l a).2 ⟨m, hm1, .inl e⟩), fun e => hn ((named_iff l a).2 ⟨m, hm1, .inr e⟩)⟩
      obtain ⟨r, c, h1, h2⟩ := row_ev 100 l a ((mayL_iff l).1 hm) (fun hin => by
       obtain ⟨m, hm1, e⟩ := of_ds hin
       exact (hno m (realL_mem.1 hm1).1).1 e)
      refine ⟨r, 0, Evt.congr (Evt.bind h2 (Evt.pure ((r, (0 : Int)) : List S34 × Int))) (fun k => by unfold copies_Row.f; rw [if_pos (by omega), if_pos hm, if_pos hp, if_neg hn]), fun _ => ⟨rfl, c, h1⟩, fun h3 => absurd ⟨hm, (placeB_iff a).1 hp, hno⟩ h3⟩
    ·refine ⟨[], 1, Evt.congr (Evt.pure _) (fun k => by unfold copies_Row.f; rw [if_pos (by omega), if_pos hm, if_neg hp]), fun ⟨_, h2, _⟩ => absurd ((placeB_iff a).2 h2) hp, fun _ => ⟨rfl, rfl⟩⟩
   ·refine ⟨[], 1, Evt.congr (Evt.pure _) (fun k => by unfold copies_Row.f; rw [if_pos (by omega), if_neg hm]), fun ⟨h1, _⟩ => absurd h1 hm, fun _ => ⟨rfl, rfl⟩⟩
  obtain ⟨r, e, hE, hyes, hno⟩ := hrow
  have j1 : ∀ b0 : Bool, (b0 = true ↔ mayL l = true ∧ (0 ≤ a ∧ a ≤ 65535)) → Evt (fun k => davitlaw20_CopiesRow.j1 k l a ws r e b0) true := by
   intro b0 hb0
   refine Evt.succ (Evt.congr (apart_look l a ws r e (by omega) true b0 (fun b hb => ?_) l.length 0 b0 (by omega) (by simp)) fun k => by rw [davitlaw20_CopiesRow.j1]; rfl)
   cases b with
   | true =>
    obtain ⟨h1, h2⟩ := hb.1 rfl
    obtain ⟨h3, h4⟩ := hb0.1 h1
    obtain ⟨rfl, c, hc1, hc2, hc3⟩ := hyes ⟨h3, h4, h2⟩
    have hM := (mayL_iff l).1 h3
    have hlen := hM.len
    have hrl : (realL l).length ≤ l.length := List.length_filter_le _ _
    have hcl : c ≤ (realL l).length := by rw [hc2]; exact List.countP_le_length
    have hr2 := refRings_ev l (by omega)
    rw [if_pos h3, ← hc2] at hr2
    refine Evt.succ (Evt.congr (g' := fun k => (davitref20_Real.f k l).bind fun t215 => ((davitref20_Rings.f k l).bind fun t216 => (davitlaw20_CopiesRow.j3 k l a ws r ((r.length : Int) != (wrap64 (t215 + t216)))))) (Evt.bind (real_ev l (by omega)) (Evt.bind hr2 ?_)) fun k => by
     rw [davitlaw20_CopiesRow.l0, if_neg (by omega), if_pos rfl, if_pos rfl])
    have hneq : ((r.length : Int) != wrap64 (((realL l).length : Int) + (c : Int))) = false := by
     rw [G.wrap_small _ (by omega) (by omega), hc1]; simp
    rw [hneq]
    have nn : ∀ m ∈ l, 0 ≤ m.f0 ∧ 0 ≤ m.f1 := fun m hm => ⟨(hM.pl m hm).1.1, (hM.pl m hm).2.1⟩
    refine Evt.succ (Evt.congr (small_loop l a ws r (by omega) nn (fun hs ha => ?_) l.length 0 (by omega) (fun j hj => by omega)) fun k => by rw [davitlaw20_CopiesRow.j3, if_neg (by simp)]; rfl)
    have hin : InR 100 (realL l) := fun m hm => by
     have hm := (realL_mem.1 hm).1
     have := nn m hm
     have := hs m hm
     exact ⟨⟨by omega, by omega⟩, ⟨by omega, by omega⟩⟩
    have hsem := hc3 hin ⟨h4.1, by omega⟩
    refine words_loop l a ws r (by omega) (by omega) (fun w hw p hp => ?_) 100 0 _ (by simp) (by omega)
    rw [hsem w hw p hp]
    by_cases hd : p ∈ ds (realL l)
    ·obtain ⟨m, hm, rfl⟩ := of_ds hd
     have hm' := (realL_mem.1 hm).1
     rw [show wd (once (realL l) w) m.f0 = wd w m.f1 from once_at w m _ w (ok_real hM).nd hm (by rw [hw]; exact (hin m hm).1)]
     exact (once_at w m l w hM.nd hm' (by rw [hw]; exact (hin m hm).1)).symm
    ·rw [show wd (once (realL l) w) p = wd w p from once_no _ _ _ _ hd]
     by_cases hd2 : p ∈ ds l
     ·obtain ⟨m, hm, rfl⟩ := of_ds hd2
      have hse : m.f1 = m.f0 := by
       by_cases e : m.f0 = m.f1
       ·exact e.symm
       ·exact absurd (mem_ds (realL_mem.2 ⟨hm, e⟩)) hd
      have := once_at w m l w hM.nd hm (by rw [hw]; exact ⟨(nn m hm).1, by have := (hs m hm).1; omega⟩)
      rw [show wd (once l w) m.f0 = wd w m.f1 from this, hse]
     ·exact (once_no w p l w hd2).symm
   | false =>
    obtain ⟨rfl, rfl⟩ := hno (fun ⟨h1, h2, h3⟩ => by
     have := hb.2 ⟨hb0.2 ⟨h1, h2⟩, h3⟩
     cases this)
    refine Evt.succ (Evt.congr (Evt.pure _) fun k => ?_)
    rw [davitlaw20_CopiesRow.l0, if_neg (by omega), if_neg (by simp), if_pos rfl]
    rfl
  refine Evt.congr (g' := fun k => (copies_Row.f k l a).bind fun bt208 => ((davitref20_May.f k l).bind fun t212 => (if t212 = true then (if a ≥ 0 then (davitlaw20_CopiesRow.j1 k l a ws bt208.1 bt208.2 (decide (a ≤ 65535))) else (davitlaw20_CopiesRow.j1 k l a ws bt208.1 bt208.2 false)) else (davitlaw20_CopiesRow.j1 k l a ws bt208.1 bt208.2 false)))) ?_ fun k => by rw [davitlaw20_CopiesRow.j0, if_neg (by simp)]
  refine Evt.bind hE (Evt.bind (refMay_ev l (by omega)) ?_)
  by_cases hm : mayL l = true
  ·by_cases ha : a ≥ 0
   ·refine Evt.congr (j1 (decide (a ≤ 65535)) (by simp [hm, ha])) fun k => by rw [if_pos hm, if_pos ha]
   ·refine Evt.congr (j1 false (by simp; omega)) fun k => by rw [if_pos hm, if_neg ha]
  ·refine Evt.congr (j1 false (by simp [hm])) fun k => by rw [if_neg hm]
 ·refine Evt.congr (g' := fun k => davitlaw20_CopiesRow.j0 k l a ws true) (Evt.succ (Evt.congr (Evt.pure _) fun k => by rw [davitlaw20_CopiesRow.j0, if_pos rfl])) fun k => ?_
  rw [if_pos rfl]
  by_cases h2 : (l.length : Int) > 80
  ·rw [if_pos h2]
  ·rw [if_neg h2, decide_eq_true (by omega)]
end Go.Proofs.Ytfbbfnadmnejeaa.Pure
namespace Go.Proofs.Ytfbbfnadmnejeaa.X
open Go.ChangeShapes Go.WideShapes Go.ChangeAt Go.RowKit Go.Proofs.YtfbbfnadmnejeaaW.PrintWords Go.Proofs.YtfbbfnadmnejeaaW.PrintLast Go.Proofs.YtfbbfnadmnejeaaW.PrintMore
set_option linter.all false
def Opens {α : Type} (d : Kd α) (t : TypeId) : Prop := ∀ (H : Type) (enc : TypeId × Value → H) (w : World) (fuel : Nat) (cs : List Value) (x : DataW H × List MemPlace),
 DataW.trod enc Try.prog w 0 (fun _ => true) true fuel t cs = some x → ∃ a, d.K w a cs
theorem Opens.int {k : IntKind} {t : TypeId} (ht : Try.prog.underlying t = some (.int k)) : Opens (Kd.int k) t := fun H enc w fuel cs x h => by
 obtain ⟨n, rfl, _⟩ := DataW.trod_int ht h
 exact ⟨n, rfl⟩
theorem Opens.bool {t : TypeId} (ht : Try.prog.underlying t = some .bool) : Opens Kd.bool t := fun H enc w fuel cs x h => by
 obtain ⟨n, rfl, _⟩ := DataW.trod_bool ht h
 exact ⟨n, rfl⟩
theorem Opens.slice {α : Type} {d : Kd α} {t e : TypeId} (e' : Nat) (ht : Try.prog.underlying t = some (.slice e)) (hd : Opens d e) (hs : d.sz = Try.prog.cellsOf e) : Opens (Kd.slice e' d) t := fun H enc w fuel cs x h => by
 rcases Go.Deep.open_slice ht h with ⟨rfl, _⟩ | ⟨a, len, cap, m, n, D, Pl, rfl, _, hl, hm, hmm, _, hx⟩
 ·exact ⟨[], none, 0, rfl, Nat.le_refl _, ⟨rfl, by simp, fun h => absurd h (by simp)⟩⟩
 ·have hlm : len ≤ m := by rw [hmm]; split <;> omega
  have key : ∀ j, j ≤ len → ∃ xs : List α, xs.length = j ∧ ∀ i p, xs[i]? = some p → ∃ c, c.length = d.sz ∧ d.K w p c ∧ ∀ q u, c[q]? = some u → w.cell? (a.add (i * d.sz + q)) = some u := by
   intro j
   induction j with
   | zero => exact fun _ => ⟨[], rfl, fun i p h => by simp at h⟩
   | succ j ih =>
    intro hj
    obtain ⟨xs, h1, h2⟩ := ih (by omega)
    obtain ⟨cs', h3, h4⟩ := hx j (by omega)
    obtain ⟨p, hp⟩ := hd H enc w n cs' _ h4
    obtain ⟨_, h5, h6⟩ := World.cells?_some h3
    refine ⟨xs ++ [p], by simp [h1], fun i q hq => ?_⟩
    by_cases hi : i < j
    ·rw [List.getElem?_append_left (by omega)] at hq
     exact h2 i q hq
    ·have hi' : i = j := by
      have := (List.getElem?_eq_some_iff.1 hq).1
      simp [h1] at this; omega
     subst hi'
     rw [List.getElem?_append_right (by omega), h1, Nat.sub_self] at hq
     simp at hq
     subst hq
     refine ⟨cs', by rw [h5, hs], hp, fun z u hz => ?_⟩
     have hzl := (List.getElem?_eq_some_iff.1 hz).1
     have := h6 z (by omega)
     rw [Go.Deep.add_add, ← hs] at this
     rw [this, hz]
  obtain ⟨xs, h1, h2⟩ := key len (Nat.le_refl _)
  have hmx : maxLen ≤ 9223372036854775807 := by decide
  exact ⟨xs, some a, cap, by rw [h1], by rw [h1]; exact hl, ⟨rfl, by omega, fun _ => ⟨a, rfl, h2⟩⟩⟩
theorem Opens.iso {α β : Type} {d : Kd α} {t : TypeId} (f : β → α) (g : α → β) (hg : ∀ y, f (g y) = y) (h : Opens d t) : Opens (Kd.iso d f) t := fun H enc w fuel cs x hx => by
 obtain ⟨a, ha⟩ := h H enc w fuel cs x hx
 exact ⟨g a, show d.K w (f (g a)) cs by rw [hg]; exact ha⟩
def OpensF {α : Type} (d : Kd α) (fs : List Field) (off : Nat) : Prop := ∀ (H : Type) (enc : TypeId × Value → H) (w : World) (n : Nat) (cs : List Value), cs.length = off + d.sz →
 (∀ f ∈ fs, ∃ y, DataW.trod enc Try.prog w 0 (fun _ => true) true n f.type ((cs.drop f.offset).take (Try.prog.cellsOf f.type)) = some y) → ∃ a, d.K w a (cs.drop off)
theorem OpensF.one {α : Type} {d : Kd α} {f : Field} {off : Nat} (ho : f.offset = off) (hd : Opens d f.type) (hs : Try.prog.cellsOf f.type = d.sz) : OpensF d [f] off := fun H enc w n cs hl h => by
 obtain ⟨y, hy⟩ := h f (List.mem_cons_self ..)
 rw [ho, hs, List.take_of_length_le (by rw [List.length_drop]; omega)] at hy
 exact hd H enc w n _ _ hy
theorem OpensF.cons {α β : Type} {d : Kd α} {d2 : Kd β} {f : Field} {fs : List Field} {off : Nat} (ho : f.offset = off) (hd : Opens d f.type) (hs : Try.prog.cellsOf f.type = d.sz) (h2 : OpensF d2 fs (off + d.sz)) : OpensF (Kd.pair d d2) (f :: fs) off := fun H enc w n cs hl h => by
 obtain ⟨y, hy⟩ := h f (List.mem_cons_self ..)
 rw [ho, hs] at hy
 obtain ⟨a, ha⟩ := hd H enc w n _ _ hy
 have hl' : cs.length = off + (d.sz + d2.sz) := hl
 obtain ⟨b, hb⟩ := h2 H enc w n cs (by omega) fun g hg => h g (List.mem_cons_of_mem _ hg)
 refine ⟨(a, b), _, _, ?_, ha, hb⟩
 rw [show cs.drop (off + d.sz) = (cs.drop off).drop d.sz by rw [List.drop_drop], List.take_append_drop]
theorem Opens.struct {α : Type} {d : Kd α} {t : TypeId} {fs : Array Field} (ht : Try.prog.underlying t = some (.struct fs)) (hs : Try.prog.cellsOf t = d.sz) (h : OpensF d fs.toList 0) : Opens d t := fun H enc w fuel cs x hx => by
 obtain ⟨xs, n, _, _, hl, hlen, hf⟩ := DataW.trod_struct ht hx
 have := h H enc w n cs (by omega) fun f hm => by
  obtain ⟨i, hi, e⟩ := List.getElem_of_mem hm
  have hi' : i < fs.size := by simpa using hi
  have := hf i f (by rw [← e]; simp [hi'])
  rw [this, List.getElem?_eq_getElem (by omega)]
  exact ⟨_, rfl⟩
 simpa using this
theorem open_sl {α : Type} {d : Kd α} {t e e' : TypeId} (ht : Try.prog.underlying t = some (.slice e)) (ho : Opens (Kd.slice e' d) t) {H : Type} {enc : TypeId × Value → H} {W : World} {r : Reach} {b0 : Nat} {v : Value} {dd : DataW H} {p : List MemPlace} (hv : Value.okWide Try.prog W r b0 t v) (h : DataW.Trod enc Try.prog W 0 (fun _ => true) true t v dd p) :
  ∃ (A : Option Addr) (c : Nat) (l : List α), v = .slice A l.length c ∧ Kd.C d W A l.length l ∧ l.length ≤ c := by
 obtain ⟨A, n, c, rfl⟩ := okWide_slice ht hv
 obtain ⟨fuel, hf⟩ := h
 obtain ⟨l, A', c', e, hc, hC⟩ := ho H enc W fuel _ _ hf
 simp only [Value.cells] at e
 injection e with e _
 injection e with e1 e2 e3
 subst e1
 subst e2
 subst e3
 exact ⟨A, c, l, rfl, hC, hc⟩
end Go.Proofs.Ytfbbfnadmnejeaa.X
namespace Go.Proofs.Ytfbbfnadmnejeaa.X
open Go.RowKit Go.Proofs.YtfbbfnadmnejeaaW.PrintWords Go.Proofs.YtfbbfnadmnejeaaW.PrintLast Go.Proofs.YtfbbfnadmnejeaaW.PrintMore
set_option linter.all false
set_option maxRecDepth 100000
theorem oInt : Opens (Kd.int .i64) 3 := Opens.int Try.underlying3
theorem o34 : Opens k34 34 := Opens.iso _ (fun y => ⟨y.1, y.2⟩) (fun _ => rfl) (Opens.struct Try.underlying34 (by kernel_rfl) (.cons rfl oInt (by kernel_rfl) (.one rfl oInt (by kernel_rfl))))
theorem oMoves : Opens (Kd.slice 34 k34) 22 := Opens.slice 34 Try.underlying22 o34 (by kernel_rfl)
theorem oWords : Opens (Kd.slice 35 (Kd.int .u16)) 23 := Opens.slice 35 Try.underlying23 (Opens.int (by kernel_rfl)) (by kernel_rfl)
end Go.Proofs.Ytfbbfnadmnejeaa.X
namespace Go.Proofs.Ytfbbfnadmnejeaa.copiesRow
open Go.ChangeShapes Go.WideShapes Go.ChangeAt Go.RowKit Go.Proofs.Ytfbbfnadmnejeaa.X Go.Proofs.YtfbbfnadmnejeaaW.PrintWords
set_option linter.all false
theorem own : ownKnob Try.prog.godebug = none := by kernel_rfl
theorem laidOut : laidOutB Try.prog = true := by kernel_rfl
set_option maxRecDepth 100000 in
theorem lifted (os : Os) (started : os.Started) (H : Type) (enc : TypeId × Value → H) :
  ReturnsInHanded {} Try.checked os 4 .any (Rows.copiesRowSpec.pre6 enc Try.prog Try.f4 Rows.copiesRowRow.domain false) (Rows.copiesRowSpec.post enc Try.prog Try.f4 false true false false) := by
 refine returnsInHanded_of_change_sized (C := Try.checked) own started (by kernel_rfl) Try.func4
  (ChangeSpec.witness6 (enc := enc) (C := Try.checked) false ⟨#[], #[.slice none 0 0, .int .i64 0, .slice none 0 0], []⟩ 8 (by kernel_rfl) (by kernel_rfl) (by kernel_rfl) (by kernel_rfl)) ?_
 intro W base args ds gs before hval0 hW hcnd hsz0 _
 have hval : ∀ (j : Nat) t v, Try.f4.params[j]? = some t → args[j]? = some v → Value.okWide Try.prog W .any base t v := hval0
 have hW' := hW
 obtain ⟨p, q, hA0, hV, rfl, hfz, hnd⟩ := hW
 have hA : DataW.TrodAll enc Try.prog W 0 (fun _ => true) true Try.f4.params.toList args.toList ds p := hA0
 rw [Try.params4] at hA hval
 obtain ⟨v0, vs0, d0, ds0, p0, q0, hargs, rfl, rfl, h0, r0⟩ := trodAll_cons hA
 obtain ⟨v1, vs1, d1, ds1, p1, q1, rfl, rfl, rfl, h1, r1⟩ := trodAll_cons r0
 obtain ⟨v2, vs2, d2, ds2, p2, q2, rfl, rfl, rfl, h2, r2⟩ := trodAll_cons r1
 obtain ⟨rfl, rfl, rfl⟩ := trodAll_nil r2
 obtain rfl : args = #[v0, v1, v2] := by cases args; simp_all
 obtain ⟨rfl, rfl⟩ := trodVars_none hV
 have k0 := h0
 have lt0 : ∀ x ∈ p0, x.block < W.heap.size := by obtain ⟨m, hm⟩ := k0; exact DataW.trod_lt m _ _ _ hm
 obtain ⟨A0, c0, l0, rfl, hr0, hc0⟩ := open_sl Try.underlying22 oMoves (hval 0 22 v0 rfl rfl) h0
 obtain ⟨a1, rfl, rfl, rfl, w1⟩ := open_int Try.underlying3 (hval 1 3 v1 rfl rfl) h1
 have k2 := h2
 have lt2 : ∀ x ∈ p2, x.block < W.heap.size := by obtain ⟨m, hm⟩ := k2; exact DataW.trod_lt m _ _ _ hm
 obtain ⟨A2, c2, l2, rfl, hr2, hc2⟩ := open_sl Try.underlying23 oWords (hval 2 23 v2 rfl rfl) h2
 clear hA0 hval0 hsz0
 obtain ⟨k, hk⟩ := Pure.CopiesRow l0 a1 l2
 refine (davitlaw20_CopiesRow.calls k A0 c0 l0 a1 A2 c2 l2 true W hr0 hc0 hr2 hc2 hk).mono fun e W' ⟨he, bel⟩ => ?_
 subst he
 exact ⟨_, rfl, _, _, _, [], _, [], hW', trodAll_mk1 (shut_bool Try.underlying4 _), (trodAll_cons_mk (Below.trod laidOut (by kernel_rfl) (of_decide_eq_true (by kernel_rfl)) k0 bel lt0) (trodAll_cons_mk (shut_int Try.underlying3 w1) (trodAll_cons_mk (Below.trod laidOut (by kernel_rfl) (of_decide_eq_true (by kernel_rfl)) k2 bel lt2) trodAll_mk0))), rfl, bel.frame _, fun h => by cases h⟩
theorem over : Rows.copiesRowRow.holds Try.pinned (OpenSpec.ofChange Rows.copiesRowSpec) :=
 OpenClaim.holds_of_wide 4 Try.f4 rfl rfl rfl rfl rfl rfl rfl ⟨rfl, rfl, rfl, rfl, rfl⟩ rfl rfl rfl rfl rfl (by kernel_rfl) Try.func4 (by kernel_rfl)
  (of_decide_eq_true (by kernel_rfl)) (by unfold Func.isWrapper; first | (rw [if_pos (by decide +kernel)]; kernel_rfl) | (rw [if_neg (by decide +kernel)]; exact ⟨rfl, rfl⟩))
  (fun os started H enc _ => lifted os started H enc)
theorem proved : Rows.CopiesRowSaid := over
#print axioms proved
end Go.Proofs.Ytfbbfnadmnejeaa.copiesRow
namespace Go.Proofs.Ytfbbfnadmnejeaa
theorem copiesRow_holds : Rows.CopiesRowSaid := copiesRow.proved
end Go.Proofs.Ytfbbfnadmnejeaa
