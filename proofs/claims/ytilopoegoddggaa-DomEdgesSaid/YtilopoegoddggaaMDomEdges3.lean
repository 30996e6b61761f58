/- Part 4 of the proof of the statement DomEdges: the words of the walks, the walks through the functions that it reaches, and the plain laws of what they compute. -/
import Derived.Test.YtilopoegoddggaaMDomEdges2
namespace Go.Proofs.Ytilopoegoddggaa.X
open Go.RowKit Go.Proofs.YtilopoegoddggaaW.PrintWords Go.Proofs.YtilopoegoddggaaW.PrintLast Go.Proofs.YtilopoegoddggaaW.PrintMore
attribute [local go_sem] max2_int min2_int max_two min_two max_three min_three max_four min_four
set_option linter.all false
noncomputable section
mutual
def davitlaw08_DomEdges.l0 : Nat → List Int → List Bool → Int → Int → Int → List (S50) → Option (Bool)
 | 0, _, _, _, _, _, _ => none
 | k + 1, x3, x4, x5, x286000, x286001, x286002 => if x5 < (x286002.length : Int) then (if 0 ≤ x5 then (if x5 < (x3.length : Int) then (if x5 < (x4.length : Int) then (if rdOf false x4 x5 = true then (davitlaw08_DomEdges.j1 k x3 x4 x5 ((decide ((rd x3 x5) ≥ 0)) != (decide (x5 > 0))) x286000 x286001 x286002) else (davitlaw08_DomEdges.j1 k x3 x4 x5 ((decide ((rd x3 x5) ≥ 0)) != false) x286000 x286001 x286002)) else (none)) else (none)) else (none)) else (some true)
def davitlaw08_DomEdges.j1 : Nat → List Int → List Bool → Int → Bool → Int → Int → List (S50) → Option (Bool)
 | 0, _, _, _, _, _, _, _ => none
 | k + 1, x3, x4, x5, x46, x286000, x286001, x286002 => if x46 = true then (some false) else ((dom_Edge.f k x286000 x286001 x286002 x5).bind fun t295 => (davitlaw08_DomEdges.l1 k x3 x4 x5 t295 0 x286000 x286001 x286002))
def davitlaw08_DomEdges.l1 : Nat → List Int → List Bool → Int → List Int → Int → Int → Int → List (S50) → Option (Bool)
 | 0, _, _, _, _, _, _, _, _ => none
 | k + 1, x3, x4, x5, x6, x7, x286000, x286001, x286002 => if x7 < (x286002.length : Int) then (if 0 ≤ x5 then (if x5 < (x3.length : Int) then (if (rd x3 x5) ≥ 0 then (if x7 = x5 then (davitlaw08_DomEdges.j3 k x3 x4 x5 x6 x7 false x286000 x286001 x286002) else ((dom_Is.f k x286000 x286001 x286002 x7 x5).bind fun t302 => (if t302 = true then ((dom_Is.f k x286000 x286001 x286002 x7 (rd x3 x5)).bind fun t304 => (davitlaw08_DomEdges.j3 k x3 x4 x5 x6 x7 (!t304) x286000 x286001 x286002)) else (davitlaw08_DomEdges.j3 k x3 x4 x5 x6 x7 false x286000 x286001 x286002)))) else (davitlaw08_DomEdges.j3 k x3 x4 x5 x6 x7 false x286000 x286001 x286002)) else (none)) else (none)) else (if 0 ≤ x5 then (if x5 < (x3.length : Int) then (if (rd x3 x5) ≥ 0 then ((dom_Is.f k x286000 x286001 x286002 (rd x3 x5) x5).bind fun t300 => (if t300 = true then (davitlaw08_DomEdges.l0 k x3 x4 (wrap64 (x5 + 1)) x286000 x286001 x286002) else (some false))) else (davitlaw08_DomEdges.l0 k x3 x4 (wrap64 (x5 + 1)) x286000 x286001 x286002)) else (none)) else (none))
def davitlaw08_DomEdges.j3 : Nat → List Int → List Bool → Int → List Int → Int → Bool → Int → Int → List (S50) → Option (Bool)
 | 0, _, _, _, _, _, _, _, _, _ => none
 | k + 1, x3, x4, x5, x6, x7, x82, x286000, x286001, x286002 => if x82 = true then (some false) else ((flow_Next.f x286000 x286001 x286002 x7).bind fun t305 => (davitlaw08_DomEdges.l2 k x3 x4 x5 x6 x7 t305 0 x286000 x286001 x286002))
def davitlaw08_DomEdges.l2 : Nat → List Int → List Bool → Int → List Int → Int → List Int → Int → Int → Int → List (S50) → Option (Bool)
 | 0, _, _, _, _, _, _, _, _, _, _ => none
 | k + 1, x3, x4, x5, x6, x7, x8, x9, x286000, x286001, x286002 => if x9 < (x8.length : Int) then ((dom_Is.f k x286000 x286001 x286002 x5 x7).bind fun t308 => (if t308 = true then (if 0 ≤ x9 then (if (rd x8 x9) = x5 then ((davitref07_Has.f k x6 (rd x8 x9)).bind fun t311 => (if t311 = true then (davitlaw08_DomEdges.l2 k x3 x4 x5 x6 x7 x8 (wrap64 (x9 + 1)) x286000 x286001 x286002) else (some false))) else ((dom_Is.f k x286000 x286001 x286002 x5 (rd x8 x9)).bind fun t313 => (if t313 = true then (davitlaw08_DomEdges.l2 k x3 x4 x5 x6 x7 x8 (wrap64 (x9 + 1)) x286000 x286001 x286002) else ((davitref07_Has.f k x6 (rd x8 x9)).bind fun t315 => (if t315 = true then (davitlaw08_DomEdges.l2 k x3 x4 x5 x6 x7 x8 (wrap64 (x9 + 1)) x286000 x286001 x286002) else (some false)))))) else (none)) else (davitlaw08_DomEdges.l2 k x3 x4 x5 x6 x7 x8 (wrap64 (x9 + 1)) x286000 x286001 x286002))) else (davitlaw08_DomEdges.l1 k x3 x4 x5 x6 (wrap64 (x7 + 1)) x286000 x286001 x286002)
end
def davitlaw08_DomEdges.f (k : Nat) (a0_0 : Int) (a0_1 : Int) (l0_2 : List (S50)) : Option (Bool) := (davitlaw08_awake.f k).bind fun t286 => (if t286 = true then (if (l0_2.length : Int) > 30 then (some true) else ((dom_Over.f a0_0 a0_1 l0_2).bind fun t287 => ((flow_Reached.f a0_0 a0_1 l0_2).bind fun t290 => (if (t287.length : Int) = (l0_2.length : Int) then (davitlaw08_DomEdges.l0 k t287 t290 0 a0_0 a0_1 l0_2) else (some false))))) else (some false))
theorem davitlaw08_DomEdges.mono_l : ∀ k, (∀ y0 y1 y2 y3 y4 y5, LeO (davitlaw08_DomEdges.l0 k y0 y1 y2 y3 y4 y5) (davitlaw08_DomEdges.l0 (k + 1) y0 y1 y2 y3 y4 y5)) ∧ (∀ y0 y1 y2 y3 y4 y5 y6, LeO (davitlaw08_DomEdges.j1 k y0 y1 y2 y3 y4 y5 y6) (davitlaw08_DomEdges.j1 (k + 1) y0 y1 y2 y3 y4 y5 y6)) ∧ (∀ y0 y1 y2 y3 y4 y5 y6 y7, LeO (davitlaw08_DomEdges.l1 k y0 y1 y2 y3 y4 y5 y6 y7) (davitlaw08_DomEdges.l1 (k + 1) y0 y1 y2 y3 y4 y5 y6 y7)) ∧ (∀ y0 y1 y2 y3 y4 y5 y6 y7 y8, LeO (davitlaw08_DomEdges.j3 k y0 y1 y2 y3 y4 y5 y6 y7 y8) (davitlaw08_DomEdges.j3 (k + 1) y0 y1 y2 y3 y4 y5 y6 y7 y8)) ∧ (∀ y0 y1 y2 y3 y4 y5 y6 y7 y8 y9, LeO (davitlaw08_DomEdges.l2 k y0 y1 y2 y3 y4 y5 y6 y7 y8 y9) (davitlaw08_DomEdges.l2 (k + 1) y0 y1 y2 y3 y4 y5 y6 y7 y8 y9))
 | 0 => ⟨fun _ _ _ _ _ _ r h => by simp [davitlaw08_DomEdges.l0] at h, fun _ _ _ _ _ _ _ r h => by simp [davitlaw08_DomEdges.j1] at h, fun _ _ _ _ _ _ _ _ r h => by simp [davitlaw08_DomEdges.l1] at h, fun _ _ _ _ _ _ _ _ _ r h => by simp [davitlaw08_DomEdges.j3] at h, fun _ _ _ _ _ _ _ _ _ _ r h => by simp [davitlaw08_DomEdges.l2] at h⟩
 | k + 1 => by
  obtain ⟨ih0, ih1, ih2, ih3, ih4⟩ := davitlaw08_DomEdges.mono_l k
  refine ⟨?_, ?_, ?_, ?_, ?_⟩
  ·intro y0 y1 y2 y3 y4 y5
   unfold davitlaw08_DomEdges.l0
   repeat' first
   | (with_reducible exact ih0 _ _ _ _ _ _)
   | (with_reducible exact ih1 _ _ _ _ _ _ _)
   | (with_reducible exact ih2 _ _ _ _ _ _ _ _)
   | (with_reducible exact ih3 _ _ _ _ _ _ _ _ _)
   | (with_reducible exact ih4 _ _ _ _ _ _ _ _ _ _)
   | (with_reducible exact davitlaw08_awake.mono _)
   | (with_reducible exact davitref07_Has.mono _ _ _)
   | (with_reducible exact dom_Edge.mono _ _ _ _ _)
   | (with_reducible exact dom_Is.mono _ _ _ _ _ _)
   | (with_reducible exact LeO.refl _)
   | (with_reducible exact LeO.none _)
   | (with_reducible refine LeO.ite ?_ ?_)
   | (with_reducible refine LeO.bind ?_ (fun _ => ?_))
   | exact ih0 _ _ _ _ _ _
   | exact ih1 _ _ _ _ _ _ _
   | exact ih2 _ _ _ _ _ _ _ _
   | exact ih3 _ _ _ _ _ _ _ _ _
   | exact ih4 _ _ _ _ _ _ _ _ _ _
   | exact davitlaw08_awake.mono _
   | exact davitref07_Has.mono _ _ _
   | exact dom_Edge.mono _ _ _ _ _
   | exact dom_Is.mono _ _ _ _ _ _
   | exact LeO.none _
   | refine LeO.ite ?_ ?_
   | refine LeO.bind ?_ (fun _ => ?_)
  ·intro y0 y1 y2 y3 y4 y5 y6
   unfold davitlaw08_DomEdges.j1
   repeat' first
   | (with_reducible exact ih0 _ _ _ _ _ _)
   | (with_reducible exact ih1 _ _ _ _ _ _ _)
   | (with_reducible exact ih2 _ _ _ _ _ _ _ _)
   | (with_reducible exact ih3 _ _ _ _ _ _ _ _ _)
   | (with_reducible exact ih4 _ _ _ _ _ _ _ _ _ _)
   | (with_reducible exact davitlaw08_awake.mono _)
   | (with_reducible exact davitref07_Has.mono _ _ _)
   | (with_reducible exact dom_Edge.mono _ _ _ _ _)
   | (with_reducible exact dom_Is.mono _ _ _ _ _ _)
   | (with_reducible exact LeO.refl _)
   | (with_reducible exact LeO.none _)
   | (with_reducible refine LeO.ite ?_ ?_)
   | (with_reducible refine LeO.bind ?_ (fun _ => ?_))
   | exact ih0 _ _ _ _ _ _
   | exact ih1 _ _ _ _ _ _ _
   | exact ih2 _ _ _ _ _ _ _ _
   | exact ih3 _ _ _ _ _ _ _ _ _
   | exact ih4 _ _ _ _ _ _ _ _ _ _
   | exact davitlaw08_awake.mono _
   | exact davitref07_Has.mono _ _ _
   | exact dom_Edge.mono _ _ _ _ _
   | exact dom_Is.mono _ _ _ _ _ _
   | exact LeO.none _
   | refine LeO.ite ?_ ?_
   | refine LeO.bind ?_ (fun _ => ?_)
  ·intro y0 y1 y2 y3 y4 y5 y6 y7
   unfold davitlaw08_DomEdges.l1
   repeat' first
   | (with_reducible exact ih0 _ _ _ _ _ _)
   | (with_reducible exact ih1 _ _ _ _ _ _ _)
   | (with_reducible exact ih2 _ _ _ _ _ _ _ _)
   | (with_reducible exact ih3 _ _ _ _ _ _ _ _ _)
   | (with_reducible exact ih4 _ _ _ _ _ _ _ _ _ _)
   | (with_reducible exact davitlaw08_awake.mono _)
   | (with_reducible exact davitref07_Has.mono _ _ _)
   | (with_reducible exact dom_Edge.mono _ _ _ _ _)
   | (with_reducible exact dom_Is.mono _ _ _ _ _ _)
   | (with_reducible exact LeO.refl _)
   | (with_reducible exact LeO.none _)
   | (with_reducible refine LeO.ite ?_ ?_)
   | (with_reducible refine LeO.bind ?_ (fun _ => ?_))
   | exact ih0 _ _ _ _ _ _
   | exact ih1 _ _ _ _ _ _ _
   | exact ih2 _ _ _ _ _ _ _ _
   | exact ih3 _ _ _ _ _ _ _ _ _
   | exact ih4 _ _ _ _ _ _ _ _ _ _
   | exact davitlaw08_awake.mono _
   | exact davitref07_Has.mono _ _ _
   | exact dom_Edge.mono _ _ _ _ _
   | exact dom_Is.mono _ _ _ _ _ _
   | exact LeO.none _
   | refine LeO.ite ?_ ?_
   | refine LeO.bind ?_ (fun _ => ?_)
  ·intro y0 y1 y2 y3 y4 y5 y6 y7 y8
   unfold davitlaw08_DomEdges.j3
   repeat' first
   | (with_reducible exact ih0 _ _ _ _ _ _)
   | (with_reducible exact ih1 _ _ _ _ _ _ _)
   | (with_reducible exact ih2 _ _ _ _ _ _ _ _)
   | (with_reducible exact ih3 _ _ _ _ _ _ _ _ _)
   | (with_reducible exact ih4 _ _ _ _ _ _ _ _ _ _)
   | (with_reducible exact davitlaw08_awake.mono _)
   | (with_reducible exact davitref07_Has.mono _ _ _)
   | (with_reducible exact dom_Edge.mono _ _ _ _ _)
   | (with_reducible exact dom_Is.mono _ _ _ _ _ _)
   | (with_reducible exact LeO.refl _)
   | (with_reducible exact LeO.none _)
   | (with_reducible refine LeO.ite ?_ ?_)
   | (with_reducible refine LeO.bind ?_ (fun _ => ?_))
   | exact ih0 _ _ _ _ _ _
   | exact ih1 _ _ _ _ _ _ _
   | exact ih2 _ _ _ _ _ _ _ _
   | exact ih3 _ _ _ _ _ _ _ _ _
   | exact ih4 _ _ _ _ _ _ _ _ _ _
   | exact davitlaw08_awake.mono _
   | exact davitref07_Has.mono _ _ _
   | exact dom_Edge.mono _ _ _ _ _
   | exact dom_Is.mono _ _ _ _ _ _
   | exact LeO.none _
   | refine LeO.ite ?_ ?_
   | refine LeO.bind ?_ (fun _ => ?_)
  ·intro y0 y1 y2 y3 y4 y5 y6 y7 y8 y9
   unfold davitlaw08_DomEdges.l2
   repeat' first
   | (with_reducible exact ih0 _ _ _ _ _ _)
   | (with_reducible exact ih1 _ _ _ _ _ _ _)
   | (with_reducible exact ih2 _ _ _ _ _ _ _ _)
   | (with_reducible exact ih3 _ _ _ _ _ _ _ _ _)
   | (with_reducible exact ih4 _ _ _ _ _ _ _ _ _ _)
   | (with_reducible exact davitlaw08_awake.mono _)
   | (with_reducible exact davitref07_Has.mono _ _ _)
   | (with_reducible exact dom_Edge.mono _ _ _ _ _)
   | (with_reducible exact dom_Is.mono _ _ _ _ _ _)
   | (with_reducible exact LeO.refl _)
   | (with_reducible exact LeO.none _)
   | (with_reducible refine LeO.ite ?_ ?_)
   | (with_reducible refine LeO.bind ?_ (fun _ => ?_))
   | exact ih0 _ _ _ _ _ _
   | exact ih1 _ _ _ _ _ _ _
   | exact ih2 _ _ _ _ _ _ _ _
   | exact ih3 _ _ _ _ _ _ _ _ _
   | exact ih4 _ _ _ _ _ _ _ _ _ _
   | exact davitlaw08_awake.mono _
   | exact davitref07_Has.mono _ _ _
   | exact dom_Edge.mono _ _ _ _ _
   | exact dom_Is.mono _ _ _ _ _ _
   | exact LeO.none _
   | refine LeO.ite ?_ ?_
   | refine LeO.bind ?_ (fun _ => ?_)
theorem davitlaw08_DomEdges.mono : ∀ a0 a1 a2 k, LeO (davitlaw08_DomEdges.f k a0 a1 a2) (davitlaw08_DomEdges.f (k + 1) a0 a1 a2) := by
 intro a0 a1 a2 k
 obtain ⟨ih0, ih1, ih2, ih3, ih4⟩ := davitlaw08_DomEdges.mono_l k
 unfold davitlaw08_DomEdges.f
 repeat' first
   | (with_reducible exact ih0 _ _ _ _ _ _)
   | (with_reducible exact ih1 _ _ _ _ _ _ _)
   | (with_reducible exact ih2 _ _ _ _ _ _ _ _)
   | (with_reducible exact ih3 _ _ _ _ _ _ _ _ _)
   | (with_reducible exact ih4 _ _ _ _ _ _ _ _ _ _)
   | (with_reducible exact davitlaw08_awake.mono _)
   | (with_reducible exact davitref07_Has.mono _ _ _)
   | (with_reducible exact dom_Edge.mono _ _ _ _ _)
   | (with_reducible exact dom_Is.mono _ _ _ _ _ _)
   | (with_reducible exact LeO.refl _)
   | (with_reducible exact LeO.none _)
   | (with_reducible refine LeO.ite ?_ ?_)
   | (with_reducible refine LeO.bind ?_ (fun _ => ?_))
   | exact ih0 _ _ _ _ _ _
   | exact ih1 _ _ _ _ _ _ _
   | exact ih2 _ _ _ _ _ _ _ _
   | exact ih3 _ _ _ _ _ _ _ _ _
   | exact ih4 _ _ _ _ _ _ _ _ _ _
   | exact davitlaw08_awake.mono _
   | exact davitref07_Has.mono _ _ _
   | exact dom_Edge.mono _ _ _ _ _
   | exact dom_Is.mono _ _ _ _ _ _
   | exact LeO.none _
   | refine LeO.ite ?_ ?_
   | refine LeO.bind ?_ (fun _ => ?_)
def davitlaw08_DomEdges.T11 : Bool × List (List Nat × List Nat) := (true, [([], []), ([], []), ([0, 1], [0, 1]), ([2], [2]), ([3], [3]), ([], []), ([], []), ([5, 6], [5, 6]), ([7], [7]), ([8], [8]), ([9], [9]), ([10, 9], [9, 10]), ([9, 11], [9, 11]), ([4, 12], [4, 12])])
def davitlaw08_DomEdges.B11 : List Nat := [0, 0, 3, 7, 15, 0, 0, 96, 224, 480, 992, 2016, 4064, 8191]
theorem davitlaw08_DomEdges.tab11 : rtab .any (opsOf Try.f5 11) = davitlaw08_DomEdges.T11 := by kernel_rfl
theorem davitlaw08_DomEdges.bits11 : waitsOk davitlaw08_DomEdges.T11.2 davitlaw08_DomEdges.B11 = true := by kernel_rfl
def davitlaw08_DomEdges.T17 : Bool × List (List Nat × List Nat) := (true, [([], []), ([], []), ([0, 1], [0, 1]), ([2], [2]), ([3], [3]), ([4], [4]), ([5], [5]), ([5], [5]), ([6, 7, 5], [5, 6, 7]), ([5, 8], [5, 8]), ([9, 5], [9]), ([10], [10]), ([10], [10]), ([10], [10]), ([11, 12, 13, 10, 10], [10, 11, 12, 13]), ([10, 14], [10, 14]), ([15, 14], [15]), ([16], [16]), ([16], [16]), ([16], [16]), ([16], [16]), ([19, 20, 16], [16, 19, 20]), ([21, 16], [16, 21]), ([17, 18, 22, 16, 16], [16, 17, 18, 22]), ([23, 16], [16, 23]), ([16, 24], [16, 24])])
def davitlaw08_DomEdges.B17 : List Nat := [0, 0, 3, 7, 15, 31, 63, 63, 255, 511, 1023, 2047, 2047, 2047, 16383, 32767, 65535, 131071, 131071, 131071, 131071, 1703935, 3801087, 8388607, 16777215, 33554431]
theorem davitlaw08_DomEdges.tab17 : rtab .any (opsOf Try.f5 17) = davitlaw08_DomEdges.T17 := by kernel_rfl
theorem davitlaw08_DomEdges.bits17 : waitsOk davitlaw08_DomEdges.T17.2 davitlaw08_DomEdges.B17 = true := by kernel_rfl
def davitlaw08_DomEdges.T23 : Bool × List (List Nat × List Nat) := (true, [([], []), ([], []), ([], []), ([0, 1, 2], [0, 1, 2]), ([3, 3], [3]), ([4], [4]), ([4], [4]), ([5, 6, 4], [4, 5, 6]), ([7, 4], [4, 7]), ([4], [4]), ([8, 9, 4], [4, 8, 9]), ([10, 4, 4], [4, 10]), ([11], [11]), ([11], [11]), ([11], [11]), ([11], [11]), ([14, 15, 11], [11, 14, 15]), ([16, 11], [11, 16]), ([12, 13, 17, 11, 11], [11, 12, 13, 17]), ([18, 11], [11, 18]), ([11, 19, 4], [4, 11, 19]), ([4, 20], [4, 20]), ([21, 18], [21]), ([22], [22]), ([22], [22]), ([22], [22]), ([24, 25, 22], [22, 24, 25]), ([26, 22], [22, 26]), ([23, 27, 22, 22], [22, 23, 27]), ([28, 22], [22, 28]), ([22, 29], [22, 29])])
def davitlaw08_DomEdges.B23 : List Nat := [0, 0, 0, 7, 15, 31, 31, 127, 255, 31, 1023, 2047, 4095, 4095, 4095, 4095, 53247, 118783, 262143, 524287, 1048575, 2097151, 4194303, 8388607, 8388607, 8388607, 58720255, 125829119, 268435455, 536870911, 1073741823]
theorem davitlaw08_DomEdges.tab23 : rtab .any (opsOf Try.f5 23) = davitlaw08_DomEdges.T23 := by kernel_rfl
theorem davitlaw08_DomEdges.bits23 : waitsOk davitlaw08_DomEdges.T23.2 davitlaw08_DomEdges.B23 = true := by kernel_rfl
def davitlaw08_DomEdges.T25 : Bool × List (List Nat × List Nat) := (true, [([], []), ([], []), ([0, 1], [0, 1]), ([2], [2]), ([3], [3]), ([4], [4]), ([5], [5]), ([5], [5]), ([5], [5]), ([7, 8, 5], [5, 7, 8]), ([9, 5], [5, 9]), ([5], [5]), ([6, 10, 11, 5, 5], [5, 6, 10, 11]), ([12, 5], [5, 12]), ([5, 13], [5, 13])])
def davitlaw08_DomEdges.B25 : List Nat := [0, 0, 3, 7, 15, 31, 63, 63, 63, 447, 959, 63, 4095, 8191, 16383]
theorem davitlaw08_DomEdges.tab25 : rtab .any (opsOf Try.f5 25) = davitlaw08_DomEdges.T25 := by kernel_rfl
theorem davitlaw08_DomEdges.bits25 : waitsOk davitlaw08_DomEdges.T25.2 davitlaw08_DomEdges.B25 = true := by kernel_rfl
def bA (n m : Nat) : Array Bool := ((List.range n).map fun i => m.testBit i).toArray
theorem sA {α : Type} (l : List α) (i : Nat) (a : α) : l.toArray.setIfInBounds i a = (l.set i a).toArray := by simp only [List.setIfInBounds_toArray]
theorem sB {α : Type} (x : α) (xs : List α) (a : α) : (x :: xs).set 0 a = a :: xs := List.set_cons_zero
theorem sC {α : Type} (x : α) (xs : List α) (n : Nat) (a : α) : (x :: xs).set (n + 1) a = x :: xs.set n a := List.set_cons_succ
set_option maxHeartbeats 8000000 in
set_option maxRecDepth 100000 in
theorem davitlaw08_DomEdges.calls (k : Nat) (a0_0 : Int) (a0_1 : Int) (A0_2 : Option Addr) (c0_2 : Nat) (l0_2 : List (S50)) (r : Bool) (w : World) (hr0_2 : Kd.C k50 w A0_2 l0_2.length l0_2) (hc0_2 : l0_2.length ≤ c0_2) (h : davitlaw08_DomEdges.f k a0_0 a0_1 l0_2 = some r) :
  Calls Try.prog 5 #[.agg #[.int .i64 a0_0, .int .i64 a0_1, .slice A0_2 l0_2.length c0_2]] w fun e w' => e = .returned (.bool r) ∧ Below w.heap.size w w' := by
 have hu24 := Try.underlying24
 have HR0_2 := Aside0.mk hr0_2
 have HC0_2 := Aside0.mk hc0_2
 clear hr0_2 hc0_2
 have HB := Aside0.mk (Below.refl w.heap.size w)
 have H : ((davitlaw08_awake.f k).bind fun t286 => (if t286 = true then (if (l0_2.length : Int) > 30 then (some true) else ((dom_Over.f a0_0 a0_1 l0_2).bind fun t287 => ((flow_Reached.f a0_0 a0_1 l0_2).bind fun t290 => (if (t287.length : Int) = (l0_2.length : Int) then (davitlaw08_DomEdges.l0 k t287 t290 0 a0_0 a0_1 l0_2) else (some false))))) else (some false))) = some r := h
 clear h
 replace H := Option.bind_eq_some_iff.mp H
 obtain ⟨t286, A20, H⟩ := H
 replace H : (if t286 = true then (if (l0_2.length : Int) > 30 then (some true) else ((dom_Over.f a0_0 a0_1 l0_2).bind fun t287 => ((flow_Reached.f a0_0 a0_1 l0_2).bind fun t290 => (if (t287.length : Int) = (l0_2.length : Int) then (davitlaw08_DomEdges.l0 k t287 t290 0 a0_0 a0_1 l0_2) else (some false))))) else (some false)) = some r := H
 have A2 := Aside0.mk A20
 clear A20
 by_cases c3 : t286 = true
 rotate_left
 ·replace c3 := Bool.eq_false_iff.mpr c3
  subst c3
  have H1 : (some false) = some r := by rw [if_neg (show ¬ (false = true) by decide)] at H; exact H
  clear H
  have H := H1
  clear H1
  obtain rfl := Option.some.inj H
  go_enter Try.func5, Try.ntmps5
  go_wp2_with (first | ((with_reducible refine gate_dst (N := 1) rfl ?_); refine box_event ?hg (N := 1) ?hd (cs := #[.int .i64 a0_0, .int .i64 a0_1, .slice A0_2 l0_2.length c0_2]) (t := 24) ?hr ?_; (case hd => rfl); (case hg => rfl); (case hr => first | (go_simp; done) | (go_simp; rfl)); intro gb285 hg w115 hbox hb; have n0_ := Aside0.mk (below_step (by repeat (first | (with_reducible first | exact HB.out | apply below_alloc | apply pw_below_drewN | apply below_drew1) | exact HB.out)) hb); have n1_ := Aside0.mk (hbox); have n2_ := Aside0.mk ((by rw [hg]; exact (below_size (by repeat (first | (with_reducible first | exact HB.out | apply below_alloc | apply pw_below_drewN | apply below_drew1) | exact HB.out))) : w.heap.size ≤ gb285)); have n3_ := Aside0.mk ((by rw [hg]; exact (below_size (by repeat (first | (with_reducible first | exact HB.out | apply below_alloc | apply pw_below_drewN | apply below_drew1) | exact HB.out))) : w.heap.size ≤ gb285)); clear HB; have HB := n0_; have BK285 := n1_; have GW285 := n2_; have GE285 := n3_; clear n0_ n1_ n2_ n3_; clear hb hbox hg) | ((with_reducible refine gate_callee (f := 11) rfl ?_); refine goesL_ (some 10) rfl rfl Try.func11 (by kernel_rfl) rfl #[] rfl (by (try simp only [List.map_toArray, List.map_cons, List.map_nil]); first | done | rfl | (simp only [List.length_drop, List.length_take]; rfl)) ?_; (with_reducible refine (davitlaw08_awake.calls k  false _ A2.out).mono ?_); rintro e w116 ⟨rfl, hb⟩; refine ⟨_, rfl, ?_⟩; have n0_ := Aside0.mk (blk_below (g := gb285) (o := .cells #[.int .i64 a0_0, .int .i64 a0_1, .slice A0_2 l0_2.length c0_2] 24 (0, 0)) (by (with_reducible repeat (first | refine blk_drewN ?_ _ | refine blk_drew ?_ | refine blk_alloc ?_ _)); exact BK285.out) hb); have n1_ := Aside0.mk (below_step (by repeat (first | (with_reducible first | exact HB.out | apply below_alloc | apply pw_below_drewN | apply below_drew1 | refine below_set ?_ GE285.out) | exact HB.out)) hb); clear BK285; clear HB; have BK285 := n0_; have HB := n1_; clear n0_ n1_; (try clear hb); (try clear hb2); (try clear hk); (try clear hi)))
  go_ret
  exact ⟨by first | rfl | (simp [errW_none, errW_some] <;> rfl) | (simp [*, errW_none, errW_some] <;> rfl), by repeat (first | (with_reducible first | exact HB.out | apply below_alloc | apply pw_below_drewN | apply below_drew1 | refine below_set ?_ GE285.out) | exact HB.out)⟩
 subst c3
 have H1 : (if (l0_2.length : Int) > 30 then (some true) else ((dom_Over.f a0_0 a0_1 l0_2).bind fun t287 => ((flow_Reached.f a0_0 a0_1 l0_2).bind fun t290 => (if (t287.length : Int) = (l0_2.length : Int) then (davitlaw08_DomEdges.l0 k t287 t290 0 a0_0 a0_1 l0_2) else (some false))))) = some r := by rw [if_pos rfl] at H; exact H
 clear H
 have H := H1
 clear H1
 by_cases c4 : (l0_2.length : Int) > 30
 ·rw [if_pos c4] at H
  have c4b0 : decide (30 < (l0_2.length : Int)) = true := decide_eq_true c4
  have c4b1 : decide (30 < l0_2.length) = true := decide_eq_true (by omega)
  clear c4
  obtain rfl := Option.some.inj H
  go_enter Try.func5, Try.ntmps5
  go_wp2_with (first | ((with_reducible refine gate_dst (N := 1) rfl ?_); refine box_event ?hg (N := 1) ?hd (cs := #[.int .i64 a0_0, .int .i64 a0_1, .slice A0_2 l0_2.length c0_2]) (t := 24) ?hr ?_; (case hd => rfl); (case hg => rfl); (case hr => first | (go_simp; done) | (go_simp; rfl)); intro gb285 hg w5 hbox hb; have n0_ := Aside0.mk (below_step (by repeat (first | (with_reducible first | exact HB.out | apply below_alloc | apply pw_below_drewN | apply below_drew1) | exact HB.out)) hb); have n1_ := Aside0.mk (hbox); have n2_ := Aside0.mk ((by rw [hg]; exact (below_size (by repeat (first | (with_reducible first | exact HB.out | apply below_alloc | apply pw_below_drewN | apply below_drew1) | exact HB.out))) : w.heap.size ≤ gb285)); have n3_ := Aside0.mk ((by rw [hg]; exact (below_size (by repeat (first | (with_reducible first | exact HB.out | apply below_alloc | apply pw_below_drewN | apply below_drew1) | exact HB.out))) : w.heap.size ≤ gb285)); clear HB; have HB := n0_; have BK285 := n1_; have GW285 := n2_; have GE285 := n3_; clear n0_ n1_ n2_ n3_; clear hb hbox hg) | ((with_reducible refine gate_callee (f := 11) rfl ?_); refine goesL_ (some 10) rfl rfl Try.func11 (by kernel_rfl) rfl #[] rfl (by (try simp only [List.map_toArray, List.map_cons, List.map_nil]); first | done | rfl | (simp only [List.length_drop, List.length_take]; rfl)) ?_; (with_reducible refine (davitlaw08_awake.calls k  true _ A2.out).mono ?_); rintro e w6 ⟨rfl, hb⟩; refine ⟨_, rfl, ?_⟩; have n0_ := Aside0.mk (blk_below (g := gb285) (o := .cells #[.int .i64 a0_0, .int .i64 a0_1, .slice A0_2 l0_2.length c0_2] 24 (0, 0)) (by (with_reducible repeat (first | refine blk_drewN ?_ _ | refine blk_drew ?_ | refine blk_alloc ?_ _)); exact BK285.out) hb); have n1_ := Aside0.mk (below_step (by repeat (first | (with_reducible first | exact HB.out | apply below_alloc | apply pw_below_drewN | apply below_drew1 | refine below_set ?_ GE285.out) | exact HB.out)) hb); clear BK285; clear HB; have BK285 := n0_; have HB := n1_; clear n0_ n1_; (try clear hb); (try clear hb2); (try clear hk); (try clear hi); have hcz7_0 : w6.cell? ⟨gb285, 0, none⟩ = some (.int .i64 a0_0) := (blk_cell BK285.out 0).trans rfl; have hcz7_1 : w6.cell? ⟨gb285, 1, none⟩ = some (.int .i64 a0_1) := (blk_cell BK285.out 1).trans rfl; have hcz7_2 : w6.cell? ⟨gb285, 2, none⟩ = some (.slice A0_2 l0_2.length c0_2) := (blk_cell BK285.out 2).trans rfl; have hfz7_0 := blk_frozen BK285.out 0; have hfz7_1 := blk_frozen BK285.out 1; have hfz7_2 := blk_frozen BK285.out 2))
  go_ret
  exact ⟨by first | rfl | (simp [errW_none, errW_some] <;> rfl) | (simp [*, errW_none, errW_some] <;> rfl), by repeat (first | (with_reducible first | exact HB.out | apply below_alloc | apply pw_below_drewN | apply below_drew1 | refine below_set ?_ GE285.out) | exact HB.out)⟩
 rw [if_neg c4] at H
 have c4b0 : decide (30 < (l0_2.length : Int)) = false := decide_eq_false c4
 have c4b1 : decide (30 < l0_2.length) = false := decide_eq_false (by omega)
 clear c4
 replace H := Option.bind_eq_some_iff.mp H
 obtain ⟨t287, A80, H⟩ := H
 replace H : ((flow_Reached.f a0_0 a0_1 l0_2).bind fun t290 => (if (t287.length : Int) = (l0_2.length : Int) then (davitlaw08_DomEdges.l0 k t287 t290 0 a0_0 a0_1 l0_2) else (some false))) = some r := H
 have A8 := Aside0.mk A80
 clear A80
 replace H := Option.bind_eq_some_iff.mp H
 obtain ⟨t290, A90, H⟩ := H
 replace H : (if (t287.length : Int) = (l0_2.length : Int) then (davitlaw08_DomEdges.l0 k t287 t290 0 a0_0 a0_1 l0_2) else (some false)) = some r := H
 have A9 := Aside0.mk A90
 clear A90
 by_cases c10 : (t287.length : Int) = (l0_2.length : Int)
 rotate_left
 ·rw [if_neg c10] at H
  have c10b0 : ((t287.length : Int) == (l0_2.length : Int)) = false := beq_eq_false_iff_ne.mpr c10
  have c10b1 : ((t287.length : Int) != (l0_2.length : Int)) = true := bne_iff_ne.mpr c10
  have c10b2 : (t287.length == l0_2.length) = false := by first | simpa using c10 | (simp at c10 ⊢; omega)
  obtain rfl := Option.some.inj H
  go_enter Try.func5, Try.ntmps5
  try go_wp2_with (first | ((with_reducible refine gate_dst (N := 1) rfl ?_); refine box_event ?hg (N := 1) ?hd (cs := #[.int .i64 a0_0, .int .i64 a0_1, .slice A0_2 l0_2.length c0_2]) (t := 24) ?hr ?_; (case hd => rfl); (case hg => rfl); (case hr => first | (go_simp; done) | (go_simp; rfl)); intro gb285 hg w107 hbox hb; have n0_ := Aside0.mk (below_step (by repeat (first | (with_reducible first | exact HB.out | apply below_alloc | apply pw_below_drewN | apply below_drew1) | exact HB.out)) hb); have n1_ := Aside0.mk (hbox); have n2_ := Aside0.mk ((by rw [hg]; exact (below_size (by repeat (first | (with_reducible first | exact HB.out | apply below_alloc | apply pw_below_drewN | apply below_drew1) | exact HB.out))) : w.heap.size ≤ gb285)); have n3_ := Aside0.mk ((by rw [hg]; exact (below_size (by repeat (first | (with_reducible first | exact HB.out | apply below_alloc | apply pw_below_drewN | apply below_drew1) | exact HB.out))) : w.heap.size ≤ gb285)); clear HB; have HB := n0_; have BK285 := n1_; have GW285 := n2_; have GE285 := n3_; clear n0_ n1_ n2_ n3_; clear hb hbox hg) | ((with_reducible refine gate_callee (f := 11) rfl ?_); refine goesL_ (some 10) rfl rfl Try.func11 (by kernel_rfl) rfl #[] rfl (by (try simp only [List.map_toArray, List.map_cons, List.map_nil]); first | done | rfl | (simp only [List.length_drop, List.length_take]; rfl)) ?_; (with_reducible refine (davitlaw08_awake.calls k  true _ A2.out).mono ?_); rintro e w108 ⟨rfl, hb⟩; refine ⟨_, rfl, ?_⟩; have n0_ := Aside0.mk (blk_below (g := gb285) (o := .cells #[.int .i64 a0_0, .int .i64 a0_1, .slice A0_2 l0_2.length c0_2] 24 (0, 0)) (by (with_reducible repeat (first | refine blk_drewN ?_ _ | refine blk_drew ?_ | refine blk_alloc ?_ _)); exact BK285.out) hb); have n1_ := Aside0.mk (below_step (by repeat (first | (with_reducible first | exact HB.out | apply below_alloc | apply pw_below_drewN | apply below_drew1 | refine below_set ?_ GE285.out) | exact HB.out)) hb); clear BK285; clear HB; have BK285 := n0_; have HB := n1_; clear n0_ n1_; (try clear hb); (try clear hb2); (try clear hk); (try clear hi); have hcz109_0 : w108.cell? ⟨gb285, 0, none⟩ = some (.int .i64 a0_0) := (blk_cell BK285.out 0).trans rfl; have hcz109_1 : w108.cell? ⟨gb285, 1, none⟩ = some (.int .i64 a0_1) := (blk_cell BK285.out 1).trans rfl; have hcz109_2 : w108.cell? ⟨gb285, 2, none⟩ = some (.slice A0_2 l0_2.length c0_2) := (blk_cell BK285.out 2).trans rfl; have hfz109_0 := blk_frozen BK285.out 0; have hfz109_1 := blk_frozen BK285.out 1; have hfz109_2 := blk_frozen BK285.out 2))
  have n0_ := Aside0.mk (blk_drew BK285.out)
  have n1_ := Aside0.mk (below_drew1 HB.out)
  clear BK285
  clear HB
  have BK285 := n0_
  have HB := n1_
  clear n0_ n1_
  refine start_ (n := 6) (S := fun w' => w'.cell? ⟨gb285, 0, none⟩ = some (.int .i64 a0_0) ∧ w'.cell? ⟨gb285, 1, none⟩ = some (.int .i64 a0_1) ∧ w'.cell? ⟨gb285, 2, none⟩ = some (.slice A0_2 l0_2.length c0_2)) (ds := []) #[false, false, false, false, false, false] (by kernel_rfl) rfl rfl ⟨(blk_cell BK285.out 0).trans rfl, (blk_cell BK285.out 1).trans rfl, (blk_cell BK285.out 2).trans rfl⟩ (fun hHeld => ?_)
  generalize w108.drew = w110 at BK285 HB hHeld ⊢
  refine take_ (i := 0) (N := some 16) (v := ?_) (a' := ?_) #[true, false, false, false, false, false] rfl rfl (by kernel_rfl) (fun _ _ _ h => h) (Or.inl ⟨by rfl, ?_⟩) hHeld ?_ ?_; rotate_left; (focus rintro w' ⟨s0, s1, s2⟩; go_simp; with_reducible rfl); rotate_left; (focus simp only [Act.put, sA, sB, sC, i64_w, i32_w]; rfl)
  refine take_ (i := 2) (N := some 18) (v := ?_) (a' := ?_) #[true, false, true, false, false, false] rfl rfl (by kernel_rfl) (fun _ _ _ h => h) (Or.inl ⟨by rfl, ?_⟩) hHeld ?_ ?_; rotate_left; (focus rintro w' ⟨s0, s1, s2⟩; go_simp; with_reducible rfl); rotate_left; (focus simp only [Act.put, sA, sB, sC, i64_w, i32_w]; rfl)
  refine one_ (i := 1) (N := some 17) #[true, true, true, false, false, false] rfl rfl (by kernel_rfl) (by decide) (fun K hK => ?_)
  refine goes_ Try.func13 (by kernel_rfl) rfl #[.agg #[.int .i64 a0_0, .int .i64 a0_1, .slice A0_2 l0_2.length c0_2]] (by rfl) rfl rfl (by (try simp only [List.map_toArray, List.map_cons, List.map_nil]); first | done | rfl | (simp only [List.length_drop, List.length_take]; rfl)) ?_
  with_reducible refine (dom_Over.calls a0_0 a0_1 _ _ l0_2 t287 _ ?side1 ?side2 A8.out).mono ?_
  (case side1 => repeat (first | exact (Kd.C_below HR0_2.out HB.out) | (with_reducible refine Kd.C_alloc ?_ _) | (with_reducible refine Kd.C_drewN ?_ _) | (with_reducible refine Kd.C_drew ?_)))
  (case side2 => exact HC0_2.out)
  rintro e w111 ⟨v288, rfl, ho0, hb⟩
  refine ⟨_, rfl, ?_⟩
  have n0_ := Aside0.mk (Kd.R_lower ho0 (below_size (by repeat (first | (with_reducible first | exact HB.out | apply below_alloc | apply pw_below_drewN | apply below_drew1 | refine below_set ?_ GE285.out) | exact HB.out))))
  have n1_ := Aside0.mk (blk_below (g := gb285) (o := .cells #[.int .i64 a0_0, .int .i64 a0_1, .slice A0_2 l0_2.length c0_2] 24 (0, 0)) (by (with_reducible repeat (first | refine blk_drewN ?_ _ | refine blk_drew ?_ | refine blk_alloc ?_ _)); exact BK285.out) hb)
  have n2_ := Aside0.mk (below_step (by repeat (first | (with_reducible first | exact HB.out | apply below_alloc | apply pw_below_drewN | apply below_drew1 | refine below_set ?_ GE285.out) | exact HB.out)) hb)
  clear BK285
  clear HB
  have HO289 := n0_
  have BK285 := n1_
  have HB := n2_
  clear n0_ n1_ n2_
  (try clear hb)
  (try clear hb2)
  (try clear hk)
  (try clear hi)
  (try clear ho0)
  refine hK.out _ _ ⟨(blk_cell BK285.out 0).trans rfl, (blk_cell BK285.out 1).trans rfl, (blk_cell BK285.out 2).trans rfl⟩ (fun hHeld => ?_)
  clear hK K
  refine norm_ (a' := ?_) ?_ ?_; rotate_left; (focus show Act.put _ (some 17) _ = _; simp only [Act.put, sA, sB, sC, i64_w, i32_w]; rfl)
  refine one_ (i := 3) (N := some 19) #[true, true, true, true, false, false] rfl rfl (by kernel_rfl) (by decide) (fun K hK => ?_)
  refine goes_ Try.func19 (by kernel_rfl) rfl #[.agg #[.int .i64 a0_0, .int .i64 a0_1, .slice A0_2 l0_2.length c0_2]] (by rfl) rfl rfl (by (try simp only [List.map_toArray, List.map_cons, List.map_nil]); first | done | rfl | (simp only [List.length_drop, List.length_take]; rfl)) ?_
  with_reducible refine (flow_Reached.calls a0_0 a0_1 _ _ l0_2 t290 _ ?side1 ?side2 A9.out).mono ?_
  (case side1 => repeat (first | exact (Kd.C_below HR0_2.out HB.out) | (with_reducible refine Kd.C_alloc ?_ _) | (with_reducible refine Kd.C_drewN ?_ _) | (with_reducible refine Kd.C_drew ?_)))
  (case side2 => exact HC0_2.out)
  rintro e w112 ⟨v291, rfl, ho0, hb⟩
  refine ⟨_, rfl, ?_⟩
  have n0_ := Aside0.mk (Kd.R_below (by (with_reducible repeat (first | apply Kd.R_alloc | apply Kd.R_drewN | apply Kd.R_drew)); exact HO289.out) hb)
  have n1_ := Aside0.mk (Kd.R_lower ho0 (below_size (by repeat (first | (with_reducible first | exact HB.out | apply below_alloc | apply pw_below_drewN | apply below_drew1 | refine below_set ?_ GE285.out) | exact HB.out))))
  have n2_ := Aside0.mk (blk_below (g := gb285) (o := .cells #[.int .i64 a0_0, .int .i64 a0_1, .slice A0_2 l0_2.length c0_2] 24 (0, 0)) (by (with_reducible repeat (first | refine blk_drewN ?_ _ | refine blk_drew ?_ | refine blk_alloc ?_ _)); exact BK285.out) hb)
  have n3_ := Aside0.mk (below_step (by repeat (first | (with_reducible first | exact HB.out | apply below_alloc | apply pw_below_drewN | apply below_drew1 | refine below_set ?_ GE285.out) | exact HB.out)) hb)
  clear HO289
  clear BK285
  clear HB
  have HO289 := n0_
  have HO292 := n1_
  have BK285 := n2_
  have HB := n3_
  clear n0_ n1_ n2_ n3_
  (try clear hb)
  (try clear hb2)
  (try clear hk)
  (try clear hi)
  (try clear ho0)
  refine hK.out _ _ ⟨(blk_cell BK285.out 0).trans rfl, (blk_cell BK285.out 1).trans rfl, (blk_cell BK285.out 2).trans rfl⟩ (fun hHeld => ?_)
  clear hK K
  refine norm_ (a' := ?_) ?_ ?_; rotate_left; (focus show Act.put _ (some 19) _ = _; simp only [Act.put, sA, sB, sC, i64_w, i32_w]; rfl)
  refine pure_ (i := 4) (N := some 3) (v := ?_) (a' := ?_) #[true, true, true, true, true, false] rfl rfl (by kernel_rfl) (fun _ _ _ h => h) (Or.inl ⟨by rfl, ?_⟩) ?_ ?_; rotate_left; (focus intro w'; go_simp; with_reducible rfl); rotate_left; (focus simp only [Act.put, sA, sB, sC, i64_w, i32_w]; rfl)
  refine pure_ (i := 5) (N := some 4) (v := ?_) (a' := ?_) #[true, true, true, true, true, true] rfl rfl (by kernel_rfl) (fun _ _ _ h => h) (Or.inl ⟨by rfl, ?_⟩) ?_ ?_; rotate_left; (focus intro w'; go_simp; with_reducible rfl); rotate_left; (focus simp only [Act.put, sA, sB, sC, i64_w, i32_w]; rfl)
  refine done_ (by kernel_rfl) ?_
  obtain ⟨Ao113, co113, eo113⟩ := Kd.R_slice HO289.out
  subst eo113
  have hcz114_0 : w112.cell? ⟨gb285, 0, none⟩ = some (.int .i64 a0_0) := (blk_cell BK285.out 0).trans rfl
  have hcz114_1 : w112.cell? ⟨gb285, 1, none⟩ = some (.int .i64 a0_1) := (blk_cell BK285.out 1).trans rfl
  have hcz114_2 : w112.cell? ⟨gb285, 2, none⟩ = some (.slice A0_2 l0_2.length c0_2) := (blk_cell BK285.out 2).trans rfl
  have hfz114_0 := blk_frozen BK285.out 0
  have hfz114_1 := blk_frozen BK285.out 1
  have hfz114_2 := blk_frozen BK285.out 2
  try go_wp2
  go_ret
  exact ⟨by first | rfl | (simp [errW_none, errW_some] <;> rfl) | (simp [*, errW_none, errW_some] <;> rfl), by repeat (first | (with_reducible first | exact HB.out | apply below_alloc | apply pw_below_drewN | apply below_drew1 | refine below_set ?_ GE285.out) | exact HB.out)⟩
 rw [if_pos c10] at H
 have c10b0 : ((t287.length : Int) == (l0_2.length : Int)) = true := beq_iff_eq.mpr c10
 have c10b1 : ((t287.length : Int) != (l0_2.length : Int)) = false := bne_eq_false_iff_eq.mpr c10
 have c10b2 : (t287.length == l0_2.length) = true := by first | simpa using c10 | (simp at c10 ⊢; omega)
 clear c10
 have H' := Aside0.mk H
 clear H
 go_enter Try.func5, Try.ntmps5
 try go_wp2_with (first | ((with_reducible refine gate_dst (N := 1) rfl ?_); refine box_event ?hg (N := 1) ?hd (cs := #[.int .i64 a0_0, .int .i64 a0_1, .slice A0_2 l0_2.length c0_2]) (t := 24) ?hr ?_; (case hd => rfl); (case hg => rfl); (case hr => first | (go_simp; done) | (go_simp; rfl)); intro gb285 hg w11 hbox hb; have n0_ := Aside0.mk (below_step (by repeat (first | (with_reducible first | exact HB.out | apply below_alloc | apply pw_below_drewN | apply below_drew1) | exact HB.out)) hb); have n1_ := Aside0.mk (hbox); have n2_ := Aside0.mk ((by rw [hg]; exact (below_size (by repeat (first | (with_reducible first | exact HB.out | apply below_alloc | apply pw_below_drewN | apply below_drew1) | exact HB.out))) : w.heap.size ≤ gb285)); have n3_ := Aside0.mk ((by rw [hg]; exact (below_size (by repeat (first | (with_reducible first | exact HB.out | apply below_alloc | apply pw_below_drewN | apply below_drew1) | exact HB.out))) : w.heap.size ≤ gb285)); clear HB; have HB := n0_; have BK285 := n1_; have GW285 := n2_; have GE285 := n3_; clear n0_ n1_ n2_ n3_; clear hb hbox hg) | ((with_reducible refine gate_callee (f := 11) rfl ?_); refine goesL_ (some 10) rfl rfl Try.func11 (by kernel_rfl) rfl #[] rfl (by (try simp only [List.map_toArray, List.map_cons, List.map_nil]); first | done | rfl | (simp only [List.length_drop, List.length_take]; rfl)) ?_; (with_reducible refine (davitlaw08_awake.calls k  true _ A2.out).mono ?_); rintro e w12 ⟨rfl, hb⟩; refine ⟨_, rfl, ?_⟩; have n0_ := Aside0.mk (blk_below (g := gb285) (o := .cells #[.int .i64 a0_0, .int .i64 a0_1, .slice A0_2 l0_2.length c0_2] 24 (0, 0)) (by (with_reducible repeat (first | refine blk_drewN ?_ _ | refine blk_drew ?_ | refine blk_alloc ?_ _)); exact BK285.out) hb); have n1_ := Aside0.mk (below_step (by repeat (first | (with_reducible first | exact HB.out | apply below_alloc | apply pw_below_drewN | apply below_drew1 | refine below_set ?_ GE285.out) | exact HB.out)) hb); clear BK285; clear HB; have BK285 := n0_; have HB := n1_; clear n0_ n1_; (try clear hb); (try clear hb2); (try clear hk); (try clear hi); have hcz13_0 : w12.cell? ⟨gb285, 0, none⟩ = some (.int .i64 a0_0) := (blk_cell BK285.out 0).trans rfl; have hcz13_1 : w12.cell? ⟨gb285, 1, none⟩ = some (.int .i64 a0_1) := (blk_cell BK285.out 1).trans rfl; have hcz13_2 : w12.cell? ⟨gb285, 2, none⟩ = some (.slice A0_2 l0_2.length c0_2) := (blk_cell BK285.out 2).trans rfl; have hfz13_0 := blk_frozen BK285.out 0; have hfz13_1 := blk_frozen BK285.out 1; have hfz13_2 := blk_frozen BK285.out 2))
 have n0_ := Aside0.mk (blk_drew BK285.out)
 have n1_ := Aside0.mk (below_drew1 HB.out)
 clear BK285
 clear HB
 have BK285 := n0_
 have HB := n1_
 clear n0_ n1_
 refine start_ (n := 6) (S := fun w' => w'.cell? ⟨gb285, 0, none⟩ = some (.int .i64 a0_0) ∧ w'.cell? ⟨gb285, 1, none⟩ = some (.int .i64 a0_1) ∧ w'.cell? ⟨gb285, 2, none⟩ = some (.slice A0_2 l0_2.length c0_2)) (ds := []) #[false, false, false, false, false, false] (by kernel_rfl) rfl rfl ⟨(blk_cell BK285.out 0).trans rfl, (blk_cell BK285.out 1).trans rfl, (blk_cell BK285.out 2).trans rfl⟩ (fun hHeld => ?_)
 generalize w12.drew = w14 at BK285 HB hHeld ⊢
 refine take_ (i := 0) (N := some 16) (v := ?_) (a' := ?_) #[true, false, false, false, false, false] rfl rfl (by kernel_rfl) (fun _ _ _ h => h) (Or.inl ⟨by rfl, ?_⟩) hHeld ?_ ?_; rotate_left; (focus rintro w' ⟨s0, s1, s2⟩; go_simp; with_reducible rfl); rotate_left; (focus simp only [Act.put, sA, sB, sC, i64_w, i32_w]; rfl)
 refine take_ (i := 2) (N := some 18) (v := ?_) (a' := ?_) #[true, false, true, false, false, false] rfl rfl (by kernel_rfl) (fun _ _ _ h => h) (Or.inl ⟨by rfl, ?_⟩) hHeld ?_ ?_; rotate_left; (focus rintro w' ⟨s0, s1, s2⟩; go_simp; with_reducible rfl); rotate_left; (focus simp only [Act.put, sA, sB, sC, i64_w, i32_w]; rfl)
 refine one_ (i := 1) (N := some 17) #[true, true, true, false, false, false] rfl rfl (by kernel_rfl) (by decide) (fun K hK => ?_)
 refine goes_ Try.func13 (by kernel_rfl) rfl #[.agg #[.int .i64 a0_0, .int .i64 a0_1, .slice A0_2 l0_2.length c0_2]] (by rfl) rfl rfl (by (try simp only [List.map_toArray, List.map_cons, List.map_nil]); first | done | rfl | (simp only [List.length_drop, List.length_take]; rfl)) ?_
 with_reducible refine (dom_Over.calls a0_0 a0_1 _ _ l0_2 t287 _ ?side1 ?side2 A8.out).mono ?_
 (case side1 => repeat (first | exact (Kd.C_below HR0_2.out HB.out) | (with_reducible refine Kd.C_alloc ?_ _) | (with_reducible refine Kd.C_drewN ?_ _) | (with_reducible refine Kd.C_drew ?_)))
 (case side2 => exact HC0_2.out)
 rintro e w15 ⟨v288, rfl, ho0, hb⟩
 refine ⟨_, rfl, ?_⟩
 have n0_ := Aside0.mk (Kd.R_lower ho0 (below_size (by repeat (first | (with_reducible first | exact HB.out | apply below_alloc | apply pw_below_drewN | apply below_drew1 | refine below_set ?_ GE285.out) | exact HB.out))))
 have n1_ := Aside0.mk (blk_below (g := gb285) (o := .cells #[.int .i64 a0_0, .int .i64 a0_1, .slice A0_2 l0_2.length c0_2] 24 (0, 0)) (by (with_reducible repeat (first | refine blk_drewN ?_ _ | refine blk_drew ?_ | refine blk_alloc ?_ _)); exact BK285.out) hb)
 have n2_ := Aside0.mk (below_step (by repeat (first | (with_reducible first | exact HB.out | apply below_alloc | apply pw_below_drewN | apply below_drew1 | refine below_set ?_ GE285.out) | exact HB.out)) hb)
 clear BK285
 clear HB
 have HO289 := n0_
 have BK285 := n1_
 have HB := n2_
 clear n0_ n1_ n2_
 (try clear hb)
 (try clear hb2)
 (try clear hk)
 (try clear hi)
 (try clear ho0)
 refine hK.out _ _ ⟨(blk_cell BK285.out 0).trans rfl, (blk_cell BK285.out 1).trans rfl, (blk_cell BK285.out 2).trans rfl⟩ (fun hHeld => ?_)
 clear hK K
 refine norm_ (a' := ?_) ?_ ?_; rotate_left; (focus show Act.put _ (some 17) _ = _; simp only [Act.put, sA, sB, sC, i64_w, i32_w]; rfl)
 refine one_ (i := 3) (N := some 19) #[true, true, true, true, false, false] rfl rfl (by kernel_rfl) (by decide) (fun K hK => ?_)
 refine goes_ Try.func19 (by kernel_rfl) rfl #[.agg #[.int .i64 a0_0, .int .i64 a0_1, .slice A0_2 l0_2.length c0_2]] (by rfl) rfl rfl (by (try simp only [List.map_toArray, List.map_cons, List.map_nil]); first | done | rfl | (simp only [List.length_drop, List.length_take]; rfl)) ?_
 with_reducible refine (flow_Reached.calls a0_0 a0_1 _ _ l0_2 t290 _ ?side1 ?side2 A9.out).mono ?_
 (case side1 => repeat (first | exact (Kd.C_below HR0_2.out HB.out) | (with_reducible refine Kd.C_alloc ?_ _) | (with_reducible refine Kd.C_drewN ?_ _) | (with_reducible refine Kd.C_drew ?_)))
 (case side2 => exact HC0_2.out)
 rintro e w16 ⟨v291, rfl, ho0, hb⟩
 refine ⟨_, rfl, ?_⟩
 have n0_ := Aside0.mk (Kd.R_below (by (with_reducible repeat (first | apply Kd.R_alloc | apply Kd.R_drewN | apply Kd.R_drew)); exact HO289.out) hb)
 have n1_ := Aside0.mk (Kd.R_lower ho0 (below_size (by repeat (first | (with_reducible first | exact HB.out | apply below_alloc | apply pw_below_drewN | apply below_drew1 | refine below_set ?_ GE285.out) | exact HB.out))))
 have n2_ := Aside0.mk (blk_below (g := gb285) (o := .cells #[.int .i64 a0_0, .int .i64 a0_1, .slice A0_2 l0_2.length c0_2] 24 (0, 0)) (by (with_reducible repeat (first | refine blk_drewN ?_ _ | refine blk_drew ?_ | refine blk_alloc ?_ _)); exact BK285.out) hb)
 have n3_ := Aside0.mk (below_step (by repeat (first | (with_reducible first | exact HB.out | apply below_alloc | apply pw_below_drewN | apply below_drew1 | refine below_set ?_ GE285.out) | exact HB.out)) hb)
 clear HO289
 clear BK285
 clear HB
 have HO289 := n0_
 have HO292 := n1_
 have BK285 := n2_
 have HB := n3_
 clear n0_ n1_ n2_ n3_
 (try clear hb)
 (try clear hb2)
 (try clear hk)
 (try clear hi)
 (try clear ho0)
 refine hK.out _ _ ⟨(blk_cell BK285.out 0).trans rfl, (blk_cell BK285.out 1).trans rfl, (blk_cell BK285.out 2).trans rfl⟩ (fun hHeld => ?_)
 clear hK K
 refine norm_ (a' := ?_) ?_ ?_; rotate_left; (focus show Act.put _ (some 19) _ = _; simp only [Act.put, sA, sB, sC, i64_w, i32_w]; rfl)
 refine pure_ (i := 4) (N := some 3) (v := ?_) (a' := ?_) #[true, true, true, true, true, false] rfl rfl (by kernel_rfl) (fun _ _ _ h => h) (Or.inl ⟨by rfl, ?_⟩) ?_ ?_; rotate_left; (focus intro w'; go_simp; with_reducible rfl); rotate_left; (focus simp only [Act.put, sA, sB, sC, i64_w, i32_w]; rfl)
 refine pure_ (i := 5) (N := some 4) (v := ?_) (a' := ?_) #[true, true, true, true, true, true] rfl rfl (by kernel_rfl) (fun _ _ _ h => h) (Or.inl ⟨by rfl, ?_⟩) ?_ ?_; rotate_left; (focus intro w'; go_simp; with_reducible rfl); rotate_left; (focus simp only [Act.put, sA, sB, sC, i64_w, i32_w]; rfl)
 refine done_ (by kernel_rfl) ?_
 obtain ⟨Ao17, co17, eo17⟩ := Kd.R_slice HO289.out
 subst eo17
 have hcz18_0 : w16.cell? ⟨gb285, 0, none⟩ = some (.int .i64 a0_0) := (blk_cell BK285.out 0).trans rfl
 have hcz18_1 : w16.cell? ⟨gb285, 1, none⟩ = some (.int .i64 a0_1) := (blk_cell BK285.out 1).trans rfl
 have hcz18_2 : w16.cell? ⟨gb285, 2, none⟩ = some (.slice A0_2 l0_2.length c0_2) := (blk_cell BK285.out 2).trans rfl
 have hfz18_0 := blk_frozen BK285.out 0
 have hfz18_1 := blk_frozen BK285.out 1
 have hfz18_2 := blk_frozen BK285.out 2
 try go_wp2
 go_loopg [5] k (fun kq v5 w' => ∃ (x5_1 : Int), v5 = .int .i64 x5_1 ∧ Aside0 (davitlaw08_DomEdges.l0 kq t287 t290 x5_1 a0_0 a0_1 l0_2 = some r) ∧ Aside0 (kq ≤ k) ∧ Aside0 (Kd.R (Kd.int .i64) 3 w' w.heap.size (fun _ => True) (.slice Ao17 t287.length co17) t287) ∧ Aside0 (Kd.R Kd.bool 4 w' w.heap.size (fun _ => True) v291 t290) ∧ Aside0 (w'.heap[gb285]? = some (.cells #[.int .i64 a0_0, .int .i64 a0_1, (.slice A0_2 l0_2.length c0_2)] 24 (0, 0))) ∧ Aside0 (Below w.heap.size w w'))
 case atStart => exact ⟨(0), (by first | rfl | (simp; done) | (simp [*]; done)), H', ⟨Nat.le_refl _⟩, ⟨by (with_reducible repeat (first | apply Kd.R_alloc | apply Kd.R_drewN | apply Kd.R_drew)); exact HO289.out⟩, ⟨by (with_reducible repeat (first | apply Kd.R_alloc | apply Kd.R_drewN | apply Kd.R_drew)); exact HO292.out⟩, ⟨by (with_reducible repeat (first | refine blk_drewN ?_ _ | refine blk_drew ?_ | refine blk_alloc ?_ _)); exact BK285.out⟩, ⟨by repeat (first | (with_reducible first | exact HB.out | apply below_alloc | apply pw_below_drewN | apply below_drew1 | refine below_set ?_ GE285.out) | exact HB.out)⟩⟩
 case round =>
  clear H'
  try clear c1
  try clear p2
  try clear c3
  try clear c4
  try clear c4b0
  try clear c4b1
  try clear c5
  try clear c10
  try clear c10b0
  try clear c10b1
  try clear c10b2
  try clear c11
  try clear c13
  try clear hcz13_0
  try clear hcz13_1
  try clear hcz13_2
  try clear hcz18_0
  try clear hcz18_1
  try clear hcz18_2
  try clear hcz7_0
  try clear hcz7_1
  try clear hcz7_2
  try clear hfz13_0
  try clear hfz13_1
  try clear hfz13_2
  try clear hfz18_0
  try clear hfz18_1
  try clear hfz18_2
  try clear hfz7_0
  try clear hfz7_1
  try clear hfz7_2
  obtain ⟨x5_1, rfl, HA, HK1, HO_3, HO_4, BK285, HB⟩ := hrel
  cases gk with
  | zero => exact absurd HA.out (by simp [davitlaw08_DomEdges.l0])
  | succ k1 =>
   have H := HA.out
   clear HA
   simp only [davitlaw08_DomEdges.l0] at H
   by_cases c19 : x5_1 < (l0_2.length : Int)
   ·rw [if_pos c19] at H
    have c19b0 : decide (x5_1 < (l0_2.length : Int)) = true := decide_eq_true c19
    clear c19
    have HC20 := Aside0.mk H
    clear H
    have hcz21_0 : wr.cell? ⟨gb285, 0, none⟩ = some (.int .i64 a0_0) := (blk_cell BK285.out 0).trans rfl
    have hcz21_1 : wr.cell? ⟨gb285, 1, none⟩ = some (.int .i64 a0_1) := (blk_cell BK285.out 1).trans rfl
    have hcz21_2 : wr.cell? ⟨gb285, 2, none⟩ = some (.slice A0_2 l0_2.length c0_2) := (blk_cell BK285.out 2).trans rfl
    have hfz21_0 := blk_frozen BK285.out 0
    have hfz21_1 := blk_frozen BK285.out 1
    have hfz21_2 := blk_frozen BK285.out 2
    go_upto_region 11 with (fail)
    go_cut [46] (fun v46 wc => ∃ (kq : Nat) (x46_19 : Bool), v46 = .bool x46_19 ∧ Aside0 (davitlaw08_DomEdges.j1 kq t287 t290 x5_1 x46_19 a0_0 a0_1 l0_2 = some r) ∧ Aside0 (kq ≤ k1) ∧ Aside0 (Kd.R (Kd.int .i64) 3 wc w.heap.size (fun _ => True) (.slice Ao17 t287.length co17) t287) ∧ Aside0 (Kd.R Kd.bool 4 wc w.heap.size (fun _ => True) v291 t290) ∧ Aside0 (wc.heap[gb285]? = some (.cells #[.int .i64 a0_0, .int .i64 a0_1, (.slice A0_2 l0_2.length c0_2)] 24 (0, 0))) ∧ Aside0 (Below w.heap.size w wc))
    case first =>
     have H := HC20.out
     clear HC20
     by_cases c22 : 0 ≤ x5_1
     ·rw [if_pos c22] at H
      have c22b0 : decide (0 ≤ x5_1) = true := decide_eq_true c22
      clear c22
      (first | rw [c22b0] | (simp only [i64_w, i32_w]; rw [c22b0]) | skip)
      by_cases c23 : x5_1 < (t287.length : Int)
      ·rw [if_pos c23] at H
       have c23b0 : decide (x5_1 < (t287.length : Int)) = true := decide_eq_true c23
       clear c23
       by_cases c24 : x5_1 < (t290.length : Int)
       ·rw [if_pos c24] at H
        have c24b0 : decide (x5_1 < (t290.length : Int)) = true := decide_eq_true c24
        clear c24
        obtain ⟨bq25, hbq25⟩ : ∃ b_ : Bool, b_ = (rdOf false t290 x5_1) := ⟨_, rfl⟩
        replace H : (if bq25 = true then (davitlaw08_DomEdges.j1 k1 t287 t290 x5_1 ((decide ((rd t287 x5_1) ≥ 0)) != (decide (x5_1 > 0))) a0_0 a0_1 l0_2) else (davitlaw08_DomEdges.j1 k1 t287 t290 x5_1 ((decide ((rd t287 x5_1) ≥ 0)) != false) a0_0 a0_1 l0_2)) = some r := by rw [← hbq25] at H; exact H
        have Nbq25 := Aside0.mk hbq25
        clear hbq25
        by_cases c26 : bq25 = true
        ·subst c26
         have H1 : (davitlaw08_DomEdges.j1 k1 t287 t290 x5_1 ((decide ((rd t287 x5_1) ≥ 0)) != (decide (x5_1 > 0))) a0_0 a0_1 l0_2) = some r := by rw [if_pos rfl] at H; exact H
         clear H
         have H := H1
         clear H1
         have H' := Aside0.mk H
         clear H
         try go_wp2
         have n0_ := Aside0.mk (Kd.R_drew HO_3.out)
         have n1_ := Aside0.mk (Kd.R_drew HO_4.out)
         have n2_ := Aside0.mk (blk_drew BK285.out)
         have n3_ := Aside0.mk (below_drew1 HB.out)
         clear HO_3
         clear HO_4
         clear BK285
         clear HB
         have HO_3 := n0_
         have HO_4 := n1_
         have BK285 := n2_
         have HB := n3_
         clear n0_ n1_ n2_ n3_
         have p293 : 0 ≤ (x5_1 : Int) := of_decide_eq_true (by first | (with_reducible assumption) | assumption)
         have q293 : x5_1 < (t287.length : Int) := of_decide_eq_true (by first | (with_reducible assumption) | assumption)
         obtain ⟨ad293, e293, hx293_0⟩ := Kd.at_int (Kd.R_reads' HO_3.out).2.2 x5_1 p293 q293
         cases e293
         replace p293 := eq_true p293
         replace q293 := eq_true q293
         obtain ⟨Ao28, co28, eo28⟩ := Kd.R_slice HO_4.out
         (first | subst eo28 | (injection eo28 with f1_ f2_ f3_; have f4_ := f1_.symm; have f5_ := f3_.symm; clear f1_ f2_ f3_; subst f4_; subst f5_))
         have p294 : 0 ≤ (x5_1 : Int) := of_decide_eq_true (by first | (with_reducible assumption) | assumption)
         have q294 : x5_1 < (t290.length : Int) := of_decide_eq_true (by first | (with_reducible assumption) | assumption)
         obtain ⟨ad294, e294, hx294_0⟩ := Kd.at_bool (Kd.R_reads' HO_4.out).2.2 x5_1 p294 q294
         (try rw [← Nbq25.out] at hx294_0)
         cases e294
         replace p294 := eq_true p294
         replace q294 := eq_true q294
         refine start_ (n := 14) (S := fun w' => w'.cell? (ad293.add (x5_1).toNat) = some (.int .i64 (rd t287 x5_1)) ∧ w'.cell? (ad294.add (x5_1).toNat) = some (.bool true)) (ds := []) (bA 14 0) (by kernel_rfl) rfl rfl ⟨hx293_0, hx294_0⟩ (fun hHeld => ?_); refine with_tabW davitlaw08_DomEdges.tab11 davitlaw08_DomEdges.bits11 (fun HT_ HW_ => ?_)
         generalize wr.drew = w27 at HO_3 HO_4 BK285 HB hx293_0 hx294_0 hHeld ⊢
         refine pure_ (i := 0) (N := some 33) (v := ?_) (a' := ?_) (bA 14 1) rfl rfl (any_of HT_.out (by kernel_rfl)) (fun _ _ _ h => h) (Or.inl ⟨by rfl, ?_⟩) ?_ ?_; rotate_left; (focus intro w'; go_simp; with_reducible rfl); rotate_left; (focus simp only [Act.put, sA, sB, sC, i64_w, i32_w]; rfl)
         refine pure_ (i := 1) (N := some 34) (v := ?_) (a' := ?_) (bA 14 3) rfl rfl (any_of HT_.out (by kernel_rfl)) (fun _ _ _ h => h) (Or.inl ⟨by rfl, ?_⟩) ?_ ?_; rotate_left; (focus intro w'; go_simp; with_reducible rfl); rotate_left; (focus simp only [Act.put, sA, sB, sC, i64_w, i32_w]; rfl)
         refine pure_ (i := 2) (N := some 35) (v := ?_) (a' := ?_) (bA 14 7) rfl rfl (any_of HT_.out (by kernel_rfl)) (fun _ _ _ h => h) (Or.inl ⟨by rfl, ?_⟩) ?_ ?_; rotate_left; (focus intro w'; go_simp; with_reducible rfl); rotate_left; (focus simp only [Act.put, sA, sB, sC, i64_w, i32_w]; rfl)
         refine pure_ (i := 5) (N := some 38) (v := ?_) (a' := ?_) (bA 14 39) rfl rfl (any_of HT_.out (by kernel_rfl)) (fun _ _ _ h => h) (Or.inl ⟨by rfl, ?_⟩) ?_ ?_; rotate_left; (focus intro w'; go_simp; with_reducible rfl); rotate_left; (focus simp only [Act.put, sA, sB, sC, i64_w, i32_w]; rfl)
         refine pure_ (i := 6) (N := some 39) (v := ?_) (a' := ?_) (bA 14 103) rfl rfl (any_of HT_.out (by kernel_rfl)) (fun _ _ _ h => h) (Or.inl ⟨by rfl, ?_⟩) ?_ ?_; rotate_left; (focus intro w'; go_simp; with_reducible rfl); rotate_left; (focus simp only [Act.put, sA, sB, sC, i64_w, i32_w]; rfl)
         refine pure_ (i := 7) (N := some 40) (v := ?_) (a' := ?_) (bA 14 231) rfl rfl (any_of HT_.out (by kernel_rfl)) (fun _ _ _ h => h) (Or.inl ⟨by rfl, ?_⟩) ?_ ?_; rotate_left; (focus intro w'; go_simp; with_reducible rfl); rotate_left; (focus simp only [Act.put, sA, sB, sC, i64_w, i32_w]; rfl)
         refine take_ (i := 3) (N := some 36) (v := ?_) (a' := ?_) (bA 14 239) rfl rfl (take_ofW HT_.out HW_.out (by kernel_rfl)) (fun _ _ _ h => h) (Or.inl ⟨by rfl, ?_⟩) hHeld ?_ ?_; rotate_left; (focus rintro w' ⟨s0, s1⟩; go_simp; with_reducible rfl); rotate_left; (focus simp only [Act.put, sA, sB, sC, i64_w, i32_w]; rfl)
         refine pure_ (i := 4) (N := some 37) (v := ?_) (a' := ?_) (bA 14 255) rfl rfl (any_of HT_.out (by kernel_rfl)) (fun _ _ _ h => h) (Or.inl ⟨by rfl, ?_⟩) ?_ ?_; rotate_left; (focus intro w'; go_simp; with_reducible rfl); rotate_left; (focus simp only [Act.put, sA, sB, sC, i64_w, i32_w]; rfl)
         refine take_ (i := 8) (N := some 41) (v := ?_) (a' := ?_) (bA 14 511) rfl rfl (take_ofW HT_.out HW_.out (by kernel_rfl)) (fun _ _ _ h => h) (Or.inl ⟨by rfl, ?_⟩) hHeld ?_ ?_; rotate_left; (focus rintro w' ⟨s0, s1⟩; go_simp; with_reducible rfl); rotate_left; (focus simp only [Act.put, sA, sB, sC, i64_w, i32_w]; rfl)
         refine pure_ (i := 9) (N := some 42) (v := ?_) (a' := ?_) (bA 14 1023) rfl rfl (any_of HT_.out (by kernel_rfl)) (fun _ _ _ h => h) (Or.inl ⟨by rfl, ?_⟩) ?_ ?_; rotate_left; (focus intro w'; go_simp; with_reducible rfl); rotate_left; (focus simp only [Act.put, sA, sB, sC, i64_w, i32_w]; rfl)
         refine pure_ (i := 10) (N := some 43) (v := ?_) (a' := ?_) (bA 14 2047) rfl rfl (any_of HT_.out (by kernel_rfl)) (fun _ _ _ h => h) (Or.inl ⟨by rfl, ?_⟩) ?_ ?_; rotate_left; (focus intro w'; go_simp; with_reducible rfl); rotate_left; (focus simp only [Act.put, sA, sB, sC, i64_w, i32_w]; rfl)
         refine pure_ (i := 11) (N := some 44) (v := ?_) (a' := ?_) (bA 14 4095) rfl rfl (any_of HT_.out (by kernel_rfl)) (fun _ _ _ h => h) (Or.inl ⟨by rfl, ?_⟩) ?_ ?_; rotate_left; (focus intro w'; go_simp; with_reducible rfl); rotate_left; (focus simp only [Act.put, sA, sB, sC, i64_w, i32_w]; rfl)
         refine pure_ (i := 12) (N := some 45) (v := ?_) (a' := ?_) (bA 14 8191) rfl rfl (any_of HT_.out (by kernel_rfl)) (fun _ _ _ h => h) (Or.inl ⟨by rfl, ?_⟩) ?_ ?_; rotate_left; (focus intro w'; go_simp; with_reducible rfl); rotate_left; (focus simp only [Act.put, sA, sB, sC, i64_w, i32_w]; rfl)
         refine pure_ (i := 13) (N := some 46) (v := ?_) (a' := ?_) (bA 14 16383) rfl rfl (any_of HT_.out (by kernel_rfl)) (fun _ _ _ h => h) (Or.inl ⟨by rfl, ?_⟩) ?_ ?_; rotate_left; (focus intro w'; go_simp; with_reducible rfl); rotate_left; (focus simp only [Act.put, sA, sB, sC, i64_w, i32_w]; rfl)
         refine done_ (done_of HT_.out (by kernel_rfl)) ?_
         try go_wp2
         go_meet
         case rel => exact ⟨_, (((decide ((rd t287 x5_1) ≥ 0)) != (decide (x5_1 > 0)))), (by first | rfl | (simp; done) | (simp [*]; done)), H', ⟨by have := HK1.out; first | omega | exact Nat.le_refl _⟩, ⟨by (with_reducible repeat (first | apply Kd.R_alloc | apply Kd.R_drewN | apply Kd.R_drew)); exact HO_3.out⟩, ⟨by (with_reducible repeat (first | apply Kd.R_alloc | apply Kd.R_drewN | apply Kd.R_drew)); exact HO_4.out⟩, ⟨by (with_reducible repeat (first | refine blk_drewN ?_ _ | refine blk_drew ?_ | refine blk_alloc ?_ _)); exact BK285.out⟩, ⟨by repeat (first | (with_reducible first | exact HB.out | apply below_alloc | apply pw_below_drewN | apply below_drew1 | refine below_set ?_ GE285.out) | exact HB.out)⟩⟩
        ·replace c26 := Bool.eq_false_iff.mpr c26
         subst c26
         have H1 : (davitlaw08_DomEdges.j1 k1 t287 t290 x5_1 ((decide ((rd t287 x5_1) ≥ 0)) != false) a0_0 a0_1 l0_2) = some r := by rw [if_neg (show ¬ (false = true) by decide)] at H; exact H
         clear H
         have H := H1
         clear H1
         have H' := Aside0.mk H
         clear H
         try go_wp2
         have n0_ := Aside0.mk (Kd.R_drew HO_3.out)
         have n1_ := Aside0.mk (Kd.R_drew HO_4.out)
         have n2_ := Aside0.mk (blk_drew BK285.out)
         have n3_ := Aside0.mk (below_drew1 HB.out)
         clear HO_3
         clear HO_4
         clear BK285
         clear HB
         have HO_3 := n0_
         have HO_4 := n1_
         have BK285 := n2_
         have HB := n3_
         clear n0_ n1_ n2_ n3_
         have p293 : 0 ≤ (x5_1 : Int) := of_decide_eq_true (by first | (with_reducible assumption) | assumption)
         have q293 : x5_1 < (t287.length : Int) := of_decide_eq_true (by first | (with_reducible assumption) | assumption)
         obtain ⟨ad293, e293, hx293_0⟩ := Kd.at_int (Kd.R_reads' HO_3.out).2.2 x5_1 p293 q293
         cases e293
         replace p293 := eq_true p293
         replace q293 := eq_true q293
         obtain ⟨Ao30, co30, eo30⟩ := Kd.R_slice HO_4.out
         (first | subst eo30 | (injection eo30 with f1_ f2_ f3_; have f4_ := f1_.symm; have f5_ := f3_.symm; clear f1_ f2_ f3_; subst f4_; subst f5_))
         have p294 : 0 ≤ (x5_1 : Int) := of_decide_eq_true (by first | (with_reducible assumption) | assumption)
         have q294 : x5_1 < (t290.length : Int) := of_decide_eq_true (by first | (with_reducible assumption) | assumption)
         obtain ⟨ad294, e294, hx294_0⟩ := Kd.at_bool (Kd.R_reads' HO_4.out).2.2 x5_1 p294 q294
         (try rw [← Nbq25.out] at hx294_0)
         cases e294
         replace p294 := eq_true p294
         replace q294 := eq_true q294
         refine start_ (n := 14) (S := fun w' => w'.cell? (ad293.add (x5_1).toNat) = some (.int .i64 (rd t287 x5_1)) ∧ w'.cell? (ad294.add (x5_1).toNat) = some (.bool false)) (ds := []) (bA 14 0) (by kernel_rfl) rfl rfl ⟨hx293_0, hx294_0⟩ (fun hHeld => ?_); refine with_tabW davitlaw08_DomEdges.tab11 davitlaw08_DomEdges.bits11 (fun HT_ HW_ => ?_)
         generalize wr.drew = w29 at HO_3 HO_4 BK285 HB hx293_0 hx294_0 hHeld ⊢
         refine pure_ (i := 0) (N := some 33) (v := ?_) (a' := ?_) (bA 14 1) rfl rfl (any_of HT_.out (by kernel_rfl)) (fun _ _ _ h => h) (Or.inl ⟨by rfl, ?_⟩) ?_ ?_; rotate_left; (focus intro w'; go_simp; with_reducible rfl); rotate_left; (focus simp only [Act.put, sA, sB, sC, i64_w, i32_w]; rfl)
         refine pure_ (i := 1) (N := some 34) (v := ?_) (a' := ?_) (bA 14 3) rfl rfl (any_of HT_.out (by kernel_rfl)) (fun _ _ _ h => h) (Or.inl ⟨by rfl, ?_⟩) ?_ ?_; rotate_left; (focus intro w'; go_simp; with_reducible rfl); rotate_left; (focus simp only [Act.put, sA, sB, sC, i64_w, i32_w]; rfl)
         refine pure_ (i := 2) (N := some 35) (v := ?_) (a' := ?_) (bA 14 7) rfl rfl (any_of HT_.out (by kernel_rfl)) (fun _ _ _ h => h) (Or.inl ⟨by rfl, ?_⟩) ?_ ?_; rotate_left; (focus intro w'; go_simp; with_reducible rfl); rotate_left; (focus simp only [Act.put, sA, sB, sC, i64_w, i32_w]; rfl)
         refine pure_ (i := 5) (N := some 38) (v := ?_) (a' := ?_) (bA 14 39) rfl rfl (any_of HT_.out (by kernel_rfl)) (fun _ _ _ h => h) (Or.inl ⟨by rfl, ?_⟩) ?_ ?_; rotate_left; (focus intro w'; go_simp; with_reducible rfl); rotate_left; (focus simp only [Act.put, sA, sB, sC, i64_w, i32_w]; rfl)
         refine pure_ (i := 6) (N := some 39) (v := ?_) (a' := ?_) (bA 14 103) rfl rfl (any_of HT_.out (by kernel_rfl)) (fun _ _ _ h => h) (Or.inl ⟨by rfl, ?_⟩) ?_ ?_; rotate_left; (focus intro w'; go_simp; with_reducible rfl); rotate_left; (focus simp only [Act.put, sA, sB, sC, i64_w, i32_w]; rfl)
         refine pure_ (i := 7) (N := some 40) (v := ?_) (a' := ?_) (bA 14 231) rfl rfl (any_of HT_.out (by kernel_rfl)) (fun _ _ _ h => h) (Or.inl ⟨by rfl, ?_⟩) ?_ ?_; rotate_left; (focus intro w'; go_simp; with_reducible rfl); rotate_left; (focus simp only [Act.put, sA, sB, sC, i64_w, i32_w]; rfl)
         refine take_ (i := 3) (N := some 36) (v := ?_) (a' := ?_) (bA 14 239) rfl rfl (take_ofW HT_.out HW_.out (by kernel_rfl)) (fun _ _ _ h => h) (Or.inl ⟨by rfl, ?_⟩) hHeld ?_ ?_; rotate_left; (focus rintro w' ⟨s0, s1⟩; go_simp; with_reducible rfl); rotate_left; (focus simp only [Act.put, sA, sB, sC, i64_w, i32_w]; rfl)
         refine pure_ (i := 4) (N := some 37) (v := ?_) (a' := ?_) (bA 14 255) rfl rfl (any_of HT_.out (by kernel_rfl)) (fun _ _ _ h => h) (Or.inl ⟨by rfl, ?_⟩) ?_ ?_; rotate_left; (focus intro w'; go_simp; with_reducible rfl); rotate_left; (focus simp only [Act.put, sA, sB, sC, i64_w, i32_w]; rfl)
         refine take_ (i := 8) (N := some 41) (v := ?_) (a' := ?_) (bA 14 511) rfl rfl (take_ofW HT_.out HW_.out (by kernel_rfl)) (fun _ _ _ h => h) (Or.inl ⟨by rfl, ?_⟩) hHeld ?_ ?_; rotate_left; (focus rintro w' ⟨s0, s1⟩; go_simp; with_reducible rfl); rotate_left; (focus simp only [Act.put, sA, sB, sC, i64_w, i32_w]; rfl)
         refine pure_ (i := 9) (N := some 42) (v := ?_) (a' := ?_) (bA 14 1023) rfl rfl (any_of HT_.out (by kernel_rfl)) (fun _ _ _ h => h) (Or.inl ⟨by rfl, ?_⟩) ?_ ?_; rotate_left; (focus intro w'; go_simp; with_reducible rfl); rotate_left; (focus simp only [Act.put, sA, sB, sC, i64_w, i32_w]; rfl)
         refine pure_ (i := 10) (N := some 43) (v := undef) (a' := ?_) (bA 14 2047) rfl rfl (any_of HT_.out (by kernel_rfl)) (fun _ _ _ h => h) (Or.inr ⟨by rfl, rfl⟩) ?_ ?_; rotate_left; (focus simp only [Act.put, sA, sB, sC, i64_w, i32_w]; rfl)
         refine pure_ (i := 11) (N := some 44) (v := undef) (a' := ?_) (bA 14 4095) rfl rfl (any_of HT_.out (by kernel_rfl)) (fun _ _ _ h => h) (Or.inr ⟨by rfl, rfl⟩) ?_ ?_; rotate_left; (focus simp only [Act.put, sA, sB, sC, i64_w, i32_w]; rfl)
         refine pure_ (i := 12) (N := some 45) (v := ?_) (a' := ?_) (bA 14 8191) rfl rfl (any_of HT_.out (by kernel_rfl)) (fun _ _ _ h => h) (Or.inl ⟨by rfl, ?_⟩) ?_ ?_; rotate_left; (focus intro w'; go_simp; with_reducible rfl); rotate_left; (focus simp only [Act.put, sA, sB, sC, i64_w, i32_w]; rfl)
         refine pure_ (i := 13) (N := some 46) (v := ?_) (a' := ?_) (bA 14 16383) rfl rfl (any_of HT_.out (by kernel_rfl)) (fun _ _ _ h => h) (Or.inl ⟨by rfl, ?_⟩) ?_ ?_; rotate_left; (focus intro w'; go_simp; with_reducible rfl); rotate_left; (focus simp only [Act.put, sA, sB, sC, i64_w, i32_w]; rfl)
         refine done_ (done_of HT_.out (by kernel_rfl)) ?_
         try go_wp2
         go_meet
         case rel => exact ⟨_, (((decide ((rd t287 x5_1) ≥ 0)) != false)), (by first | rfl | (simp; done) | (simp [*]; done)), H', ⟨by have := HK1.out; first | omega | exact Nat.le_refl _⟩, ⟨by (with_reducible repeat (first | apply Kd.R_alloc | apply Kd.R_drewN | apply Kd.R_drew)); exact HO_3.out⟩, ⟨by (with_reducible repeat (first | apply Kd.R_alloc | apply Kd.R_drewN | apply Kd.R_drew)); exact HO_4.out⟩, ⟨by (with_reducible repeat (first | refine blk_drewN ?_ _ | refine blk_drew ?_ | refine blk_alloc ?_ _)); exact BK285.out⟩, ⟨by repeat (first | (with_reducible first | exact HB.out | apply below_alloc | apply pw_below_drewN | apply below_drew1 | refine below_set ?_ GE285.out) | exact HB.out)⟩⟩
       ·rw [if_neg c24] at H
        exact absurd H (by simp)
      ·rw [if_neg c23] at H
       exact absurd H (by simp)
     ·rw [if_neg c22] at H
      exact absurd H (by simp)
    case rest =>
     clear HC20
     try clear c1
     try clear c2
     try clear p2
     try clear q2
     try clear hx2
     try clear c3
     try clear c4
     try clear c4b0
     try clear c4b1
     try clear c5
     try clear c10
     try clear c10b0
     try clear c10b1
     try clear c10b2
     try clear c11
     try clear c13
     try clear c19
     try clear c19b0
     try clear c22
     try clear c22b0
     try clear c23
     try clear c23b0
     try clear c24
     try clear c24b0
     try clear q25
     try clear c26
     try clear p29
     try clear q29
     try clear hx29
     try clear hcz13_0
     try clear hcz13_1
     try clear hcz13_2
     try clear hcz18_0
     try clear hcz18_1
     try clear hcz18_2
     try clear hcz21_0
     try clear hcz21_1
     try clear hcz21_2
     try clear hcz7_0
     try clear hcz7_1
     try clear hcz7_2
     try clear hfz13_0
     try clear hfz13_1
     try clear hfz13_2
     try clear hfz18_0
     try clear hfz18_1
     try clear hfz18_2
     try clear hfz21_0
     try clear hfz21_1
     try clear hfz21_2
     try clear hfz7_0
     try clear hfz7_1
     try clear hfz7_2
     try clear hx293_0
     try clear hx294_0
     try clear p2
     try clear p293
     try clear p294
     try clear q293
     try clear q294
     obtain ⟨kq, x46_19, rfl, HA, HJ19, HO_3, HO_4, BK285, HB⟩ := hcut
     cases kq with
     | zero => exact absurd HA.out (by simp [davitlaw08_DomEdges.j1])
     | succ kj19 =>
      have H := HA.out
      clear HA
      simp only [davitlaw08_DomEdges.j1] at H
      by_cases c31 : x46_19 = true
      ·subst c31
       have H1 : (some false) = some r := by rw [if_pos rfl] at H; exact H
       clear H
       have H := H1
       clear H1
       obtain rfl := Option.some.inj H
       go_wp2
       go_ret
       exact ⟨by first | rfl | (simp [errW_none, errW_some] <;> rfl) | (simp [*, errW_none, errW_some] <;> rfl), by repeat (first | (with_reducible first | exact HB.out | apply below_alloc | apply pw_below_drewN | apply below_drew1 | refine below_set ?_ GE285.out) | exact HB.out)⟩
      ·replace c31 := Bool.eq_false_iff.mpr c31
       subst c31
       have H1 : ((dom_Edge.f kj19 a0_0 a0_1 l0_2 x5_1).bind fun t295 => (davitlaw08_DomEdges.l1 kj19 t287 t290 x5_1 t295 0 a0_0 a0_1 l0_2)) = some r := by rw [if_neg (show ¬ (false = true) by decide)] at H; exact H
       clear H
       have H := H1
       clear H1
       replace H := Option.bind_eq_some_iff.mp H
       obtain ⟨t295, A320, H⟩ := H
       replace H : (davitlaw08_DomEdges.l1 kj19 t287 t290 x5_1 t295 0 a0_0 a0_1 l0_2) = some r := H
       have A32 := Aside0.mk A320
       clear A320
       have H' := Aside0.mk H
       clear H
       have hcz33_0 : wc.cell? ⟨gb285, 0, none⟩ = some (.int .i64 a0_0) := (blk_cell BK285.out 0).trans rfl
       have hcz33_1 : wc.cell? ⟨gb285, 1, none⟩ = some (.int .i64 a0_1) := (blk_cell BK285.out 1).trans rfl
       have hcz33_2 : wc.cell? ⟨gb285, 2, none⟩ = some (.slice A0_2 l0_2.length c0_2) := (blk_cell BK285.out 2).trans rfl
       have hfz33_0 := blk_frozen BK285.out 0
       have hfz33_1 := blk_frozen BK285.out 1
       have hfz33_2 := blk_frozen BK285.out 2
       go_wp2_with (first | ((with_reducible refine gate_callee (f := 17) rfl ?_); refine goesL_ (some 49) rfl rfl Try.func17 (by kernel_rfl) rfl #[.agg #[.int .i64 a0_0, .int .i64 a0_1, .slice A0_2 l0_2.length c0_2], .int .i64 x5_1] rfl (by (try simp only [List.map_toArray, List.map_cons, List.map_nil]); first | done | rfl | (simp only [List.length_drop, List.length_take]; rfl)) ?_; (with_reducible refine (dom_Edge.calls kj19 a0_0 a0_1 _ _ l0_2 x5_1 t295 _ ?side1 ?side2 A32.out).mono ?_); (case side1 => repeat (first | exact (Kd.C_below HR0_2.out HB.out) | (with_reducible refine Kd.C_alloc ?_ _) | (with_reducible refine Kd.C_drewN ?_ _) | (with_reducible refine Kd.C_drew ?_))); (case side2 => exact HC0_2.out); rintro e w34 ⟨v296, rfl, ho0, hb⟩; refine ⟨_, rfl, ?_⟩; have n0_ := Aside0.mk (Kd.R_elder' (by (with_reducible repeat (first | apply Kd.R_alloc | apply Kd.R_drewN | apply Kd.R_drew)); exact HO_3.out) (Kd.R_base ho0) hb); have n1_ := Aside0.mk (Kd.R_below (by (with_reducible repeat (first | apply Kd.R_alloc | apply Kd.R_drewN | apply Kd.R_drew)); exact HO_4.out) hb); have n2_ := Aside0.mk (Kd.R_lower (Kd.R_new' ho0 (Kd.R_lt (by (with_reducible repeat (first | apply Kd.R_alloc | apply Kd.R_drewN | apply Kd.R_drew)); exact HO_3.out))) (below_size (by repeat (first | (with_reducible first | exact HB.out | apply below_alloc | apply pw_below_drewN | apply below_drew1 | refine below_set ?_ GE285.out) | exact HB.out)))); have n3_ := Aside0.mk (blk_below (g := gb285) (o := .cells #[.int .i64 a0_0, .int .i64 a0_1, .slice A0_2 l0_2.length c0_2] 24 (0, 0)) (by (with_reducible repeat (first | refine blk_drewN ?_ _ | refine blk_drew ?_ | refine blk_alloc ?_ _)); exact BK285.out) hb); have n4_ := Aside0.mk (below_step (by repeat (first | (with_reducible first | exact HB.out | apply below_alloc | apply pw_below_drewN | apply below_drew1 | refine below_set ?_ GE285.out) | exact HB.out)) hb); clear HO_3; clear HO_4; clear BK285; clear HB; have HO_3 := n0_; have HO_4 := n1_; have HO297 := n2_; have BK285 := n3_; have HB := n4_; clear n0_ n1_ n2_ n3_ n4_; (try clear hb); (try clear hb2); (try clear hk); (try clear hi); (try clear ho0)))
       go_loopg [7] kj19 (fun kq v7 w' => ∃ (x7_3 : Int), v7 = .int .i64 x7_3 ∧ Aside0 (davitlaw08_DomEdges.l1 kq t287 t290 x5_1 t295 x7_3 a0_0 a0_1 l0_2 = some r) ∧ Aside0 (kq ≤ kj19) ∧ Aside0 (Kd.R (Kd.int .i64) 3 w' w.heap.size (fun k_ => some k_ ≠ (v296 : Value).ownBlock) (.slice Ao17 t287.length co17) t287) ∧ Aside0 (Kd.R Kd.bool 4 w' w.heap.size (fun _ => True) v291 t290) ∧ Aside0 (Kd.R (Kd.int .i64) 3 w' w.heap.size (fun k_ => some k_ ≠ ((.slice Ao17 t287.length co17) : Value).ownBlock) v296 t295) ∧ Aside0 (w'.heap[gb285]? = some (.cells #[.int .i64 a0_0, .int .i64 a0_1, (.slice A0_2 l0_2.length c0_2)] 24 (0, 0))) ∧ Aside0 (Below w.heap.size w w'))
       case atStart => exact ⟨(0), (by first | rfl | (simp; done) | (simp [*]; done)), H', ⟨Nat.le_refl _⟩, ⟨by (with_reducible repeat (first | apply Kd.R_alloc | apply Kd.R_drewN | apply Kd.R_drew)); exact Kd.R_mono HO_3.out (fun _ hk => hk.2)⟩, ⟨by (with_reducible repeat (first | apply Kd.R_alloc | apply Kd.R_drewN | apply Kd.R_drew)); exact HO_4.out⟩, ⟨by (with_reducible repeat (first | apply Kd.R_alloc | apply Kd.R_drewN | apply Kd.R_drew)); exact Kd.R_mono HO297.out (fun _ hk => hk.2)⟩, ⟨by (with_reducible repeat (first | refine blk_drewN ?_ _ | refine blk_drew ?_ | refine blk_alloc ?_ _)); exact BK285.out⟩, ⟨by repeat (first | (with_reducible first | exact HB.out | apply below_alloc | apply pw_below_drewN | apply below_drew1 | refine below_set ?_ GE285.out) | exact HB.out)⟩⟩
       case round =>
        clear H'
        try clear c1
        try clear c2
        try clear p2
        try clear q2
        try clear hx2
        try clear c3
        try clear c4
        try clear c4b0
        try clear c4b1
        try clear c5
        try clear c10
        try clear c10b0
        try clear c10b1
        try clear c10b2
        try clear c11
        try clear c13
        try clear c17
        try clear c19
        try clear c19b0
        try clear c22
        try clear c22b0
        try clear c23
        try clear c23b0
        try clear c24
        try clear c24b0
        try clear q25
        try clear c26
        try clear p29
        try clear q29
        try clear hx29
        try clear c31
        try clear hcz13_0
        try clear hcz13_1
        try clear hcz13_2
        try clear hcz18_0
        try clear hcz18_1
        try clear hcz18_2
        try clear hcz21_0
        try clear hcz21_1
        try clear hcz21_2
        try clear hcz33_0
        try clear hcz33_1
        try clear hcz33_2
        try clear hcz7_0
        try clear hcz7_1
        try clear hcz7_2
        try clear hfz13_0
        try clear hfz13_1
        try clear hfz13_2
        try clear hfz18_0
        try clear hfz18_1
        try clear hfz18_2
        try clear hfz21_0
        try clear hfz21_1
        try clear hfz21_2
        try clear hfz33_0
        try clear hfz33_1
        try clear hfz33_2
        try clear hfz7_0
        try clear hfz7_1
        try clear hfz7_2
        try clear hx293_0
        try clear hx294_0
        try clear p2
        try clear p29
        try clear p293
        try clear p294
        try clear q2
        try clear q25
        try clear q29
        try clear q293
        try clear q294
        obtain ⟨x7_3, rfl, HA, HK3, HO_3, HO_4, HO_6, BK285, HB⟩ := hrel
        cases gk with
        | zero => exact absurd HA.out (by simp [davitlaw08_DomEdges.l1])
        | succ k3 =>
         have H := HA.out
         clear HA
         simp only [davitlaw08_DomEdges.l1] at H
         by_cases c35 : x7_3 < (l0_2.length : Int)
         ·rw [if_pos c35] at H
          have c35b0 : decide (x7_3 < (l0_2.length : Int)) = true := decide_eq_true c35
          clear c35
          have HC36 := Aside0.mk H
          clear H
          have hcz37_0 : wr.cell? ⟨gb285, 0, none⟩ = some (.int .i64 a0_0) := (blk_cell BK285.out 0).trans rfl
          have hcz37_1 : wr.cell? ⟨gb285, 1, none⟩ = some (.int .i64 a0_1) := (blk_cell BK285.out 1).trans rfl
          have hcz37_2 : wr.cell? ⟨gb285, 2, none⟩ = some (.slice A0_2 l0_2.length c0_2) := (blk_cell BK285.out 2).trans rfl
          have hfz37_0 := blk_frozen BK285.out 0
          have hfz37_1 := blk_frozen BK285.out 1
          have hfz37_2 := blk_frozen BK285.out 2
          go_upto_region 17 with (fail)
          go_cut [82] (fun v82 wc => ∃ (kq : Nat) (x82_35 : Bool), v82 = .bool x82_35 ∧ Aside0 (davitlaw08_DomEdges.j3 kq t287 t290 x5_1 t295 x7_3 x82_35 a0_0 a0_1 l0_2 = some r) ∧ Aside0 (kq ≤ k3) ∧ Aside0 (Kd.R (Kd.int .i64) 3 wc w.heap.size (fun k_ => some k_ ≠ (v296 : Value).ownBlock) (.slice Ao17 t287.length co17) t287) ∧ Aside0 (Kd.R Kd.bool 4 wc w.heap.size (fun _ => True) v291 t290) ∧ Aside0 (Kd.R (Kd.int .i64) 3 wc w.heap.size (fun k_ => some k_ ≠ ((.slice Ao17 t287.length co17) : Value).ownBlock) v296 t295) ∧ Aside0 (wc.heap[gb285]? = some (.cells #[.int .i64 a0_0, .int .i64 a0_1, (.slice A0_2 l0_2.length c0_2)] 24 (0, 0))) ∧ Aside0 (Below w.heap.size w wc))
          case first =>
           have H := HC36.out
           clear HC36
           by_cases c38 : 0 ≤ x5_1
           ·rw [if_pos c38] at H
            have c38b0 : decide (0 ≤ x5_1) = true := decide_eq_true c38
            clear c38
            (first | rw [c38b0] | (simp only [i64_w, i32_w]; rw [c38b0]) | skip)
            by_cases c39 : x5_1 < (t287.length : Int)
            ·rw [if_pos c39] at H
             have c39b0 : decide (x5_1 < (t287.length : Int)) = true := decide_eq_true c39
             clear c39
             by_cases c40 : (rd t287 x5_1) ≥ 0
             ·rw [if_pos c40] at H
              have c40b0 : decide (0 ≤ (rd t287 x5_1)) = true := decide_eq_true c40
              clear c40
              by_cases c41 : x7_3 = x5_1
              ·rw [if_pos c41] at H
               have c41b0 : (x7_3 == x5_1) = true := beq_iff_eq.mpr c41
               have c41b1 : (x7_3 != x5_1) = false := bne_eq_false_iff_eq.mpr c41
               clear c41
               have H' := Aside0.mk H
               clear H
               try go_wp2
               have n0_ := Aside0.mk (Kd.R_drew HO_3.out)
               have n1_ := Aside0.mk (Kd.R_drew HO_4.out)
               have n2_ := Aside0.mk (Kd.R_drew HO_6.out)
               have n3_ := Aside0.mk (blk_drew BK285.out)
               have n4_ := Aside0.mk (below_drew1 HB.out)
               clear HO_3
               clear HO_4
               clear HO_6
               clear BK285
               clear HB
               have HO_3 := n0_
               have HO_4 := n1_
               have HO_6 := n2_
               have BK285 := n3_
               have HB := n4_
               clear n0_ n1_ n2_ n3_ n4_
               have p301 : 0 ≤ (x5_1 : Int) := of_decide_eq_true (by first | (with_reducible assumption) | assumption)
               have q301 : x5_1 < (t287.length : Int) := of_decide_eq_true (by first | (with_reducible assumption) | assumption)
               obtain ⟨ad301, e301, hx301_0⟩ := Kd.at_int (Kd.R_reads' HO_3.out).2.2 x5_1 p301 q301
               cases e301
               replace p301 := eq_true p301
               replace q301 := eq_true q301
               refine start_ (n := 26) (S := fun w' => w'.cell? (ad301.add (x5_1).toNat) = some (.int .i64 (rd t287 x5_1))) (ds := []) (bA 26 0) (by kernel_rfl) rfl rfl (hx301_0) (fun hHeld => ?_); refine with_tabW davitlaw08_DomEdges.tab17 davitlaw08_DomEdges.bits17 (fun HT_ HW_ => ?_)
               generalize wr.drew = w42 at HO_3 HO_4 HO_6 BK285 HB hx301_0 hHeld ⊢
               refine pure_ (i := 0) (N := some 57) (v := ?_) (a' := ?_) (bA 26 1) rfl rfl (any_of HT_.out (by kernel_rfl)) (fun _ _ _ h => h) (Or.inl ⟨by rfl, ?_⟩) ?_ ?_; rotate_left; (focus intro w'; go_simp; with_reducible rfl); rotate_left; (focus simp only [Act.put, sA, sB, sC, i64_w, i32_w]; rfl)
               refine pure_ (i := 1) (N := some 58) (v := ?_) (a' := ?_) (bA 26 3) rfl rfl (any_of HT_.out (by kernel_rfl)) (fun _ _ _ h => h) (Or.inl ⟨by rfl, ?_⟩) ?_ ?_; rotate_left; (focus intro w'; go_simp; with_reducible rfl); rotate_left; (focus simp only [Act.put, sA, sB, sC, i64_w, i32_w]; rfl)
               refine pure_ (i := 2) (N := some 59) (v := ?_) (a' := ?_) (bA 26 7) rfl rfl (any_of HT_.out (by kernel_rfl)) (fun _ _ _ h => h) (Or.inl ⟨by rfl, ?_⟩) ?_ ?_; rotate_left; (focus intro w'; go_simp; with_reducible rfl); rotate_left; (focus simp only [Act.put, sA, sB, sC, i64_w, i32_w]; rfl)
               refine take_ (i := 3) (N := some 60) (v := ?_) (a' := ?_) (bA 26 15) rfl rfl (take_ofW HT_.out HW_.out (by kernel_rfl)) (fun _ _ _ h => h) (Or.inl ⟨by rfl, ?_⟩) hHeld ?_ ?_; rotate_left; (focus intro w' s0; go_simp; with_reducible rfl); rotate_left; (focus simp only [Act.put, sA, sB, sC, i64_w, i32_w]; rfl)
               refine pure_ (i := 4) (N := some 61) (v := ?_) (a' := ?_) (bA 26 31) rfl rfl (any_of HT_.out (by kernel_rfl)) (fun _ _ _ h => h) (Or.inl ⟨by rfl, ?_⟩) ?_ ?_; rotate_left; (focus intro w'; go_simp; with_reducible rfl); rotate_left; (focus simp only [Act.put, sA, sB, sC, i64_w, i32_w]; rfl)
               refine pure_ (i := 5) (N := some 62) (v := ?_) (a' := ?_) (bA 26 63) rfl rfl (any_of HT_.out (by kernel_rfl)) (fun _ _ _ h => h) (Or.inl ⟨by rfl, ?_⟩) ?_ ?_; rotate_left; (focus intro w'; go_simp; with_reducible rfl); rotate_left; (focus simp only [Act.put, sA, sB, sC, i64_w, i32_w]; rfl)
               refine pure_ (i := 6) (N := some 63) (v := ?_) (a' := ?_) (bA 26 127) rfl rfl (any_of HT_.out (by kernel_rfl)) (fun _ _ _ h => h) (Or.inl ⟨by rfl, ?_⟩) ?_ ?_; rotate_left; (focus intro w'; go_simp; with_reducible rfl); rotate_left; (focus simp only [Act.put, sA, sB, sC, i64_w, i32_w]; rfl)
               refine pure_ (i := 7) (N := some 64) (v := ?_) (a' := ?_) (bA 26 255) rfl rfl (any_of HT_.out (by kernel_rfl)) (fun _ _ _ h => h) (Or.inl ⟨by rfl, ?_⟩) ?_ ?_; rotate_left; (focus intro w'; go_simp; with_reducible rfl); rotate_left; (focus simp only [Act.put, sA, sB, sC, i64_w, i32_w]; rfl)
               refine pure_ (i := 8) (N := some 65) (v := ?_) (a' := ?_) (bA 26 511) rfl rfl (any_of HT_.out (by kernel_rfl)) (fun _ _ _ h => h) (Or.inl ⟨by rfl, ?_⟩) ?_ ?_; rotate_left; (focus intro w'; go_simp; with_reducible rfl); rotate_left; (focus simp only [Act.put, sA, sB, sC, i64_w, i32_w]; rfl)
               refine pure_ (i := 9) (N := some 66) (v := ?_) (a' := ?_) (bA 26 1023) rfl rfl (any_of HT_.out (by kernel_rfl)) (fun _ _ _ h => h) (Or.inl ⟨by rfl, ?_⟩) ?_ ?_; rotate_left; (focus intro w'; go_simp; with_reducible rfl); rotate_left; (focus simp only [Act.put, sA, sB, sC, i64_w, i32_w]; rfl)
               refine pure_ (i := 10) (N := some 67) (v := ?_) (a' := ?_) (bA 26 2047) rfl rfl (any_of HT_.out (by kernel_rfl)) (fun _ _ _ h => h) (Or.inl ⟨by rfl, ?_⟩) ?_ ?_; rotate_left; (focus intro w'; go_simp; with_reducible rfl); rotate_left; (focus simp only [Act.put, sA, sB, sC, i64_w, i32_w]; rfl)
               refine pure_ (i := 11) (N := some 68) (v := undef) (a' := ?_) (bA 26 4095) rfl rfl (any_of HT_.out (by kernel_rfl)) (fun _ _ _ h => h) (Or.inr ⟨by rfl, rfl⟩) ?_ ?_; rotate_left; (focus simp only [Act.put, sA, sB, sC, i64_w, i32_w]; rfl)
               refine pure_ (i := 12) (N := some 69) (v := undef) (a' := ?_) (bA 26 8191) rfl rfl (any_of HT_.out (by kernel_rfl)) (fun _ _ _ h => h) (Or.inr ⟨by rfl, rfl⟩) ?_ ?_; rotate_left; (focus simp only [Act.put, sA, sB, sC, i64_w, i32_w]; rfl)
               refine pure_ (i := 13) (N := some 70) (v := undef) (a' := ?_) (bA 26 16383) rfl rfl (any_of HT_.out (by kernel_rfl)) (fun _ _ _ h => h) (Or.inr ⟨by rfl, rfl⟩) ?_ ?_; rotate_left; (focus simp only [Act.put, sA, sB, sC, i64_w, i32_w]; rfl)
               refine pure_ (i := 14) (N := some 71) (v := undef) (a' := ?_) (bA 26 32767) rfl rfl (any_of HT_.out (by kernel_rfl)) (fun _ _ _ h => h) (Or.inr ⟨by rfl, rfl⟩) ?_ ?_; rotate_left; (focus simp only [Act.put, sA, sB, sC, i64_w, i32_w]; rfl)
               refine pure_ (i := 15) (N := some 72) (v := ?_) (a' := ?_) (bA 26 65535) rfl rfl (any_of HT_.out (by kernel_rfl)) (fun _ _ _ h => h) (Or.inl ⟨by rfl, ?_⟩) ?_ ?_; rotate_left; (focus intro w'; go_simp; with_reducible rfl); rotate_left; (focus simp only [Act.put, sA, sB, sC, i64_w, i32_w]; rfl)
               refine pure_ (i := 16) (N := some 73) (v := ?_) (a' := ?_) (bA 26 131071) rfl rfl (any_of HT_.out (by kernel_rfl)) (fun _ _ _ h => h) (Or.inl ⟨by rfl, ?_⟩) ?_ ?_; rotate_left; (focus intro w'; go_simp; with_reducible rfl); rotate_left; (focus simp only [Act.put, sA, sB, sC, i64_w, i32_w]; rfl)
               refine pure_ (i := 17) (N := some 74) (v := undef) (a' := ?_) (bA 26 262143) rfl rfl (any_of HT_.out (by kernel_rfl)) (fun _ _ _ h => h) (Or.inr ⟨by rfl, rfl⟩) ?_ ?_; rotate_left; (focus simp only [Act.put, sA, sB, sC, i64_w, i32_w]; rfl)
               refine pure_ (i := 18) (N := some 75) (v := undef) (a' := ?_) (bA 26 524287) rfl rfl (any_of HT_.out (by kernel_rfl)) (fun _ _ _ h => h) (Or.inr ⟨by rfl, rfl⟩) ?_ ?_; rotate_left; (focus simp only [Act.put, sA, sB, sC, i64_w, i32_w]; rfl)
               refine pure_ (i := 19) (N := some 76) (v := undef) (a' := ?_) (bA 26 1048575) rfl rfl (any_of HT_.out (by kernel_rfl)) (fun _ _ _ h => h) (Or.inr ⟨by rfl, rfl⟩) ?_ ?_; rotate_left; (focus simp only [Act.put, sA, sB, sC, i64_w, i32_w]; rfl)
               refine pure_ (i := 20) (N := some 77) (v := undef) (a' := ?_) (bA 26 2097151) rfl rfl (any_of HT_.out (by kernel_rfl)) (fun _ _ _ h => h) (Or.inr ⟨by rfl, rfl⟩) ?_ ?_; rotate_left; (focus simp only [Act.put, sA, sB, sC, i64_w, i32_w]; rfl)
               refine pure_ (i := 21) (N := some 78) (v := undef) (a' := ?_) (bA 26 4194303) rfl rfl (any_of HT_.out (by kernel_rfl)) (fun _ _ _ h => h) (Or.inr ⟨by rfl, rfl⟩) ?_ ?_; rotate_left; (focus simp only [Act.put, sA, sB, sC, i64_w, i32_w]; rfl)
               refine pure_ (i := 22) (N := some 79) (v := undef) (a' := ?_) (bA 26 8388607) rfl rfl (any_of HT_.out (by kernel_rfl)) (fun _ _ _ h => h) (Or.inr ⟨by rfl, rfl⟩) ?_ ?_; rotate_left; (focus simp only [Act.put, sA, sB, sC, i64_w, i32_w]; rfl)
               refine pure_ (i := 23) (N := some 80) (v := undef) (a' := ?_) (bA 26 16777215) rfl rfl (any_of HT_.out (by kernel_rfl)) (fun _ _ _ h => h) (Or.inr ⟨by rfl, rfl⟩) ?_ ?_; rotate_left; (focus simp only [Act.put, sA, sB, sC, i64_w, i32_w]; rfl)
               refine pure_ (i := 24) (N := some 81) (v := undef) (a' := ?_) (bA 26 33554431) rfl rfl (any_of HT_.out (by kernel_rfl)) (fun _ _ _ h => h) (Or.inr ⟨by rfl, rfl⟩) ?_ ?_; rotate_left; (focus simp only [Act.put, sA, sB, sC, i64_w, i32_w]; rfl)
               refine pure_ (i := 25) (N := some 82) (v := ?_) (a' := ?_) (bA 26 67108863) rfl rfl (any_of HT_.out (by kernel_rfl)) (fun _ _ _ h => h) (Or.inl ⟨by rfl, ?_⟩) ?_ ?_; rotate_left; (focus intro w'; go_simp; with_reducible rfl); rotate_left; (focus simp only [Act.put, sA, sB, sC, i64_w, i32_w]; rfl)
               refine done_ (done_of HT_.out (by kernel_rfl)) ?_
               try go_wp2
               go_meet
               case rel => exact ⟨_, (false), (by first | rfl | (simp; done) | (simp [*]; done)), H', ⟨by have := HK1.out; have := HJ19.out; have := HK3.out; first | omega | exact Nat.le_refl _⟩, ⟨by (with_reducible repeat (first | apply Kd.R_alloc | apply Kd.R_drewN | apply Kd.R_drew)); exact HO_3.out⟩, ⟨by (with_reducible repeat (first | apply Kd.R_alloc | apply Kd.R_drewN | apply Kd.R_drew)); exact HO_4.out⟩, ⟨by (with_reducible repeat (first | apply Kd.R_alloc | apply Kd.R_drewN | apply Kd.R_drew)); exact HO_6.out⟩, ⟨by (with_reducible repeat (first | refine blk_drewN ?_ _ | refine blk_drew ?_ | refine blk_alloc ?_ _)); exact BK285.out⟩, ⟨by repeat (first | (with_reducible first | exact HB.out | apply below_alloc | apply pw_below_drewN | apply below_drew1 | refine below_set ?_ GE285.out) | exact HB.out)⟩⟩
              ·rw [if_neg c41] at H
               have c41b0 : (x7_3 == x5_1) = false := beq_eq_false_iff_ne.mpr c41
               have c41b1 : (x7_3 != x5_1) = true := bne_iff_ne.mpr c41
               replace H := Option.bind_eq_some_iff.mp H
               obtain ⟨t302, A430, H⟩ := H
               replace H : (if t302 = true then ((dom_Is.f k3 a0_0 a0_1 l0_2 x7_3 (rd t287 x5_1)).bind fun t304 => (davitlaw08_DomEdges.j3 k3 t287 t290 x5_1 t295 x7_3 (!t304) a0_0 a0_1 l0_2)) else (davitlaw08_DomEdges.j3 k3 t287 t290 x5_1 t295 x7_3 false a0_0 a0_1 l0_2)) = some r := H
               have A43 := Aside0.mk A430
               clear A430
               by_cases c44 : t302 = true
               ·subst c44
                have H1 : ((dom_Is.f k3 a0_0 a0_1 l0_2 x7_3 (rd t287 x5_1)).bind fun t304 => (davitlaw08_DomEdges.j3 k3 t287 t290 x5_1 t295 x7_3 (!t304) a0_0 a0_1 l0_2)) = some r := by rw [if_pos rfl] at H; exact H
                clear H
                have H := H1
                clear H1
                replace H := Option.bind_eq_some_iff.mp H
                obtain ⟨t304, A450, H⟩ := H
                replace H : (davitlaw08_DomEdges.j3 k3 t287 t290 x5_1 t295 x7_3 (!t304) a0_0 a0_1 l0_2) = some r := H
                have A45 := Aside0.mk A450
                clear A450
                have H' := Aside0.mk H
                clear H
                try go_wp2
                have n0_ := Aside0.mk (Kd.R_drew HO_3.out)
                have n1_ := Aside0.mk (Kd.R_drew HO_4.out)
                have n2_ := Aside0.mk (Kd.R_drew HO_6.out)
                have n3_ := Aside0.mk (blk_drew BK285.out)
                have n4_ := Aside0.mk (below_drew1 HB.out)
                clear HO_3
                clear HO_4
                clear HO_6
                clear BK285
                clear HB
                have HO_3 := n0_
                have HO_4 := n1_
                have HO_6 := n2_
                have BK285 := n3_
                have HB := n4_
                clear n0_ n1_ n2_ n3_ n4_
                have p301 : 0 ≤ (x5_1 : Int) := of_decide_eq_true (by first | (with_reducible assumption) | assumption)
                have q301 : x5_1 < (t287.length : Int) := of_decide_eq_true (by first | (with_reducible assumption) | assumption)
                obtain ⟨ad301, e301, hx301_0⟩ := Kd.at_int (Kd.R_reads' HO_3.out).2.2 x5_1 p301 q301
                cases e301
                replace p301 := eq_true p301
                replace q301 := eq_true q301
                have p303 : 0 ≤ (x5_1 : Int) := of_decide_eq_true (by first | (with_reducible assumption) | assumption)
                have q303 : x5_1 < (t287.length : Int) := of_decide_eq_true (by first | (with_reducible assumption) | assumption)
                obtain ⟨ad303, e303, hx303_0⟩ := Kd.at_int (Kd.R_reads' HO_3.out).2.2 x5_1 p303 q303
                obtain rfl : ad301 = ad303 := (by injection e303)
                replace p303 := eq_true p303
                replace q303 := eq_true q303
                refine start_ (n := 26) (S := fun w' => w'.cell? ⟨gb285, 0, none⟩ = some (.int .i64 a0_0) ∧ w'.cell? ⟨gb285, 1, none⟩ = some (.int .i64 a0_1) ∧ w'.cell? ⟨gb285, 2, none⟩ = some (.slice A0_2 l0_2.length c0_2) ∧ w'.cell? (ad301.add (x5_1).toNat) = some (.int .i64 (rd t287 x5_1)) ∧ w'.cell? (ad301.add (x5_1).toNat) = some (.int .i64 (rd t287 x5_1))) (ds := []) (bA 26 0) (by kernel_rfl) rfl rfl ⟨(blk_cell BK285.out 0).trans rfl, (blk_cell BK285.out 1).trans rfl, (blk_cell BK285.out 2).trans rfl, hx301_0, hx303_0⟩ (fun hHeld => ?_); refine with_tabW davitlaw08_DomEdges.tab17 davitlaw08_DomEdges.bits17 (fun HT_ HW_ => ?_)
                generalize wr.drew = w46 at HO_3 HO_4 HO_6 BK285 HB hx301_0 hx303_0 hHeld ⊢
                refine pure_ (i := 0) (N := some 57) (v := ?_) (a' := ?_) (bA 26 1) rfl rfl (any_of HT_.out (by kernel_rfl)) (fun _ _ _ h => h) (Or.inl ⟨by rfl, ?_⟩) ?_ ?_; rotate_left; (focus intro w'; go_simp; with_reducible rfl); rotate_left; (focus simp only [Act.put, sA, sB, sC, i64_w, i32_w]; rfl)
                refine pure_ (i := 1) (N := some 58) (v := ?_) (a' := ?_) (bA 26 3) rfl rfl (any_of HT_.out (by kernel_rfl)) (fun _ _ _ h => h) (Or.inl ⟨by rfl, ?_⟩) ?_ ?_; rotate_left; (focus intro w'; go_simp; with_reducible rfl); rotate_left; (focus simp only [Act.put, sA, sB, sC, i64_w, i32_w]; rfl)
                refine pure_ (i := 2) (N := some 59) (v := ?_) (a' := ?_) (bA 26 7) rfl rfl (any_of HT_.out (by kernel_rfl)) (fun _ _ _ h => h) (Or.inl ⟨by rfl, ?_⟩) ?_ ?_; rotate_left; (focus intro w'; go_simp; with_reducible rfl); rotate_left; (focus simp only [Act.put, sA, sB, sC, i64_w, i32_w]; rfl)
                refine take_ (i := 3) (N := some 60) (v := ?_) (a' := ?_) (bA 26 15) rfl rfl (take_ofW HT_.out HW_.out (by kernel_rfl)) (fun _ _ _ h => h) (Or.inl ⟨by rfl, ?_⟩) hHeld ?_ ?_; rotate_left; (focus rintro w' ⟨s0, s1, s2, s3, s4⟩; go_simp; with_reducible rfl); rotate_left; (focus simp only [Act.put, sA, sB, sC, i64_w, i32_w]; rfl)
                refine pure_ (i := 4) (N := some 61) (v := ?_) (a' := ?_) (bA 26 31) rfl rfl (any_of HT_.out (by kernel_rfl)) (fun _ _ _ h => h) (Or.inl ⟨by rfl, ?_⟩) ?_ ?_; rotate_left; (focus intro w'; go_simp; with_reducible rfl); rotate_left; (focus simp only [Act.put, sA, sB, sC, i64_w, i32_w]; rfl)
                refine pure_ (i := 5) (N := some 62) (v := ?_) (a' := ?_) (bA 26 63) rfl rfl (any_of HT_.out (by kernel_rfl)) (fun _ _ _ h => h) (Or.inl ⟨by rfl, ?_⟩) ?_ ?_; rotate_left; (focus intro w'; go_simp; with_reducible rfl); rotate_left; (focus simp only [Act.put, sA, sB, sC, i64_w, i32_w]; rfl)
                refine pure_ (i := 6) (N := some 63) (v := ?_) (a' := ?_) (bA 26 127) rfl rfl (any_of HT_.out (by kernel_rfl)) (fun _ _ _ h => h) (Or.inl ⟨by rfl, ?_⟩) ?_ ?_; rotate_left; (focus intro w'; go_simp; with_reducible rfl); rotate_left; (focus simp only [Act.put, sA, sB, sC, i64_w, i32_w]; rfl)
                refine pure_ (i := 7) (N := some 64) (v := ?_) (a' := ?_) (bA 26 255) rfl rfl (any_of HT_.out (by kernel_rfl)) (fun _ _ _ h => h) (Or.inl ⟨by rfl, ?_⟩) ?_ ?_; rotate_left; (focus intro w'; go_simp; with_reducible rfl); rotate_left; (focus simp only [Act.put, sA, sB, sC, i64_w, i32_w]; rfl)
                refine pure_ (i := 8) (N := some 65) (v := ?_) (a' := ?_) (bA 26 511) rfl rfl (any_of HT_.out (by kernel_rfl)) (fun _ _ _ h => h) (Or.inl ⟨by rfl, ?_⟩) ?_ ?_; rotate_left; (focus intro w'; go_simp; with_reducible rfl); rotate_left; (focus simp only [Act.put, sA, sB, sC, i64_w, i32_w]; rfl)
                refine pure_ (i := 9) (N := some 66) (v := ?_) (a' := ?_) (bA 26 1023) rfl rfl (any_of HT_.out (by kernel_rfl)) (fun _ _ _ h => h) (Or.inl ⟨by rfl, ?_⟩) ?_ ?_; rotate_left; (focus intro w'; go_simp; with_reducible rfl); rotate_left; (focus simp only [Act.put, sA, sB, sC, i64_w, i32_w]; rfl)
                refine pure_ (i := 10) (N := some 67) (v := ?_) (a' := ?_) (bA 26 2047) rfl rfl (any_of HT_.out (by kernel_rfl)) (fun _ _ _ h => h) (Or.inl ⟨by rfl, ?_⟩) ?_ ?_; rotate_left; (focus intro w'; go_simp; with_reducible rfl); rotate_left; (focus simp only [Act.put, sA, sB, sC, i64_w, i32_w]; rfl)
                refine pure_ (i := 12) (N := some 69) (v := ?_) (a' := ?_) (bA 26 6143) rfl rfl (any_of HT_.out (by kernel_rfl)) (fun _ _ _ h => h) (Or.inl ⟨by rfl, ?_⟩) ?_ ?_; rotate_left; (focus intro w'; go_simp; with_reducible rfl); rotate_left; (focus simp only [Act.put, sA, sB, sC, i64_w, i32_w]; rfl)
                refine pure_ (i := 13) (N := some 70) (v := ?_) (a' := ?_) (bA 26 14335) rfl rfl (any_of HT_.out (by kernel_rfl)) (fun _ _ _ h => h) (Or.inl ⟨by rfl, ?_⟩) ?_ ?_; rotate_left; (focus intro w'; go_simp; with_reducible rfl); rotate_left; (focus simp only [Act.put, sA, sB, sC, i64_w, i32_w]; rfl)
                refine take_ (i := 11) (N := some 68) (v := ?_) (a' := ?_) (bA 26 16383) rfl rfl (take_ofW HT_.out HW_.out (by kernel_rfl)) (fun _ _ _ h => h) (Or.inl ⟨by rfl, ?_⟩) hHeld ?_ ?_; rotate_left; (focus rintro w' ⟨s0, s1, s2, s3, s4⟩; go_simp; with_reducible rfl); rotate_left; (focus simp only [Act.put, sA, sB, sC, i64_w, i32_w]; rfl)
                refine one_ (i := 14) (N := some 71) (bA 26 32767) rfl rfl (one_of HT_.out (by kernel_rfl)) (by decide) (fun K hK => ?_)
                refine goes_ Try.func15 (by kernel_rfl) rfl #[.agg #[.int .i64 a0_0, .int .i64 a0_1, .slice A0_2 l0_2.length c0_2], .int .i64 x7_3, .int .i64 x5_1] (by rfl) rfl rfl (by (try simp only [List.map_toArray, List.map_cons, List.map_nil]); first | done | rfl | (simp only [List.length_drop, List.length_take]; rfl)) ?_
                with_reducible refine (dom_Is.calls k3 a0_0 a0_1 _ _ l0_2 x7_3 x5_1 true _ ?side1 ?side2 A43.out).mono ?_
                (case side1 => repeat (first | exact (Kd.C_below HR0_2.out HB.out) | (with_reducible refine Kd.C_alloc ?_ _) | (with_reducible refine Kd.C_drewN ?_ _) | (with_reducible refine Kd.C_drew ?_)))
                (case side2 => exact HC0_2.out)
                rintro e w47 ⟨rfl, hb⟩
                have HS3_ := (hb.cell (World.block_lt_of_cell? _ _ (hHeld.2.2.2.1))).trans (hHeld.2.2.2.1)
                have HS4_ := (hb.cell (World.block_lt_of_cell? _ _ (hHeld.2.2.2.2))).trans (hHeld.2.2.2.2)
                refine ⟨_, rfl, ?_⟩
                have n0_ := Aside0.mk (Kd.R_below (by (with_reducible repeat (first | apply Kd.R_alloc | apply Kd.R_drewN | apply Kd.R_drew)); exact HO_3.out) hb)
                have n1_ := Aside0.mk (Kd.R_below (by (with_reducible repeat (first | apply Kd.R_alloc | apply Kd.R_drewN | apply Kd.R_drew)); exact HO_4.out) hb)
                have n2_ := Aside0.mk (Kd.R_below (by (with_reducible repeat (first | apply Kd.R_alloc | apply Kd.R_drewN | apply Kd.R_drew)); exact HO_6.out) hb)
                have n3_ := Aside0.mk (blk_below (g := gb285) (o := .cells #[.int .i64 a0_0, .int .i64 a0_1, .slice A0_2 l0_2.length c0_2] 24 (0, 0)) (by (with_reducible repeat (first | refine blk_drewN ?_ _ | refine blk_drew ?_ | refine blk_alloc ?_ _)); exact BK285.out) hb)
                have n4_ := Aside0.mk (below_step (by repeat (first | (with_reducible first | exact HB.out | apply below_alloc | apply pw_below_drewN | apply below_drew1 | refine below_set ?_ GE285.out) | exact HB.out)) hb)
                clear HO_3
                clear HO_4
                clear HO_6
                clear BK285
                clear HB
                have HO_3 := n0_
                have HO_4 := n1_
                have HO_6 := n2_
                have BK285 := n3_
                have HB := n4_
                clear n0_ n1_ n2_ n3_ n4_
                (try clear hb)
                (try clear hb2)
                (try clear hk)
                (try clear hi)
                refine hK.out _ _ ⟨(blk_cell BK285.out 0).trans rfl, (blk_cell BK285.out 1).trans rfl, (blk_cell BK285.out 2).trans rfl, HS3_, HS4_⟩ (fun hHeld => ?_)
                clear hK K
                refine norm_ (a' := ?_) ?_ ?_; rotate_left; (focus show Act.put _ (some 71) _ = _; simp only [Act.put, sA, sB, sC, i64_w, i32_w]; rfl)
                refine pure_ (i := 15) (N := some 72) (v := ?_) (a' := ?_) (bA 26 65535) rfl rfl (any_of HT_.out (by kernel_rfl)) (fun _ _ _ h => h) (Or.inl ⟨by rfl, ?_⟩) ?_ ?_; rotate_left; (focus intro w'; go_simp; with_reducible rfl); rotate_left; (focus simp only [Act.put, sA, sB, sC, i64_w, i32_w]; rfl)
                refine pure_ (i := 16) (N := some 73) (v := ?_) (a' := ?_) (bA 26 131071) rfl rfl (any_of HT_.out (by kernel_rfl)) (fun _ _ _ h => h) (Or.inl ⟨by rfl, ?_⟩) ?_ ?_; rotate_left; (focus intro w'; go_simp; with_reducible rfl); rotate_left; (focus simp only [Act.put, sA, sB, sC, i64_w, i32_w]; rfl)
                refine pure_ (i := 18) (N := some 75) (v := ?_) (a' := ?_) (bA 26 393215) rfl rfl (any_of HT_.out (by kernel_rfl)) (fun _ _ _ h => h) (Or.inl ⟨by rfl, ?_⟩) ?_ ?_; rotate_left; (focus intro w'; go_simp; with_reducible rfl); rotate_left; (focus simp only [Act.put, sA, sB, sC, i64_w, i32_w]; rfl)
                refine pure_ (i := 19) (N := some 76) (v := ?_) (a' := ?_) (bA 26 917503) rfl rfl (any_of HT_.out (by kernel_rfl)) (fun _ _ _ h => h) (Or.inl ⟨by rfl, ?_⟩) ?_ ?_; rotate_left; (focus intro w'; go_simp; with_reducible rfl); rotate_left; (focus simp only [Act.put, sA, sB, sC, i64_w, i32_w]; rfl)
                refine pure_ (i := 20) (N := some 77) (v := ?_) (a' := ?_) (bA 26 1966079) rfl rfl (any_of HT_.out (by kernel_rfl)) (fun _ _ _ h => h) (Or.inl ⟨by rfl, ?_⟩) ?_ ?_; rotate_left; (focus intro w'; go_simp; with_reducible rfl); rotate_left; (focus simp only [Act.put, sA, sB, sC, i64_w, i32_w]; rfl)
                refine pure_ (i := 21) (N := some 78) (v := ?_) (a' := ?_) (bA 26 4063231) rfl rfl (any_of HT_.out (by kernel_rfl)) (fun _ _ _ h => h) (Or.inl ⟨by rfl, ?_⟩) ?_ ?_; rotate_left; (focus intro w'; go_simp; with_reducible rfl); rotate_left; (focus simp only [Act.put, sA, sB, sC, i64_w, i32_w]; rfl)
                refine take_ (i := 17) (N := some 74) (v := ?_) (a' := ?_) (bA 26 4194303) rfl rfl (take_ofW HT_.out HW_.out (by kernel_rfl)) (fun _ _ _ h => h) (Or.inl ⟨by rfl, ?_⟩) hHeld ?_ ?_; rotate_left; (focus rintro w' ⟨s0, s1, s2, s3, s4⟩; go_simp; with_reducible rfl); rotate_left; (focus simp only [Act.put, sA, sB, sC, i64_w, i32_w]; rfl)
                refine take_ (i := 22) (N := some 79) (v := ?_) (a' := ?_) (bA 26 8388607) rfl rfl (take_ofW HT_.out HW_.out (by kernel_rfl)) (fun _ _ _ h => h) (Or.inl ⟨by rfl, ?_⟩) hHeld ?_ ?_; rotate_left; (focus rintro w' ⟨s0, s1, s2, s3, s4⟩; go_simp; with_reducible rfl); rotate_left; (focus simp only [Act.put, sA, sB, sC, i64_w, i32_w]; rfl)
                refine one_ (i := 23) (N := some 80) (bA 26 16777215) rfl rfl (one_of HT_.out (by kernel_rfl)) (by decide) (fun K hK => ?_)
                refine goes_ Try.func15 (by kernel_rfl) rfl #[.agg #[.int .i64 a0_0, .int .i64 a0_1, .slice A0_2 l0_2.length c0_2], .int .i64 x7_3, .int .i64 (rd t287 x5_1)] (by rfl) rfl rfl (by (try simp only [List.map_toArray, List.map_cons, List.map_nil]); first | done | rfl | (simp only [List.length_drop, List.length_take]; rfl)) ?_
                with_reducible refine (dom_Is.calls k3 a0_0 a0_1 _ _ l0_2 x7_3 (rd t287 x5_1) t304 _ ?side1 ?side2 A45.out).mono ?_
                (case side1 => repeat (first | exact (Kd.C_below HR0_2.out HB.out) | (with_reducible refine Kd.C_alloc ?_ _) | (with_reducible refine Kd.C_drewN ?_ _) | (with_reducible refine Kd.C_drew ?_)))
                (case side2 => exact HC0_2.out)
                rintro e w48 ⟨rfl, hb⟩
                have HS3_ := (hb.cell (World.block_lt_of_cell? _ _ (hHeld.2.2.2.1))).trans (hHeld.2.2.2.1)
                have HS4_ := (hb.cell (World.block_lt_of_cell? _ _ (hHeld.2.2.2.2))).trans (hHeld.2.2.2.2)
                refine ⟨_, rfl, ?_⟩
                have n0_ := Aside0.mk (Kd.R_below (by (with_reducible repeat (first | apply Kd.R_alloc | apply Kd.R_drewN | apply Kd.R_drew)); exact HO_3.out) hb)
                have n1_ := Aside0.mk (Kd.R_below (by (with_reducible repeat (first | apply Kd.R_alloc | apply Kd.R_drewN | apply Kd.R_drew)); exact HO_4.out) hb)
                have n2_ := Aside0.mk (Kd.R_below (by (with_reducible repeat (first | apply Kd.R_alloc | apply Kd.R_drewN | apply Kd.R_drew)); exact HO_6.out) hb)
                have n3_ := Aside0.mk (blk_below (g := gb285) (o := .cells #[.int .i64 a0_0, .int .i64 a0_1, .slice A0_2 l0_2.length c0_2] 24 (0, 0)) (by (with_reducible repeat (first | refine blk_drewN ?_ _ | refine blk_drew ?_ | refine blk_alloc ?_ _)); exact BK285.out) hb)
                have n4_ := Aside0.mk (below_step (by repeat (first | (with_reducible first | exact HB.out | apply below_alloc | apply pw_below_drewN | apply below_drew1 | refine below_set ?_ GE285.out) | exact HB.out)) hb)
                clear HO_3
                clear HO_4
                clear HO_6
                clear BK285
                clear HB
                have HO_3 := n0_
                have HO_4 := n1_
                have HO_6 := n2_
                have BK285 := n3_
                have HB := n4_
                clear n0_ n1_ n2_ n3_ n4_
                (try clear hb)
                (try clear hb2)
                (try clear hk)
                (try clear hi)
                refine hK.out _ _ ⟨(blk_cell BK285.out 0).trans rfl, (blk_cell BK285.out 1).trans rfl, (blk_cell BK285.out 2).trans rfl, HS3_, HS4_⟩ (fun hHeld => ?_)
                clear hK K
                refine norm_ (a' := ?_) ?_ ?_; rotate_left; (focus show Act.put _ (some 80) _ = _; simp only [Act.put, sA, sB, sC, i64_w, i32_w]; rfl)
                refine pure_ (i := 24) (N := some 81) (v := ?_) (a' := ?_) (bA 26 33554431) rfl rfl (any_of HT_.out (by kernel_rfl)) (fun _ _ _ h => h) (Or.inl ⟨by rfl, ?_⟩) ?_ ?_; rotate_left; (focus intro w'; go_simp; with_reducible rfl); rotate_left; (focus simp only [Act.put, sA, sB, sC, i64_w, i32_w]; rfl)
                refine pure_ (i := 25) (N := some 82) (v := ?_) (a' := ?_) (bA 26 67108863) rfl rfl (any_of HT_.out (by kernel_rfl)) (fun _ _ _ h => h) (Or.inl ⟨by rfl, ?_⟩) ?_ ?_; rotate_left; (focus intro w'; go_simp; with_reducible rfl); rotate_left; (focus simp only [Act.put, sA, sB, sC, i64_w, i32_w]; rfl)
                refine done_ (done_of HT_.out (by kernel_rfl)) ?_
                try go_wp2
                go_meet
                case rel => exact ⟨_, (!t304), (by first | rfl | (simp; done) | (simp [*]; done)), H', ⟨by have := HK1.out; have := HJ19.out; have := HK3.out; first | omega | exact Nat.le_refl _⟩, ⟨by (with_reducible repeat (first | apply Kd.R_alloc | apply Kd.R_drewN | apply Kd.R_drew)); exact HO_3.out⟩, ⟨by (with_reducible repeat (first | apply Kd.R_alloc | apply Kd.R_drewN | apply Kd.R_drew)); exact HO_4.out⟩, ⟨by (with_reducible repeat (first | apply Kd.R_alloc | apply Kd.R_drewN | apply Kd.R_drew)); exact HO_6.out⟩, ⟨by (with_reducible repeat (first | refine blk_drewN ?_ _ | refine blk_drew ?_ | refine blk_alloc ?_ _)); exact BK285.out⟩, ⟨by repeat (first | (with_reducible first | exact HB.out | apply below_alloc | apply pw_below_drewN | apply below_drew1 | refine below_set ?_ GE285.out) | exact HB.out)⟩⟩
               ·replace c44 := Bool.eq_false_iff.mpr c44
                subst c44
                have H1 : (davitlaw08_DomEdges.j3 k3 t287 t290 x5_1 t295 x7_3 false a0_0 a0_1 l0_2) = some r := by rw [if_neg (show ¬ (false = true) by decide)] at H; exact H
                clear H
                have H := H1
                clear H1
                have H' := Aside0.mk H
                clear H
                try go_wp2
                have n0_ := Aside0.mk (Kd.R_drew HO_3.out)
                have n1_ := Aside0.mk (Kd.R_drew HO_4.out)
                have n2_ := Aside0.mk (Kd.R_drew HO_6.out)
                have n3_ := Aside0.mk (blk_drew BK285.out)
                have n4_ := Aside0.mk (below_drew1 HB.out)
                clear HO_3
                clear HO_4
                clear HO_6
                clear BK285
                clear HB
                have HO_3 := n0_
                have HO_4 := n1_
                have HO_6 := n2_
                have BK285 := n3_
                have HB := n4_
                clear n0_ n1_ n2_ n3_ n4_
                have p301 : 0 ≤ (x5_1 : Int) := of_decide_eq_true (by first | (with_reducible assumption) | assumption)
                have q301 : x5_1 < (t287.length : Int) := of_decide_eq_true (by first | (with_reducible assumption) | assumption)
                obtain ⟨ad301, e301, hx301_0⟩ := Kd.at_int (Kd.R_reads' HO_3.out).2.2 x5_1 p301 q301
                cases e301
                replace p301 := eq_true p301
                replace q301 := eq_true q301
                refine start_ (n := 26) (S := fun w' => w'.cell? ⟨gb285, 0, none⟩ = some (.int .i64 a0_0) ∧ w'.cell? ⟨gb285, 1, none⟩ = some (.int .i64 a0_1) ∧ w'.cell? ⟨gb285, 2, none⟩ = some (.slice A0_2 l0_2.length c0_2) ∧ w'.cell? (ad301.add (x5_1).toNat) = some (.int .i64 (rd t287 x5_1))) (ds := []) (bA 26 0) (by kernel_rfl) rfl rfl ⟨(blk_cell BK285.out 0).trans rfl, (blk_cell BK285.out 1).trans rfl, (blk_cell BK285.out 2).trans rfl, hx301_0⟩ (fun hHeld => ?_); refine with_tabW davitlaw08_DomEdges.tab17 davitlaw08_DomEdges.bits17 (fun HT_ HW_ => ?_)
                generalize wr.drew = w49 at HO_3 HO_4 HO_6 BK285 HB hx301_0 hHeld ⊢
                refine pure_ (i := 0) (N := some 57) (v := ?_) (a' := ?_) (bA 26 1) rfl rfl (any_of HT_.out (by kernel_rfl)) (fun _ _ _ h => h) (Or.inl ⟨by rfl, ?_⟩) ?_ ?_; rotate_left; (focus intro w'; go_simp; with_reducible rfl); rotate_left; (focus simp only [Act.put, sA, sB, sC, i64_w, i32_w]; rfl)
                refine pure_ (i := 1) (N := some 58) (v := ?_) (a' := ?_) (bA 26 3) rfl rfl (any_of HT_.out (by kernel_rfl)) (fun _ _ _ h => h) (Or.inl ⟨by rfl, ?_⟩) ?_ ?_; rotate_left; (focus intro w'; go_simp; with_reducible rfl); rotate_left; (focus simp only [Act.put, sA, sB, sC, i64_w, i32_w]; rfl)
                refine pure_ (i := 2) (N := some 59) (v := ?_) (a' := ?_) (bA 26 7) rfl rfl (any_of HT_.out (by kernel_rfl)) (fun _ _ _ h => h) (Or.inl ⟨by rfl, ?_⟩) ?_ ?_; rotate_left; (focus intro w'; go_simp; with_reducible rfl); rotate_left; (focus simp only [Act.put, sA, sB, sC, i64_w, i32_w]; rfl)
                refine take_ (i := 3) (N := some 60) (v := ?_) (a' := ?_) (bA 26 15) rfl rfl (take_ofW HT_.out HW_.out (by kernel_rfl)) (fun _ _ _ h => h) (Or.inl ⟨by rfl, ?_⟩) hHeld ?_ ?_; rotate_left; (focus rintro w' ⟨s0, s1, s2, s3⟩; go_simp; with_reducible rfl); rotate_left; (focus simp only [Act.put, sA, sB, sC, i64_w, i32_w]; rfl)
                refine pure_ (i := 4) (N := some 61) (v := ?_) (a' := ?_) (bA 26 31) rfl rfl (any_of HT_.out (by kernel_rfl)) (fun _ _ _ h => h) (Or.inl ⟨by rfl, ?_⟩) ?_ ?_; rotate_left; (focus intro w'; go_simp; with_reducible rfl); rotate_left; (focus simp only [Act.put, sA, sB, sC, i64_w, i32_w]; rfl)
                refine pure_ (i := 5) (N := some 62) (v := ?_) (a' := ?_) (bA 26 63) rfl rfl (any_of HT_.out (by kernel_rfl)) (fun _ _ _ h => h) (Or.inl ⟨by rfl, ?_⟩) ?_ ?_; rotate_left; (focus intro w'; go_simp; with_reducible rfl); rotate_left; (focus simp only [Act.put, sA, sB, sC, i64_w, i32_w]; rfl)
                refine pure_ (i := 6) (N := some 63) (v := ?_) (a' := ?_) (bA 26 127) rfl rfl (any_of HT_.out (by kernel_rfl)) (fun _ _ _ h => h) (Or.inl ⟨by rfl, ?_⟩) ?_ ?_; rotate_left; (focus intro w'; go_simp; with_reducible rfl); rotate_left; (focus simp only [Act.put, sA, sB, sC, i64_w, i32_w]; rfl)
                refine pure_ (i := 7) (N := some 64) (v := ?_) (a' := ?_) (bA 26 255) rfl rfl (any_of HT_.out (by kernel_rfl)) (fun _ _ _ h => h) (Or.inl ⟨by rfl, ?_⟩) ?_ ?_; rotate_left; (focus intro w'; go_simp; with_reducible rfl); rotate_left; (focus simp only [Act.put, sA, sB, sC, i64_w, i32_w]; rfl)
                refine pure_ (i := 8) (N := some 65) (v := ?_) (a' := ?_) (bA 26 511) rfl rfl (any_of HT_.out (by kernel_rfl)) (fun _ _ _ h => h) (Or.inl ⟨by rfl, ?_⟩) ?_ ?_; rotate_left; (focus intro w'; go_simp; with_reducible rfl); rotate_left; (focus simp only [Act.put, sA, sB, sC, i64_w, i32_w]; rfl)
                refine pure_ (i := 9) (N := some 66) (v := ?_) (a' := ?_) (bA 26 1023) rfl rfl (any_of HT_.out (by kernel_rfl)) (fun _ _ _ h => h) (Or.inl ⟨by rfl, ?_⟩) ?_ ?_; rotate_left; (focus intro w'; go_simp; with_reducible rfl); rotate_left; (focus simp only [Act.put, sA, sB, sC, i64_w, i32_w]; rfl)
                refine pure_ (i := 10) (N := some 67) (v := ?_) (a' := ?_) (bA 26 2047) rfl rfl (any_of HT_.out (by kernel_rfl)) (fun _ _ _ h => h) (Or.inl ⟨by rfl, ?_⟩) ?_ ?_; rotate_left; (focus intro w'; go_simp; with_reducible rfl); rotate_left; (focus simp only [Act.put, sA, sB, sC, i64_w, i32_w]; rfl)
                refine pure_ (i := 12) (N := some 69) (v := ?_) (a' := ?_) (bA 26 6143) rfl rfl (any_of HT_.out (by kernel_rfl)) (fun _ _ _ h => h) (Or.inl ⟨by rfl, ?_⟩) ?_ ?_; rotate_left; (focus intro w'; go_simp; with_reducible rfl); rotate_left; (focus simp only [Act.put, sA, sB, sC, i64_w, i32_w]; rfl)
                refine pure_ (i := 13) (N := some 70) (v := ?_) (a' := ?_) (bA 26 14335) rfl rfl (any_of HT_.out (by kernel_rfl)) (fun _ _ _ h => h) (Or.inl ⟨by rfl, ?_⟩) ?_ ?_; rotate_left; (focus intro w'; go_simp; with_reducible rfl); rotate_left; (focus simp only [Act.put, sA, sB, sC, i64_w, i32_w]; rfl)
                refine take_ (i := 11) (N := some 68) (v := ?_) (a' := ?_) (bA 26 16383) rfl rfl (take_ofW HT_.out HW_.out (by kernel_rfl)) (fun _ _ _ h => h) (Or.inl ⟨by rfl, ?_⟩) hHeld ?_ ?_; rotate_left; (focus rintro w' ⟨s0, s1, s2, s3⟩; go_simp; with_reducible rfl); rotate_left; (focus simp only [Act.put, sA, sB, sC, i64_w, i32_w]; rfl)
                refine one_ (i := 14) (N := some 71) (bA 26 32767) rfl rfl (one_of HT_.out (by kernel_rfl)) (by decide) (fun K hK => ?_)
                refine goes_ Try.func15 (by kernel_rfl) rfl #[.agg #[.int .i64 a0_0, .int .i64 a0_1, .slice A0_2 l0_2.length c0_2], .int .i64 x7_3, .int .i64 x5_1] (by rfl) rfl rfl (by (try simp only [List.map_toArray, List.map_cons, List.map_nil]); first | done | rfl | (simp only [List.length_drop, List.length_take]; rfl)) ?_
                with_reducible refine (dom_Is.calls k3 a0_0 a0_1 _ _ l0_2 x7_3 x5_1 false _ ?side1 ?side2 A43.out).mono ?_
                (case side1 => repeat (first | exact (Kd.C_below HR0_2.out HB.out) | (with_reducible refine Kd.C_alloc ?_ _) | (with_reducible refine Kd.C_drewN ?_ _) | (with_reducible refine Kd.C_drew ?_)))
                (case side2 => exact HC0_2.out)
                rintro e w50 ⟨rfl, hb⟩
                have HS3_ := (hb.cell (World.block_lt_of_cell? _ _ (hHeld.2.2.2))).trans (hHeld.2.2.2)
                refine ⟨_, rfl, ?_⟩
                have n0_ := Aside0.mk (Kd.R_below (by (with_reducible repeat (first | apply Kd.R_alloc | apply Kd.R_drewN | apply Kd.R_drew)); exact HO_3.out) hb)
                have n1_ := Aside0.mk (Kd.R_below (by (with_reducible repeat (first | apply Kd.R_alloc | apply Kd.R_drewN | apply Kd.R_drew)); exact HO_4.out) hb)
                have n2_ := Aside0.mk (Kd.R_below (by (with_reducible repeat (first | apply Kd.R_alloc | apply Kd.R_drewN | apply Kd.R_drew)); exact HO_6.out) hb)
                have n3_ := Aside0.mk (blk_below (g := gb285) (o := .cells #[.int .i64 a0_0, .int .i64 a0_1, .slice A0_2 l0_2.length c0_2] 24 (0, 0)) (by (with_reducible repeat (first | refine blk_drewN ?_ _ | refine blk_drew ?_ | refine blk_alloc ?_ _)); exact BK285.out) hb)
                have n4_ := Aside0.mk (below_step (by repeat (first | (with_reducible first | exact HB.out | apply below_alloc | apply pw_below_drewN | apply below_drew1 | refine below_set ?_ GE285.out) | exact HB.out)) hb)
                clear HO_3
                clear HO_4
                clear HO_6
                clear BK285
                clear HB
                have HO_3 := n0_
                have HO_4 := n1_
                have HO_6 := n2_
                have BK285 := n3_
                have HB := n4_
                clear n0_ n1_ n2_ n3_ n4_
                (try clear hb)
                (try clear hb2)
                (try clear hk)
                (try clear hi)
                refine hK.out _ _ ⟨(blk_cell BK285.out 0).trans rfl, (blk_cell BK285.out 1).trans rfl, (blk_cell BK285.out 2).trans rfl, HS3_⟩ (fun hHeld => ?_)
                clear hK K
                refine norm_ (a' := ?_) ?_ ?_; rotate_left; (focus show Act.put _ (some 71) _ = _; simp only [Act.put, sA, sB, sC, i64_w, i32_w]; rfl)
                refine pure_ (i := 15) (N := some 72) (v := ?_) (a' := ?_) (bA 26 65535) rfl rfl (any_of HT_.out (by kernel_rfl)) (fun _ _ _ h => h) (Or.inl ⟨by rfl, ?_⟩) ?_ ?_; rotate_left; (focus intro w'; go_simp; with_reducible rfl); rotate_left; (focus simp only [Act.put, sA, sB, sC, i64_w, i32_w]; rfl)
                refine pure_ (i := 16) (N := some 73) (v := ?_) (a' := ?_) (bA 26 131071) rfl rfl (any_of HT_.out (by kernel_rfl)) (fun _ _ _ h => h) (Or.inl ⟨by rfl, ?_⟩) ?_ ?_; rotate_left; (focus intro w'; go_simp; with_reducible rfl); rotate_left; (focus simp only [Act.put, sA, sB, sC, i64_w, i32_w]; rfl)
                refine pure_ (i := 17) (N := some 74) (v := undef) (a' := ?_) (bA 26 262143) rfl rfl (any_of HT_.out (by kernel_rfl)) (fun _ _ _ h => h) (Or.inr ⟨by rfl, rfl⟩) ?_ ?_; rotate_left; (focus simp only [Act.put, sA, sB, sC, i64_w, i32_w]; rfl)
                refine pure_ (i := 18) (N := some 75) (v := undef) (a' := ?_) (bA 26 524287) rfl rfl (any_of HT_.out (by kernel_rfl)) (fun _ _ _ h => h) (Or.inr ⟨by rfl, rfl⟩) ?_ ?_; rotate_left; (focus simp only [Act.put, sA, sB, sC, i64_w, i32_w]; rfl)
                refine pure_ (i := 19) (N := some 76) (v := undef) (a' := ?_) (bA 26 1048575) rfl rfl (any_of HT_.out (by kernel_rfl)) (fun _ _ _ h => h) (Or.inr ⟨by rfl, rfl⟩) ?_ ?_; rotate_left; (focus simp only [Act.put, sA, sB, sC, i64_w, i32_w]; rfl)
                refine pure_ (i := 20) (N := some 77) (v := undef) (a' := ?_) (bA 26 2097151) rfl rfl (any_of HT_.out (by kernel_rfl)) (fun _ _ _ h => h) (Or.inr ⟨by rfl, rfl⟩) ?_ ?_; rotate_left; (focus simp only [Act.put, sA, sB, sC, i64_w, i32_w]; rfl)
                refine pure_ (i := 21) (N := some 78) (v := undef) (a' := ?_) (bA 26 4194303) rfl rfl (any_of HT_.out (by kernel_rfl)) (fun _ _ _ h => h) (Or.inr ⟨by rfl, rfl⟩) ?_ ?_; rotate_left; (focus simp only [Act.put, sA, sB, sC, i64_w, i32_w]; rfl)
                refine pure_ (i := 22) (N := some 79) (v := undef) (a' := ?_) (bA 26 8388607) rfl rfl (any_of HT_.out (by kernel_rfl)) (fun _ _ _ h => h) (Or.inr ⟨by rfl, rfl⟩) ?_ ?_; rotate_left; (focus simp only [Act.put, sA, sB, sC, i64_w, i32_w]; rfl)
                refine pure_ (i := 23) (N := some 80) (v := undef) (a' := ?_) (bA 26 16777215) rfl rfl (any_of HT_.out (by kernel_rfl)) (fun _ _ _ h => h) (Or.inr ⟨by rfl, rfl⟩) ?_ ?_; rotate_left; (focus simp only [Act.put, sA, sB, sC, i64_w, i32_w]; rfl)
                refine pure_ (i := 24) (N := some 81) (v := undef) (a' := ?_) (bA 26 33554431) rfl rfl (any_of HT_.out (by kernel_rfl)) (fun _ _ _ h => h) (Or.inr ⟨by rfl, rfl⟩) ?_ ?_; rotate_left; (focus simp only [Act.put, sA, sB, sC, i64_w, i32_w]; rfl)
                refine pure_ (i := 25) (N := some 82) (v := ?_) (a' := ?_) (bA 26 67108863) rfl rfl (any_of HT_.out (by kernel_rfl)) (fun _ _ _ h => h) (Or.inl ⟨by rfl, ?_⟩) ?_ ?_; rotate_left; (focus intro w'; go_simp; with_reducible rfl); rotate_left; (focus simp only [Act.put, sA, sB, sC, i64_w, i32_w]; rfl)
                refine done_ (done_of HT_.out (by kernel_rfl)) ?_
                try go_wp2
                go_meet
                case rel => exact ⟨_, (false), (by first | rfl | (simp; done) | (simp [*]; done)), H', ⟨by have := HK1.out; have := HJ19.out; have := HK3.out; first | omega | exact Nat.le_refl _⟩, ⟨by (with_reducible repeat (first | apply Kd.R_alloc | apply Kd.R_drewN | apply Kd.R_drew)); exact HO_3.out⟩, ⟨by (with_reducible repeat (first | apply Kd.R_alloc | apply Kd.R_drewN | apply Kd.R_drew)); exact HO_4.out⟩, ⟨by (with_reducible repeat (first | apply Kd.R_alloc | apply Kd.R_drewN | apply Kd.R_drew)); exact HO_6.out⟩, ⟨by (with_reducible repeat (first | refine blk_drewN ?_ _ | refine blk_drew ?_ | refine blk_alloc ?_ _)); exact BK285.out⟩, ⟨by repeat (first | (with_reducible first | exact HB.out | apply below_alloc | apply pw_below_drewN | apply below_drew1 | refine below_set ?_ GE285.out) | exact HB.out)⟩⟩
             ·rw [if_neg c40] at H
              have c40b0 : decide (0 ≤ (rd t287 x5_1)) = false := decide_eq_false c40
              clear c40
              have H' := Aside0.mk H
              clear H
              try go_wp2
              have n0_ := Aside0.mk (Kd.R_drew HO_3.out)
              have n1_ := Aside0.mk (Kd.R_drew HO_4.out)
              have n2_ := Aside0.mk (Kd.R_drew HO_6.out)
              have n3_ := Aside0.mk (blk_drew BK285.out)
              have n4_ := Aside0.mk (below_drew1 HB.out)
              clear HO_3
              clear HO_4
              clear HO_6
              clear BK285
              clear HB
              have HO_3 := n0_
              have HO_4 := n1_
              have HO_6 := n2_
              have BK285 := n3_
              have HB := n4_
              clear n0_ n1_ n2_ n3_ n4_
              have p301 : 0 ≤ (x5_1 : Int) := of_decide_eq_true (by first | (with_reducible assumption) | assumption)
              have q301 : x5_1 < (t287.length : Int) := of_decide_eq_true (by first | (with_reducible assumption) | assumption)
              obtain ⟨ad301, e301, hx301_0⟩ := Kd.at_int (Kd.R_reads' HO_3.out).2.2 x5_1 p301 q301
              cases e301
              replace p301 := eq_true p301
              replace q301 := eq_true q301
              refine start_ (n := 26) (S := fun w' => w'.cell? (ad301.add (x5_1).toNat) = some (.int .i64 (rd t287 x5_1))) (ds := []) (bA 26 0) (by kernel_rfl) rfl rfl (hx301_0) (fun hHeld => ?_); refine with_tabW davitlaw08_DomEdges.tab17 davitlaw08_DomEdges.bits17 (fun HT_ HW_ => ?_)
              generalize wr.drew = w51 at HO_3 HO_4 HO_6 BK285 HB hx301_0 hHeld ⊢
              refine pure_ (i := 0) (N := some 57) (v := ?_) (a' := ?_) (bA 26 1) rfl rfl (any_of HT_.out (by kernel_rfl)) (fun _ _ _ h => h) (Or.inl ⟨by rfl, ?_⟩) ?_ ?_; rotate_left; (focus intro w'; go_simp; with_reducible rfl); rotate_left; (focus simp only [Act.put, sA, sB, sC, i64_w, i32_w]; rfl)
              refine pure_ (i := 1) (N := some 58) (v := ?_) (a' := ?_) (bA 26 3) rfl rfl (any_of HT_.out (by kernel_rfl)) (fun _ _ _ h => h) (Or.inl ⟨by rfl, ?_⟩) ?_ ?_; rotate_left; (focus intro w'; go_simp; with_reducible rfl); rotate_left; (focus simp only [Act.put, sA, sB, sC, i64_w, i32_w]; rfl)
              refine pure_ (i := 2) (N := some 59) (v := ?_) (a' := ?_) (bA 26 7) rfl rfl (any_of HT_.out (by kernel_rfl)) (fun _ _ _ h => h) (Or.inl ⟨by rfl, ?_⟩) ?_ ?_; rotate_left; (focus intro w'; go_simp; with_reducible rfl); rotate_left; (focus simp only [Act.put, sA, sB, sC, i64_w, i32_w]; rfl)
              refine take_ (i := 3) (N := some 60) (v := ?_) (a' := ?_) (bA 26 15) rfl rfl (take_ofW HT_.out HW_.out (by kernel_rfl)) (fun _ _ _ h => h) (Or.inl ⟨by rfl, ?_⟩) hHeld ?_ ?_; rotate_left; (focus intro w' s0; go_simp; with_reducible rfl); rotate_left; (focus simp only [Act.put, sA, sB, sC, i64_w, i32_w]; rfl)
              refine pure_ (i := 4) (N := some 61) (v := ?_) (a' := ?_) (bA 26 31) rfl rfl (any_of HT_.out (by kernel_rfl)) (fun _ _ _ h => h) (Or.inl ⟨by rfl, ?_⟩) ?_ ?_; rotate_left; (focus intro w'; go_simp; with_reducible rfl); rotate_left; (focus simp only [Act.put, sA, sB, sC, i64_w, i32_w]; rfl)
              refine pure_ (i := 5) (N := some 62) (v := ?_) (a' := ?_) (bA 26 63) rfl rfl (any_of HT_.out (by kernel_rfl)) (fun _ _ _ h => h) (Or.inl ⟨by rfl, ?_⟩) ?_ ?_; rotate_left; (focus intro w'; go_simp; with_reducible rfl); rotate_left; (focus simp only [Act.put, sA, sB, sC, i64_w, i32_w]; rfl)
              refine pure_ (i := 6) (N := some 63) (v := undef) (a' := ?_) (bA 26 127) rfl rfl (any_of HT_.out (by kernel_rfl)) (fun _ _ _ h => h) (Or.inr ⟨by rfl, rfl⟩) ?_ ?_; rotate_left; (focus simp only [Act.put, sA, sB, sC, i64_w, i32_w]; rfl)
              refine pure_ (i := 7) (N := some 64) (v := undef) (a' := ?_) (bA 26 255) rfl rfl (any_of HT_.out (by kernel_rfl)) (fun _ _ _ h => h) (Or.inr ⟨by rfl, rfl⟩) ?_ ?_; rotate_left; (focus simp only [Act.put, sA, sB, sC, i64_w, i32_w]; rfl)
              refine pure_ (i := 8) (N := some 65) (v := undef) (a' := ?_) (bA 26 511) rfl rfl (any_of HT_.out (by kernel_rfl)) (fun _ _ _ h => h) (Or.inr ⟨by rfl, rfl⟩) ?_ ?_; rotate_left; (focus simp only [Act.put, sA, sB, sC, i64_w, i32_w]; rfl)
              refine pure_ (i := 9) (N := some 66) (v := ?_) (a' := ?_) (bA 26 1023) rfl rfl (any_of HT_.out (by kernel_rfl)) (fun _ _ _ h => h) (Or.inl ⟨by rfl, ?_⟩) ?_ ?_; rotate_left; (focus intro w'; go_simp; with_reducible rfl); rotate_left; (focus simp only [Act.put, sA, sB, sC, i64_w, i32_w]; rfl)
              refine pure_ (i := 10) (N := some 67) (v := ?_) (a' := ?_) (bA 26 2047) rfl rfl (any_of HT_.out (by kernel_rfl)) (fun _ _ _ h => h) (Or.inl ⟨by rfl, ?_⟩) ?_ ?_; rotate_left; (focus intro w'; go_simp; with_reducible rfl); rotate_left; (focus simp only [Act.put, sA, sB, sC, i64_w, i32_w]; rfl)
              refine pure_ (i := 11) (N := some 68) (v := undef) (a' := ?_) (bA 26 4095) rfl rfl (any_of HT_.out (by kernel_rfl)) (fun _ _ _ h => h) (Or.inr ⟨by rfl, rfl⟩) ?_ ?_; rotate_left; (focus simp only [Act.put, sA, sB, sC, i64_w, i32_w]; rfl)
              refine pure_ (i := 12) (N := some 69) (v := undef) (a' := ?_) (bA 26 8191) rfl rfl (any_of HT_.out (by kernel_rfl)) (fun _ _ _ h => h) (Or.inr ⟨by rfl, rfl⟩) ?_ ?_; rotate_left; (focus simp only [Act.put, sA, sB, sC, i64_w, i32_w]; rfl)
              refine pure_ (i := 13) (N := some 70) (v := undef) (a' := ?_) (bA 26 16383) rfl rfl (any_of HT_.out (by kernel_rfl)) (fun _ _ _ h => h) (Or.inr ⟨by rfl, rfl⟩) ?_ ?_; rotate_left; (focus simp only [Act.put, sA, sB, sC, i64_w, i32_w]; rfl)
              refine pure_ (i := 14) (N := some 71) (v := undef) (a' := ?_) (bA 26 32767) rfl rfl (any_of HT_.out (by kernel_rfl)) (fun _ _ _ h => h) (Or.inr ⟨by rfl, rfl⟩) ?_ ?_; rotate_left; (focus simp only [Act.put, sA, sB, sC, i64_w, i32_w]; rfl)
              refine pure_ (i := 15) (N := some 72) (v := ?_) (a' := ?_) (bA 26 65535) rfl rfl (any_of HT_.out (by kernel_rfl)) (fun _ _ _ h => h) (Or.inl ⟨by rfl, ?_⟩) ?_ ?_; rotate_left; (focus intro w'; go_simp; with_reducible rfl); rotate_left; (focus simp only [Act.put, sA, sB, sC, i64_w, i32_w]; rfl)
              refine pure_ (i := 16) (N := some 73) (v := ?_) (a' := ?_) (bA 26 131071) rfl rfl (any_of HT_.out (by kernel_rfl)) (fun _ _ _ h => h) (Or.inl ⟨by rfl, ?_⟩) ?_ ?_; rotate_left; (focus intro w'; go_simp; with_reducible rfl); rotate_left; (focus simp only [Act.put, sA, sB, sC, i64_w, i32_w]; rfl)
              refine pure_ (i := 17) (N := some 74) (v := undef) (a' := ?_) (bA 26 262143) rfl rfl (any_of HT_.out (by kernel_rfl)) (fun _ _ _ h => h) (Or.inr ⟨by rfl, rfl⟩) ?_ ?_; rotate_left; (focus simp only [Act.put, sA, sB, sC, i64_w, i32_w]; rfl)
              refine pure_ (i := 18) (N := some 75) (v := undef) (a' := ?_) (bA 26 524287) rfl rfl (any_of HT_.out (by kernel_rfl)) (fun _ _ _ h => h) (Or.inr ⟨by rfl, rfl⟩) ?_ ?_; rotate_left; (focus simp only [Act.put, sA, sB, sC, i64_w, i32_w]; rfl)
              refine pure_ (i := 19) (N := some 76) (v := undef) (a' := ?_) (bA 26 1048575) rfl rfl (any_of HT_.out (by kernel_rfl)) (fun _ _ _ h => h) (Or.inr ⟨by rfl, rfl⟩) ?_ ?_; rotate_left; (focus simp only [Act.put, sA, sB, sC, i64_w, i32_w]; rfl)
              refine pure_ (i := 20) (N := some 77) (v := undef) (a' := ?_) (bA 26 2097151) rfl rfl (any_of HT_.out (by kernel_rfl)) (fun _ _ _ h => h) (Or.inr ⟨by rfl, rfl⟩) ?_ ?_; rotate_left; (focus simp only [Act.put, sA, sB, sC, i64_w, i32_w]; rfl)
              refine pure_ (i := 21) (N := some 78) (v := undef) (a' := ?_) (bA 26 4194303) rfl rfl (any_of HT_.out (by kernel_rfl)) (fun _ _ _ h => h) (Or.inr ⟨by rfl, rfl⟩) ?_ ?_; rotate_left; (focus simp only [Act.put, sA, sB, sC, i64_w, i32_w]; rfl)
              refine pure_ (i := 22) (N := some 79) (v := undef) (a' := ?_) (bA 26 8388607) rfl rfl (any_of HT_.out (by kernel_rfl)) (fun _ _ _ h => h) (Or.inr ⟨by rfl, rfl⟩) ?_ ?_; rotate_left; (focus simp only [Act.put, sA, sB, sC, i64_w, i32_w]; rfl)
              refine pure_ (i := 23) (N := some 80) (v := undef) (a' := ?_) (bA 26 16777215) rfl rfl (any_of HT_.out (by kernel_rfl)) (fun _ _ _ h => h) (Or.inr ⟨by rfl, rfl⟩) ?_ ?_; rotate_left; (focus simp only [Act.put, sA, sB, sC, i64_w, i32_w]; rfl)
              refine pure_ (i := 24) (N := some 81) (v := undef) (a' := ?_) (bA 26 33554431) rfl rfl (any_of HT_.out (by kernel_rfl)) (fun _ _ _ h => h) (Or.inr ⟨by rfl, rfl⟩) ?_ ?_; rotate_left; (focus simp only [Act.put, sA, sB, sC, i64_w, i32_w]; rfl)
              refine pure_ (i := 25) (N := some 82) (v := ?_) (a' := ?_) (bA 26 67108863) rfl rfl (any_of HT_.out (by kernel_rfl)) (fun _ _ _ h => h) (Or.inl ⟨by rfl, ?_⟩) ?_ ?_; rotate_left; (focus intro w'; go_simp; with_reducible rfl); rotate_left; (focus simp only [Act.put, sA, sB, sC, i64_w, i32_w]; rfl)
              refine done_ (done_of HT_.out (by kernel_rfl)) ?_
              try go_wp2
              go_meet
              case rel => exact ⟨_, (false), (by first | rfl | (simp; done) | (simp [*]; done)), H', ⟨by have := HK1.out; have := HJ19.out; have := HK3.out; first | omega | exact Nat.le_refl _⟩, ⟨by (with_reducible repeat (first | apply Kd.R_alloc | apply Kd.R_drewN | apply Kd.R_drew)); exact HO_3.out⟩, ⟨by (with_reducible repeat (first | apply Kd.R_alloc | apply Kd.R_drewN | apply Kd.R_drew)); exact HO_4.out⟩, ⟨by (with_reducible repeat (first | apply Kd.R_alloc | apply Kd.R_drewN | apply Kd.R_drew)); exact HO_6.out⟩, ⟨by (with_reducible repeat (first | refine blk_drewN ?_ _ | refine blk_drew ?_ | refine blk_alloc ?_ _)); exact BK285.out⟩, ⟨by repeat (first | (with_reducible first | exact HB.out | apply below_alloc | apply pw_below_drewN | apply below_drew1 | refine below_set ?_ GE285.out) | exact HB.out)⟩⟩
            ·rw [if_neg c39] at H
             exact absurd H (by simp)
           ·rw [if_neg c38] at H
            exact absurd H (by simp)
          case rest =>
           clear HC36
           try clear c1
           try clear p2
           try clear c3
           try clear p3
           try clear q3
           try clear hx3
           try clear c4
           try clear c15
           try clear p30
           try clear q30
           try clear hx30
           try clear c38
           try clear c39
           try clear c40
           try clear c40b0
           try clear c44
           try clear hx301_0
           try clear p301
           try clear q301
           obtain ⟨kq, x82_35, rfl, HA, HJ35, HO_3, HO_4, HO_6, BK285, HB⟩ := hcut
           cases kq with
           | zero => exact absurd HA.out (by simp [davitlaw08_DomEdges.j3])
           | succ kj35 =>
            have H := HA.out
            clear HA
            simp only [davitlaw08_DomEdges.j3] at H
            by_cases c52 : x82_35 = true
            ·subst c52
             have H1 : (some false) = some r := by rw [if_pos rfl] at H; exact H
             clear H
             have H := H1
             clear H1
             obtain rfl := Option.some.inj H
             go_wp2
             go_ret
             exact ⟨by first | rfl | (simp [errW_none, errW_some] <;> rfl) | (simp [*, errW_none, errW_some] <;> rfl), by repeat (first | (with_reducible first | exact HB.out | apply below_alloc | apply pw_below_drewN | apply below_drew1 | refine below_set ?_ GE285.out) | exact HB.out)⟩
            ·replace c52 := Bool.eq_false_iff.mpr c52
             subst c52
             have H1 : ((flow_Next.f a0_0 a0_1 l0_2 x7_3).bind fun t305 => (davitlaw08_DomEdges.l2 kj35 t287 t290 x5_1 t295 x7_3 t305 0 a0_0 a0_1 l0_2)) = some r := by rw [if_neg (show ¬ (false = true) by decide)] at H; exact H
             clear H
             have H := H1
             clear H1
             replace H := Option.bind_eq_some_iff.mp H
             obtain ⟨t305, A530, H⟩ := H
             replace H : (davitlaw08_DomEdges.l2 kj35 t287 t290 x5_1 t295 x7_3 t305 0 a0_0 a0_1 l0_2) = some r := H
             have A53 := Aside0.mk A530
             clear A530
             have H' := Aside0.mk H
             clear H
             have hcz54_0 : wc.cell? ⟨gb285, 0, none⟩ = some (.int .i64 a0_0) := (blk_cell BK285.out 0).trans rfl
             have hcz54_1 : wc.cell? ⟨gb285, 1, none⟩ = some (.int .i64 a0_1) := (blk_cell BK285.out 1).trans rfl
             have hcz54_2 : wc.cell? ⟨gb285, 2, none⟩ = some (.slice A0_2 l0_2.length c0_2) := (blk_cell BK285.out 2).trans rfl
             have hfz54_0 := blk_frozen BK285.out 0
             have hfz54_1 := blk_frozen BK285.out 1
             have hfz54_2 := blk_frozen BK285.out 2
             go_wp2_with (first | ((with_reducible refine gate_callee (f := 20) rfl ?_); refine goesL_ (some 85) rfl rfl Try.func20 (by kernel_rfl) rfl #[.agg #[.int .i64 a0_0, .int .i64 a0_1, .slice A0_2 l0_2.length c0_2], .int .i64 x7_3] rfl (by (try simp only [List.map_toArray, List.map_cons, List.map_nil]); first | done | rfl | (simp only [List.length_drop, List.length_take]; rfl)) ?_; (with_reducible refine (flow_Next.calls a0_0 a0_1 _ _ l0_2 x7_3 t305 _ ?side1 ?side2 A53.out).mono ?_); (case side1 => repeat (first | exact (Kd.C_below HR0_2.out HB.out) | (with_reducible refine Kd.C_alloc ?_ _) | (with_reducible refine Kd.C_drewN ?_ _) | (with_reducible refine Kd.C_drew ?_))); (case side2 => exact HC0_2.out); rintro e w55 ⟨v306, rfl, ho0, hb⟩; refine ⟨_, rfl, ?_⟩; have n0_ := Aside0.mk (Kd.R_elder' (by (with_reducible repeat (first | apply Kd.R_alloc | apply Kd.R_drewN | apply Kd.R_drew)); exact HO_3.out) (Kd.R_base ho0) hb); have n1_ := Aside0.mk (Kd.R_below (by (with_reducible repeat (first | apply Kd.R_alloc | apply Kd.R_drewN | apply Kd.R_drew)); exact HO_4.out) hb); have n2_ := Aside0.mk (Kd.R_elder' (by (with_reducible repeat (first | apply Kd.R_alloc | apply Kd.R_drewN | apply Kd.R_drew)); exact HO_6.out) (Kd.R_base ho0) hb); have n3_ := Aside0.mk (Kd.R_lower (Kd.R_new' (Kd.R_new' ho0 (Kd.R_lt (by (with_reducible repeat (first | apply Kd.R_alloc | apply Kd.R_drewN | apply Kd.R_drew)); exact HO_3.out))) (Kd.R_lt (by (with_reducible repeat (first | apply Kd.R_alloc | apply Kd.R_drewN | apply Kd.R_drew)); exact HO_6.out))) (below_size (by repeat (first | (with_reducible first | exact HB.out | apply below_alloc | apply pw_below_drewN | apply below_drew1 | refine below_set ?_ GE285.out) | exact HB.out)))); have n4_ := Aside0.mk (blk_below (g := gb285) (o := .cells #[.int .i64 a0_0, .int .i64 a0_1, .slice A0_2 l0_2.length c0_2] 24 (0, 0)) (by (with_reducible repeat (first | refine blk_drewN ?_ _ | refine blk_drew ?_ | refine blk_alloc ?_ _)); exact BK285.out) hb); have n5_ := Aside0.mk (below_step (by repeat (first | (with_reducible first | exact HB.out | apply below_alloc | apply pw_below_drewN | apply below_drew1 | refine below_set ?_ GE285.out) | exact HB.out)) hb); clear HO_3; clear HO_4; clear HO_6; clear BK285; clear HB; have HO_3 := n0_; have HO_4 := n1_; have HO_6 := n2_; have HO307 := n3_; have BK285 := n4_; have HB := n5_; clear n0_ n1_ n2_ n3_ n4_ n5_; (try clear hb); (try clear hb2); (try clear hk); (try clear hi); (try clear ho0)))
             go_loopg [9] kj35 (fun kq v9 w' => ∃ (x9_5 : Int), v9 = .int .i64 x9_5 ∧ Aside0 (davitlaw08_DomEdges.l2 kq t287 t290 x5_1 t295 x7_3 t305 x9_5 a0_0 a0_1 l0_2 = some r) ∧ Aside0 (kq ≤ kj35) ∧ Aside0 (Kd.R (Kd.int .i64) 3 w' w.heap.size (fun k_ => some k_ ≠ (v296 : Value).ownBlock ∧ some k_ ≠ (v306 : Value).ownBlock) (.slice Ao17 t287.length co17) t287) ∧ Aside0 (Kd.R Kd.bool 4 w' w.heap.size (fun _ => True) v291 t290) ∧ Aside0 (Kd.R (Kd.int .i64) 3 w' w.heap.size (fun k_ => some k_ ≠ ((.slice Ao17 t287.length co17) : Value).ownBlock ∧ some k_ ≠ (v306 : Value).ownBlock) v296 t295) ∧ Aside0 (Kd.R (Kd.int .i64) 3 w' w.heap.size (fun k_ => some k_ ≠ ((.slice Ao17 t287.length co17) : Value).ownBlock ∧ some k_ ≠ (v296 : Value).ownBlock) v306 t305) ∧ Aside0 (w'.heap[gb285]? = some (.cells #[.int .i64 a0_0, .int .i64 a0_1, (.slice A0_2 l0_2.length c0_2)] 24 (0, 0))) ∧ Aside0 (Below w.heap.size w w'))
             case atStart => exact ⟨(0), (by first | rfl | (simp; done) | (simp [*]; done)), H', ⟨Nat.le_refl _⟩, ⟨by (with_reducible repeat (first | apply Kd.R_alloc | apply Kd.R_drewN | apply Kd.R_drew)); exact HO_3.out⟩, ⟨by (with_reducible repeat (first | apply Kd.R_alloc | apply Kd.R_drewN | apply Kd.R_drew)); exact HO_4.out⟩, ⟨by (with_reducible repeat (first | apply Kd.R_alloc | apply Kd.R_drewN | apply Kd.R_drew)); exact HO_6.out⟩, ⟨by (with_reducible repeat (first | apply Kd.R_alloc | apply Kd.R_drewN | apply Kd.R_drew)); exact Kd.R_mono HO307.out (fun _ hk => ⟨hk.1.2, hk.2⟩)⟩, ⟨by (with_reducible repeat (first | refine blk_drewN ?_ _ | refine blk_drew ?_ | refine blk_alloc ?_ _)); exact BK285.out⟩, ⟨by repeat (first | (with_reducible first | exact HB.out | apply below_alloc | apply pw_below_drewN | apply below_drew1 | refine below_set ?_ GE285.out) | exact HB.out)⟩⟩
             case round =>
              clear H'
              try clear c1
              try clear c2
              try clear p2
              try clear c3
              try clear p3
              try clear q3
              try clear hx3
              try clear c4
              try clear c5
              try clear c15
              try clear c20
              try clear p30
              try clear q30
              try clear hx30
              try clear c38
              try clear c39
              try clear c40
              try clear c40b0
              try clear c44
              try clear c52
              try clear hcz54_0
              try clear hcz54_1
              try clear hcz54_2
              try clear hfz54_0
              try clear hfz54_1
              try clear hfz54_2
              try clear hx301_0
              try clear p2
              try clear p3
              try clear p30
              try clear p301
              try clear q3
              try clear q30
              try clear q301
              obtain ⟨x9_5, rfl, HA, HK5, HO_3, HO_4, HO_6, HO_8, BK285, HB⟩ := hrel
              cases gk with
              | zero => exact absurd HA.out (by simp [davitlaw08_DomEdges.l2])
              | succ k5 =>
               have H := HA.out
               clear HA
               simp only [davitlaw08_DomEdges.l2] at H
               by_cases c56 : x9_5 < (t305.length : Int)
               ·rw [if_pos c56] at H
                have c56b0 : decide (x9_5 < (t305.length : Int)) = true := decide_eq_true c56
                clear c56
                replace H := Option.bind_eq_some_iff.mp H
                obtain ⟨t308, A570, H⟩ := H
                replace H : (if t308 = true then (if 0 ≤ x9_5 then (if (rd t305 x9_5) = x5_1 then ((davitref07_Has.f k5 t295 (rd t305 x9_5)).bind fun t311 => (if t311 = true then (davitlaw08_DomEdges.l2 k5 t287 t290 x5_1 t295 x7_3 t305 (wrap64 (x9_5 + 1)) a0_0 a0_1 l0_2) else (some false))) else ((dom_Is.f k5 a0_0 a0_1 l0_2 x5_1 (rd t305 x9_5)).bind fun t313 => (if t313 = true then (davitlaw08_DomEdges.l2 k5 t287 t290 x5_1 t295 x7_3 t305 (wrap64 (x9_5 + 1)) a0_0 a0_1 l0_2) else ((davitref07_Has.f k5 t295 (rd t305 x9_5)).bind fun t315 => (if t315 = true then (davitlaw08_DomEdges.l2 k5 t287 t290 x5_1 t295 x7_3 t305 (wrap64 (x9_5 + 1)) a0_0 a0_1 l0_2) else (some false)))))) else (none)) else (davitlaw08_DomEdges.l2 k5 t287 t290 x5_1 t295 x7_3 t305 (wrap64 (x9_5 + 1)) a0_0 a0_1 l0_2)) = some r := H
                have A57 := Aside0.mk A570
                clear A570
                by_cases c58 : t308 = true
                ·subst c58
                 have H1 : (if 0 ≤ x9_5 then (if (rd t305 x9_5) = x5_1 then ((davitref07_Has.f k5 t295 (rd t305 x9_5)).bind fun t311 => (if t311 = true then (davitlaw08_DomEdges.l2 k5 t287 t290 x5_1 t295 x7_3 t305 (wrap64 (x9_5 + 1)) a0_0 a0_1 l0_2) else (some false))) else ((dom_Is.f k5 a0_0 a0_1 l0_2 x5_1 (rd t305 x9_5)).bind fun t313 => (if t313 = true then (davitlaw08_DomEdges.l2 k5 t287 t290 x5_1 t295 x7_3 t305 (wrap64 (x9_5 + 1)) a0_0 a0_1 l0_2) else ((davitref07_Has.f k5 t295 (rd t305 x9_5)).bind fun t315 => (if t315 = true then (davitlaw08_DomEdges.l2 k5 t287 t290 x5_1 t295 x7_3 t305 (wrap64 (x9_5 + 1)) a0_0 a0_1 l0_2) else (some false)))))) else (none)) = some r := by rw [if_pos rfl] at H; exact H
                 clear H
                 have H := H1
                 clear H1
                 by_cases c59 : 0 ≤ x9_5
                 ·rw [if_pos c59] at H
                  have c59b0 : decide (0 ≤ x9_5) = true := decide_eq_true c59
                  clear c59
                  by_cases c60 : (rd t305 x9_5) = x5_1
                  ·rw [if_pos c60] at H
                   have c60b0 : ((rd t305 x9_5) == x5_1) = true := beq_iff_eq.mpr c60
                   have c60b1 : ((rd t305 x9_5) != x5_1) = false := bne_eq_false_iff_eq.mpr c60
                   clear c60
                   replace H := Option.bind_eq_some_iff.mp H
                   obtain ⟨t311, A610, H⟩ := H
                   replace H : (if t311 = true then (davitlaw08_DomEdges.l2 k5 t287 t290 x5_1 t295 x7_3 t305 (wrap64 (x9_5 + 1)) a0_0 a0_1 l0_2) else (some false)) = some r := H
                   have A61 := Aside0.mk A610
                   clear A610
                   by_cases c62 : t311 = true
                   ·subst c62
                    have H1 : (davitlaw08_DomEdges.l2 k5 t287 t290 x5_1 t295 x7_3 t305 (wrap64 (x9_5 + 1)) a0_0 a0_1 l0_2) = some r := by rw [if_pos rfl] at H; exact H
                    clear H
                    have H := H1
                    clear H1
                    have H' := Aside0.mk H
                    clear H
                    obtain ⟨Ao63, co63, eo63⟩ := Kd.R_slice HO_8.out
                    subst eo63
                    try go_wp2
                    have n0_ := Aside0.mk (Kd.R_drew HO_3.out)
                    have n1_ := Aside0.mk (Kd.R_drew HO_4.out)
                    have n2_ := Aside0.mk (Kd.R_drew HO_6.out)
                    have n3_ := Aside0.mk (Kd.R_drew HO_8.out)
                    have n4_ := Aside0.mk (blk_drew BK285.out)
                    have n5_ := Aside0.mk (below_drew1 HB.out)
                    clear HO_3
                    clear HO_4
                    clear HO_6
                    clear HO_8
                    clear BK285
                    clear HB
                    have HO_3 := n0_
                    have HO_4 := n1_
                    have HO_6 := n2_
                    have HO_8 := n3_
                    have BK285 := n4_
                    have HB := n5_
                    clear n0_ n1_ n2_ n3_ n4_ n5_
                    have p309 : 0 ≤ (x9_5 : Int) := of_decide_eq_true (by first | (with_reducible assumption) | assumption)
                    have q309 : x9_5 < (t305.length : Int) := of_decide_eq_true (by first | (with_reducible assumption) | assumption)
                    obtain ⟨ad309, e309, hx309_0⟩ := Kd.at_int (Kd.R_reads' HO_8.out).2.2 x9_5 p309 q309
                    cases e309
                    replace p309 := eq_true p309
                    replace q309 := eq_true q309
                    have p310 : 0 ≤ (x9_5 : Int) := of_decide_eq_true (by first | (with_reducible assumption) | assumption)
                    have q310 : x9_5 < (t305.length : Int) := of_decide_eq_true (by first | (with_reducible assumption) | assumption)
                    obtain ⟨ad310, e310, hx310_0⟩ := Kd.at_int (Kd.R_reads' HO_8.out).2.2 x9_5 p310 q310
                    obtain rfl : ad309 = ad310 := (by injection e310)
                    replace p310 := eq_true p310
                    replace q310 := eq_true q310
                    refine start_ (n := 31) (S := fun w' => w'.cell? ⟨gb285, 0, none⟩ = some (.int .i64 a0_0) ∧ w'.cell? ⟨gb285, 1, none⟩ = some (.int .i64 a0_1) ∧ w'.cell? ⟨gb285, 2, none⟩ = some (.slice A0_2 l0_2.length c0_2) ∧ w'.cell? (ad309.add (x9_5).toNat) = some (.int .i64 (rd t305 x9_5)) ∧ w'.cell? (ad309.add (x9_5).toNat) = some (.int .i64 (rd t305 x9_5))) (ds := []) (bA 31 0) (by kernel_rfl) rfl rfl ⟨(blk_cell BK285.out 0).trans rfl, (blk_cell BK285.out 1).trans rfl, (blk_cell BK285.out 2).trans rfl, hx309_0, hx310_0⟩ (fun hHeld => ?_); refine with_tabW davitlaw08_DomEdges.tab23 davitlaw08_DomEdges.bits23 (fun HT_ HW_ => ?_)
                    generalize wr.drew = w64 at HO_3 HO_4 HO_6 HO_8 BK285 HB hx309_0 hx310_0 hHeld ⊢
                    refine pure_ (i := 1) (N := some 93) (v := ?_) (a' := ?_) (bA 31 2) rfl rfl (any_of HT_.out (by kernel_rfl)) (fun _ _ _ h => h) (Or.inl ⟨by rfl, ?_⟩) ?_ ?_; rotate_left; (focus intro w'; go_simp; with_reducible rfl); rotate_left; (focus simp only [Act.put, sA, sB, sC, i64_w, i32_w]; rfl)
                    refine pure_ (i := 2) (N := some 94) (v := ?_) (a' := ?_) (bA 31 6) rfl rfl (any_of HT_.out (by kernel_rfl)) (fun _ _ _ h => h) (Or.inl ⟨by rfl, ?_⟩) ?_ ?_; rotate_left; (focus intro w'; go_simp; with_reducible rfl); rotate_left; (focus simp only [Act.put, sA, sB, sC, i64_w, i32_w]; rfl)
                    refine take_ (i := 0) (N := some 92) (v := ?_) (a' := ?_) (bA 31 7) rfl rfl (take_ofW HT_.out HW_.out (by kernel_rfl)) (fun _ _ _ h => h) (Or.inl ⟨by rfl, ?_⟩) hHeld ?_ ?_; rotate_left; (focus rintro w' ⟨s0, s1, s2, s3, s4⟩; go_simp; with_reducible rfl); rotate_left; (focus simp only [Act.put, sA, sB, sC, i64_w, i32_w]; rfl)
                    refine one_ (i := 3) (N := some 95) (bA 31 15) rfl rfl (one_of HT_.out (by kernel_rfl)) (by decide) (fun K hK => ?_)
                    refine goes_ Try.func15 (by kernel_rfl) rfl #[.agg #[.int .i64 a0_0, .int .i64 a0_1, .slice A0_2 l0_2.length c0_2], .int .i64 x5_1, .int .i64 x7_3] (by rfl) rfl rfl (by (try simp only [List.map_toArray, List.map_cons, List.map_nil]); first | done | rfl | (simp only [List.length_drop, List.length_take]; rfl)) ?_
                    with_reducible refine (dom_Is.calls k5 a0_0 a0_1 _ _ l0_2 x5_1 x7_3 true _ ?side1 ?side2 A57.out).mono ?_
                    (case side1 => repeat (first | exact (Kd.C_below HR0_2.out HB.out) | (with_reducible refine Kd.C_alloc ?_ _) | (with_reducible refine Kd.C_drewN ?_ _) | (with_reducible refine Kd.C_drew ?_)))
                    (case side2 => exact HC0_2.out)
                    rintro e w65 ⟨rfl, hb⟩
                    have HS3_ := (hb.cell (World.block_lt_of_cell? _ _ (hHeld.2.2.2.1))).trans (hHeld.2.2.2.1)
                    have HS4_ := (hb.cell (World.block_lt_of_cell? _ _ (hHeld.2.2.2.2))).trans (hHeld.2.2.2.2)
                    refine ⟨_, rfl, ?_⟩
                    have n0_ := Aside0.mk (Kd.R_below (by (with_reducible repeat (first | apply Kd.R_alloc | apply Kd.R_drewN | apply Kd.R_drew)); exact HO_3.out) hb)
                    have n1_ := Aside0.mk (Kd.R_below (by (with_reducible repeat (first | apply Kd.R_alloc | apply Kd.R_drewN | apply Kd.R_drew)); exact HO_4.out) hb)
                    have n2_ := Aside0.mk (Kd.R_below (by (with_reducible repeat (first | apply Kd.R_alloc | apply Kd.R_drewN | apply Kd.R_drew)); exact HO_6.out) hb)
                    have n3_ := Aside0.mk (Kd.R_below (by (with_reducible repeat (first | apply Kd.R_alloc | apply Kd.R_drewN | apply Kd.R_drew)); exact HO_8.out) hb)
                    have n4_ := Aside0.mk (blk_below (g := gb285) (o := .cells #[.int .i64 a0_0, .int .i64 a0_1, .slice A0_2 l0_2.length c0_2] 24 (0, 0)) (by (with_reducible repeat (first | refine blk_drewN ?_ _ | refine blk_drew ?_ | refine blk_alloc ?_ _)); exact BK285.out) hb)
                    have n5_ := Aside0.mk (below_step (by repeat (first | (with_reducible first | exact HB.out | apply below_alloc | apply pw_below_drewN | apply below_drew1 | refine below_set ?_ GE285.out) | exact HB.out)) hb)
                    clear HO_3
                    clear HO_4
                    clear HO_6
                    clear HO_8
                    clear BK285
                    clear HB
                    have HO_3 := n0_
                    have HO_4 := n1_
                    have HO_6 := n2_
                    have HO_8 := n3_
                    have BK285 := n4_
                    have HB := n5_
                    clear n0_ n1_ n2_ n3_ n4_ n5_
                    (try clear hb)
                    (try clear hb2)
                    (try clear hk)
                    (try clear hi)
                    obtain ⟨Ao66, co66, eo66⟩ := Kd.R_slice HO_6.out
                    (first | subst eo66 | (injection eo66 with f1_ f2_ f3_; have f4_ := f1_.symm; have f5_ := f3_.symm; clear f1_ f2_ f3_; subst f4_; subst f5_))
                    refine hK.out _ _ ⟨(blk_cell BK285.out 0).trans rfl, (blk_cell BK285.out 1).trans rfl, (blk_cell BK285.out 2).trans rfl, HS3_, HS4_⟩ (fun hHeld => ?_)
                    clear hK K
                    refine norm_ (a' := ?_) ?_ ?_; rotate_left; (focus show Act.put _ (some 95) _ = _; simp only [Act.put, sA, sB, sC, i64_w, i32_w]; rfl)
                    refine pure_ (i := 4) (N := some 96) (v := ?_) (a' := ?_) (bA 31 31) rfl rfl (any_of HT_.out (by kernel_rfl)) (fun _ _ _ h => h) (Or.inl ⟨by rfl, ?_⟩) ?_ ?_; rotate_left; (focus intro w'; go_simp; with_reducible rfl); rotate_left; (focus simp only [Act.put, sA, sB, sC, i64_w, i32_w]; rfl)
                    refine pure_ (i := 5) (N := some 97) (v := ?_) (a' := ?_) (bA 31 63) rfl rfl (any_of HT_.out (by kernel_rfl)) (fun _ _ _ h => h) (Or.inl ⟨by rfl, ?_⟩) ?_ ?_; rotate_left; (focus intro w'; go_simp; with_reducible rfl); rotate_left; (focus simp only [Act.put, sA, sB, sC, i64_w, i32_w]; rfl)
                    refine pure_ (i := 6) (N := some 98) (v := ?_) (a' := ?_) (bA 31 127) rfl rfl (any_of HT_.out (by kernel_rfl)) (fun _ _ _ h => h) (Or.inl ⟨by rfl, ?_⟩) ?_ ?_; rotate_left; (focus intro w'; go_simp; with_reducible rfl); rotate_left; (focus simp only [Act.put, sA, sB, sC, i64_w, i32_w]; rfl)
                    refine pure_ (i := 7) (N := some 99) (v := ?_) (a' := ?_) (bA 31 255) rfl rfl (any_of HT_.out (by kernel_rfl)) (fun _ _ _ h => h) (Or.inl ⟨by rfl, ?_⟩) ?_ ?_; rotate_left; (focus intro w'; go_simp; with_reducible rfl); rotate_left; (focus simp only [Act.put, sA, sB, sC, i64_w, i32_w]; rfl)
                    refine pure_ (i := 9) (N := some 101) (v := ?_) (a' := ?_) (bA 31 767) rfl rfl (any_of HT_.out (by kernel_rfl)) (fun _ _ _ h => h) (Or.inl ⟨by rfl, ?_⟩) ?_ ?_; rotate_left; (focus intro w'; go_simp; with_reducible rfl); rotate_left; (focus simp only [Act.put, sA, sB, sC, i64_w, i32_w]; rfl)
                    refine take_ (i := 8) (N := some 100) (v := ?_) (a' := ?_) (bA 31 1023) rfl rfl (take_ofW HT_.out HW_.out (by kernel_rfl)) (fun _ _ _ h => h) (Or.inl ⟨by rfl, ?_⟩) hHeld ?_ ?_; rotate_left; (focus rintro w' ⟨s0, s1, s2, s3, s4⟩; go_simp; with_reducible rfl); rotate_left; (focus simp only [Act.put, sA, sB, sC, i64_w, i32_w]; rfl)
                    refine pure_ (i := 10) (N := some 102) (v := ?_) (a' := ?_) (bA 31 2047) rfl rfl (any_of HT_.out (by kernel_rfl)) (fun _ _ _ h => h) (Or.inl ⟨by rfl, ?_⟩) ?_ ?_; rotate_left; (focus intro w'; go_simp; with_reducible rfl); rotate_left; (focus simp only [Act.put, sA, sB, sC, i64_w, i32_w]; rfl)
                    refine pure_ (i := 11) (N := some 103) (v := ?_) (a' := ?_) (bA 31 4095) rfl rfl (any_of HT_.out (by kernel_rfl)) (fun _ _ _ h => h) (Or.inl ⟨by rfl, ?_⟩) ?_ ?_; rotate_left; (focus intro w'; go_simp; with_reducible rfl); rotate_left; (focus simp only [Act.put, sA, sB, sC, i64_w, i32_w]; rfl)
                    refine pure_ (i := 12) (N := some 104) (v := undef) (a' := ?_) (bA 31 8191) rfl rfl (any_of HT_.out (by kernel_rfl)) (fun _ _ _ h => h) (Or.inr ⟨by rfl, rfl⟩) ?_ ?_; rotate_left; (focus simp only [Act.put, sA, sB, sC, i64_w, i32_w]; rfl)
                    refine pure_ (i := 13) (N := some 105) (v := undef) (a' := ?_) (bA 31 16383) rfl rfl (any_of HT_.out (by kernel_rfl)) (fun _ _ _ h => h) (Or.inr ⟨by rfl, rfl⟩) ?_ ?_; rotate_left; (focus simp only [Act.put, sA, sB, sC, i64_w, i32_w]; rfl)
                    refine pure_ (i := 14) (N := some 106) (v := undef) (a' := ?_) (bA 31 32767) rfl rfl (any_of HT_.out (by kernel_rfl)) (fun _ _ _ h => h) (Or.inr ⟨by rfl, rfl⟩) ?_ ?_; rotate_left; (focus simp only [Act.put, sA, sB, sC, i64_w, i32_w]; rfl)
                    refine pure_ (i := 15) (N := some 107) (v := undef) (a' := ?_) (bA 31 65535) rfl rfl (any_of HT_.out (by kernel_rfl)) (fun _ _ _ h => h) (Or.inr ⟨by rfl, rfl⟩) ?_ ?_; rotate_left; (focus simp only [Act.put, sA, sB, sC, i64_w, i32_w]; rfl)
                    refine pure_ (i := 16) (N := some 108) (v := undef) (a' := ?_) (bA 31 131071) rfl rfl (any_of HT_.out (by kernel_rfl)) (fun _ _ _ h => h) (Or.inr ⟨by rfl, rfl⟩) ?_ ?_; rotate_left; (focus simp only [Act.put, sA, sB, sC, i64_w, i32_w]; rfl)
                    refine pure_ (i := 17) (N := some 109) (v := undef) (a' := ?_) (bA 31 262143) rfl rfl (any_of HT_.out (by kernel_rfl)) (fun _ _ _ h => h) (Or.inr ⟨by rfl, rfl⟩) ?_ ?_; rotate_left; (focus simp only [Act.put, sA, sB, sC, i64_w, i32_w]; rfl)
                    refine pure_ (i := 18) (N := some 110) (v := undef) (a' := ?_) (bA 31 524287) rfl rfl (any_of HT_.out (by kernel_rfl)) (fun _ _ _ h => h) (Or.inr ⟨by rfl, rfl⟩) ?_ ?_; rotate_left; (focus simp only [Act.put, sA, sB, sC, i64_w, i32_w]; rfl)
                    refine pure_ (i := 19) (N := some 111) (v := undef) (a' := ?_) (bA 31 1048575) rfl rfl (any_of HT_.out (by kernel_rfl)) (fun _ _ _ h => h) (Or.inr ⟨by rfl, rfl⟩) ?_ ?_; rotate_left; (focus simp only [Act.put, sA, sB, sC, i64_w, i32_w]; rfl)
                    refine pure_ (i := 20) (N := some 112) (v := ?_) (a' := ?_) (bA 31 2097151) rfl rfl (any_of HT_.out (by kernel_rfl)) (fun _ _ _ h => h) (Or.inl ⟨by rfl, ?_⟩) ?_ ?_; rotate_left; (focus intro w'; go_simp; with_reducible rfl); rotate_left; (focus simp only [Act.put, sA, sB, sC, i64_w, i32_w]; rfl)
                    refine pure_ (i := 21) (N := some 113) (v := ?_) (a' := ?_) (bA 31 4194303) rfl rfl (any_of HT_.out (by kernel_rfl)) (fun _ _ _ h => h) (Or.inl ⟨by rfl, ?_⟩) ?_ ?_; rotate_left; (focus intro w'; go_simp; with_reducible rfl); rotate_left; (focus simp only [Act.put, sA, sB, sC, i64_w, i32_w]; rfl)
                    refine pure_ (i := 22) (N := some 114) (v := ?_) (a' := ?_) (bA 31 8388607) rfl rfl (any_of HT_.out (by kernel_rfl)) (fun _ _ _ h => h) (Or.inl ⟨by rfl, ?_⟩) ?_ ?_; rotate_left; (focus intro w'; go_simp; with_reducible rfl); rotate_left; (focus simp only [Act.put, sA, sB, sC, i64_w, i32_w]; rfl)
                    refine pure_ (i := 23) (N := some 115) (v := ?_) (a' := ?_) (bA 31 16777215) rfl rfl (any_of HT_.out (by kernel_rfl)) (fun _ _ _ h => h) (Or.inl ⟨by rfl, ?_⟩) ?_ ?_; rotate_left; (focus intro w'; go_simp; with_reducible rfl); rotate_left; (focus simp only [Act.put, sA, sB, sC, i64_w, i32_w]; rfl)
                    refine pure_ (i := 24) (N := some 116) (v := ?_) (a' := ?_) (bA 31 33554431) rfl rfl (any_of HT_.out (by kernel_rfl)) (fun _ _ _ h => h) (Or.inl ⟨by rfl, ?_⟩) ?_ ?_; rotate_left; (focus intro w'; go_simp; with_reducible rfl); rotate_left; (focus simp only [Act.put, sA, sB, sC, i64_w, i32_w]; rfl)
                    refine pure_ (i := 25) (N := some 117) (v := ?_) (a' := ?_) (bA 31 67108863) rfl rfl (any_of HT_.out (by kernel_rfl)) (fun _ _ _ h => h) (Or.inl ⟨by rfl, ?_⟩) ?_ ?_; rotate_left; (focus intro w'; go_simp; with_reducible rfl); rotate_left; (focus simp only [Act.put, sA, sB, sC, i64_w, i32_w]; rfl)
                    refine pure_ (i := 26) (N := some 118) (v := ?_) (a' := ?_) (bA 31 134217727) rfl rfl (any_of HT_.out (by kernel_rfl)) (fun _ _ _ h => h) (Or.inl ⟨by rfl, ?_⟩) ?_ ?_; rotate_left; (focus intro w'; go_simp; with_reducible rfl); rotate_left; (focus simp only [Act.put, sA, sB, sC, i64_w, i32_w]; rfl)
                    refine take_ (i := 27) (N := some 119) (v := ?_) (a' := ?_) (bA 31 268435455) rfl rfl (take_ofW HT_.out HW_.out (by kernel_rfl)) (fun _ _ _ h => h) (Or.inl ⟨by rfl, ?_⟩) hHeld ?_ ?_; rotate_left; (focus rintro w' ⟨s0, s1, s2, s3, s4⟩; go_simp; with_reducible rfl); rotate_left; (focus simp only [Act.put, sA, sB, sC, i64_w, i32_w]; rfl)
                    refine one_ (i := 28) (N := some 120) (bA 31 536870911) rfl rfl (one_of HT_.out (by kernel_rfl)) (by decide) (fun K hK => ?_)
                    refine goes_ Try.func21 (by kernel_rfl) rfl #[.slice Ao66 t295.length co66, .int .i64 (rd t305 x9_5)] (by rfl) rfl rfl (by (try simp only [List.map_toArray, List.map_cons, List.map_nil]); first | done | rfl | (simp only [List.length_drop, List.length_take]; rfl)) ?_
                    with_reducible refine (davitref07_Has.calls k5 _ _ t295 (rd t305 x9_5) true _ ?side1 ?side2 A61.out).mono ?_
                    (case side1 => repeat (first | exact (Kd.R_reads' HO_6.out).2.2 | (with_reducible refine Kd.C_alloc ?_ _) | (with_reducible refine Kd.C_drewN ?_ _) | (with_reducible refine Kd.C_drew ?_)))
                    (case side2 => exact (Kd.R_reads' HO_6.out).2.1)
                    rintro e w' ⟨rfl, ⟨nd, rfl⟩⟩
                    refine ⟨_, rfl, ?_⟩
                    refine hK.out _ _ ⟨(blk_cell BK285.out 0).trans rfl, (blk_cell BK285.out 1).trans rfl, (blk_cell BK285.out 2).trans rfl, hHeld.2.2.2.1, hHeld.2.2.2.2⟩ (fun hHeld => ?_)
                    clear hK K
                    refine norm_ (a' := ?_) ?_ ?_; rotate_left; (focus show Act.put _ (some 120) _ = _; simp only [Act.put, sA, sB, sC, i64_w, i32_w]; rfl)
                    refine pure_ (i := 29) (N := some 121) (v := ?_) (a' := ?_) (bA 31 1073741823) rfl rfl (any_of HT_.out (by kernel_rfl)) (fun _ _ _ h => h) (Or.inl ⟨by rfl, ?_⟩) ?_ ?_; rotate_left; (focus intro w'; go_simp; with_reducible rfl); rotate_left; (focus simp only [Act.put, sA, sB, sC, i64_w, i32_w]; rfl)
                    refine pure_ (i := 30) (N := some 122) (v := ?_) (a' := ?_) (bA 31 2147483647) rfl rfl (any_of HT_.out (by kernel_rfl)) (fun _ _ _ h => h) (Or.inl ⟨by rfl, ?_⟩) ?_ ?_; rotate_left; (focus intro w'; go_simp; with_reducible rfl); rotate_left; (focus simp only [Act.put, sA, sB, sC, i64_w, i32_w]; rfl)
                    refine done_ (done_of HT_.out (by kernel_rfl)) ?_
                    try go_wp2
                    go_roundg k5
                    case measure => have := HK1.out; have := HJ19.out; have := HK3.out; have := HJ35.out; have := HK5.out; omega
                    case rel => exact ⟨(wrap64 (x9_5 + 1)), (by first | rfl | (simp; done) | (simp [*]; done)), H', ⟨by have := HK1.out; have := HJ19.out; have := HK3.out; have := HJ35.out; have := HK5.out; omega⟩, ⟨by (with_reducible repeat (first | apply Kd.R_alloc | apply Kd.R_drewN | apply Kd.R_drew)); exact HO_3.out⟩, ⟨by (with_reducible repeat (first | apply Kd.R_alloc | apply Kd.R_drewN | apply Kd.R_drew)); exact HO_4.out⟩, ⟨by (with_reducible repeat (first | apply Kd.R_alloc | apply Kd.R_drewN | apply Kd.R_drew)); exact HO_6.out⟩, ⟨by (with_reducible repeat (first | apply Kd.R_alloc | apply Kd.R_drewN | apply Kd.R_drew)); exact HO_8.out⟩, ⟨by (with_reducible repeat (first | refine blk_drewN ?_ _ | refine blk_drew ?_ | refine blk_alloc ?_ _)); exact BK285.out⟩, ⟨by repeat (first | (with_reducible first | exact HB.out | apply below_alloc | apply pw_below_drewN | apply below_drew1 | refine below_set ?_ GE285.out) | exact HB.out)⟩⟩
                   ·replace c62 := Bool.eq_false_iff.mpr c62
                    subst c62
                    have H1 : (some false) = some r := by rw [if_neg (show ¬ (false = true) by decide)] at H; exact H
                    clear H
                    have H := H1
                    clear H1
                    obtain rfl := Option.some.inj H
                    obtain ⟨Ao67, co67, eo67⟩ := Kd.R_slice HO_8.out
                    subst eo67
                    try go_wp2
                    have n0_ := Aside0.mk (Kd.R_drew HO_3.out)
                    have n1_ := Aside0.mk (Kd.R_drew HO_4.out)
                    have n2_ := Aside0.mk (Kd.R_drew HO_6.out)
                    have n3_ := Aside0.mk (Kd.R_drew HO_8.out)
                    have n4_ := Aside0.mk (blk_drew BK285.out)
                    have n5_ := Aside0.mk (below_drew1 HB.out)
                    clear HO_3
                    clear HO_4
                    clear HO_6
                    clear HO_8
                    clear BK285
                    clear HB
                    have HO_3 := n0_
                    have HO_4 := n1_
                    have HO_6 := n2_
                    have HO_8 := n3_
                    have BK285 := n4_
                    have HB := n5_
                    clear n0_ n1_ n2_ n3_ n4_ n5_
                    have p309 : 0 ≤ (x9_5 : Int) := of_decide_eq_true (by first | (with_reducible assumption) | assumption)
                    have q309 : x9_5 < (t305.length : Int) := of_decide_eq_true (by first | (with_reducible assumption) | assumption)
                    obtain ⟨ad309, e309, hx309_0⟩ := Kd.at_int (Kd.R_reads' HO_8.out).2.2 x9_5 p309 q309
                    cases e309
                    replace p309 := eq_true p309
                    replace q309 := eq_true q309
                    have p310 : 0 ≤ (x9_5 : Int) := of_decide_eq_true (by first | (with_reducible assumption) | assumption)
                    have q310 : x9_5 < (t305.length : Int) := of_decide_eq_true (by first | (with_reducible assumption) | assumption)
                    obtain ⟨ad310, e310, hx310_0⟩ := Kd.at_int (Kd.R_reads' HO_8.out).2.2 x9_5 p310 q310
                    obtain rfl : ad309 = ad310 := (by injection e310)
                    replace p310 := eq_true p310
                    replace q310 := eq_true q310
                    refine start_ (n := 31) (S := fun w' => w'.cell? ⟨gb285, 0, none⟩ = some (.int .i64 a0_0) ∧ w'.cell? ⟨gb285, 1, none⟩ = some (.int .i64 a0_1) ∧ w'.cell? ⟨gb285, 2, none⟩ = some (.slice A0_2 l0_2.length c0_2) ∧ w'.cell? (ad309.add (x9_5).toNat) = some (.int .i64 (rd t305 x9_5)) ∧ w'.cell? (ad309.add (x9_5).toNat) = some (.int .i64 (rd t305 x9_5))) (ds := []) (bA 31 0) (by kernel_rfl) rfl rfl ⟨(blk_cell BK285.out 0).trans rfl, (blk_cell BK285.out 1).trans rfl, (blk_cell BK285.out 2).trans rfl, hx309_0, hx310_0⟩ (fun hHeld => ?_); refine with_tabW davitlaw08_DomEdges.tab23 davitlaw08_DomEdges.bits23 (fun HT_ HW_ => ?_)
                    generalize wr.drew = w68 at HO_3 HO_4 HO_6 HO_8 BK285 HB hx309_0 hx310_0 hHeld ⊢
                    refine pure_ (i := 1) (N := some 93) (v := ?_) (a' := ?_) (bA 31 2) rfl rfl (any_of HT_.out (by kernel_rfl)) (fun _ _ _ h => h) (Or.inl ⟨by rfl, ?_⟩) ?_ ?_; rotate_left; (focus intro w'; go_simp; with_reducible rfl); rotate_left; (focus simp only [Act.put, sA, sB, sC, i64_w, i32_w]; rfl)
                    refine pure_ (i := 2) (N := some 94) (v := ?_) (a' := ?_) (bA 31 6) rfl rfl (any_of HT_.out (by kernel_rfl)) (fun _ _ _ h => h) (Or.inl ⟨by rfl, ?_⟩) ?_ ?_; rotate_left; (focus intro w'; go_simp; with_reducible rfl); rotate_left; (focus simp only [Act.put, sA, sB, sC, i64_w, i32_w]; rfl)
                    refine take_ (i := 0) (N := some 92) (v := ?_) (a' := ?_) (bA 31 7) rfl rfl (take_ofW HT_.out HW_.out (by kernel_rfl)) (fun _ _ _ h => h) (Or.inl ⟨by rfl, ?_⟩) hHeld ?_ ?_; rotate_left; (focus rintro w' ⟨s0, s1, s2, s3, s4⟩; go_simp; with_reducible rfl); rotate_left; (focus simp only [Act.put, sA, sB, sC, i64_w, i32_w]; rfl)
                    refine one_ (i := 3) (N := some 95) (bA 31 15) rfl rfl (one_of HT_.out (by kernel_rfl)) (by decide) (fun K hK => ?_)
                    refine goes_ Try.func15 (by kernel_rfl) rfl #[.agg #[.int .i64 a0_0, .int .i64 a0_1, .slice A0_2 l0_2.length c0_2], .int .i64 x5_1, .int .i64 x7_3] (by rfl) rfl rfl (by (try simp only [List.map_toArray, List.map_cons, List.map_nil]); first | done | rfl | (simp only [List.length_drop, List.length_take]; rfl)) ?_
                    with_reducible refine (dom_Is.calls k5 a0_0 a0_1 _ _ l0_2 x5_1 x7_3 true _ ?side1 ?side2 A57.out).mono ?_
                    (case side1 => repeat (first | exact (Kd.C_below HR0_2.out HB.out) | (with_reducible refine Kd.C_alloc ?_ _) | (with_reducible refine Kd.C_drewN ?_ _) | (with_reducible refine Kd.C_drew ?_)))
                    (case side2 => exact HC0_2.out)
                    rintro e w69 ⟨rfl, hb⟩
                    have HS3_ := (hb.cell (World.block_lt_of_cell? _ _ (hHeld.2.2.2.1))).trans (hHeld.2.2.2.1)
                    have HS4_ := (hb.cell (World.block_lt_of_cell? _ _ (hHeld.2.2.2.2))).trans (hHeld.2.2.2.2)
                    refine ⟨_, rfl, ?_⟩
                    have n0_ := Aside0.mk (Kd.R_below (by (with_reducible repeat (first | apply Kd.R_alloc | apply Kd.R_drewN | apply Kd.R_drew)); exact HO_3.out) hb)
                    have n1_ := Aside0.mk (Kd.R_below (by (with_reducible repeat (first | apply Kd.R_alloc | apply Kd.R_drewN | apply Kd.R_drew)); exact HO_4.out) hb)
                    have n2_ := Aside0.mk (Kd.R_below (by (with_reducible repeat (first | apply Kd.R_alloc | apply Kd.R_drewN | apply Kd.R_drew)); exact HO_6.out) hb)
                    have n3_ := Aside0.mk (Kd.R_below (by (with_reducible repeat (first | apply Kd.R_alloc | apply Kd.R_drewN | apply Kd.R_drew)); exact HO_8.out) hb)
                    have n4_ := Aside0.mk (blk_below (g := gb285) (o := .cells #[.int .i64 a0_0, .int .i64 a0_1, .slice A0_2 l0_2.length c0_2] 24 (0, 0)) (by (with_reducible repeat (first | refine blk_drewN ?_ _ | refine blk_drew ?_ | refine blk_alloc ?_ _)); exact BK285.out) hb)
                    have n5_ := Aside0.mk (below_step (by repeat (first | (with_reducible first | exact HB.out | apply below_alloc | apply pw_below_drewN | apply below_drew1 | refine below_set ?_ GE285.out) | exact HB.out)) hb)
                    clear HO_3
                    clear HO_4
                    clear HO_6
                    clear HO_8
                    clear BK285
                    clear HB
                    have HO_3 := n0_
                    have HO_4 := n1_
                    have HO_6 := n2_
                    have HO_8 := n3_
                    have BK285 := n4_
                    have HB := n5_
                    clear n0_ n1_ n2_ n3_ n4_ n5_
                    (try clear hb)
                    (try clear hb2)
                    (try clear hk)
                    (try clear hi)
                    obtain ⟨Ao70, co70, eo70⟩ := Kd.R_slice HO_6.out
                    (first | subst eo70 | (injection eo70 with f1_ f2_ f3_; have f4_ := f1_.symm; have f5_ := f3_.symm; clear f1_ f2_ f3_; subst f4_; subst f5_))
                    refine hK.out _ _ ⟨(blk_cell BK285.out 0).trans rfl, (blk_cell BK285.out 1).trans rfl, (blk_cell BK285.out 2).trans rfl, HS3_, HS4_⟩ (fun hHeld => ?_)
                    clear hK K
                    refine norm_ (a' := ?_) ?_ ?_; rotate_left; (focus show Act.put _ (some 95) _ = _; simp only [Act.put, sA, sB, sC, i64_w, i32_w]; rfl)
                    refine pure_ (i := 4) (N := some 96) (v := ?_) (a' := ?_) (bA 31 31) rfl rfl (any_of HT_.out (by kernel_rfl)) (fun _ _ _ h => h) (Or.inl ⟨by rfl, ?_⟩) ?_ ?_; rotate_left; (focus intro w'; go_simp; with_reducible rfl); rotate_left; (focus simp only [Act.put, sA, sB, sC, i64_w, i32_w]; rfl)
                    refine pure_ (i := 5) (N := some 97) (v := ?_) (a' := ?_) (bA 31 63) rfl rfl (any_of HT_.out (by kernel_rfl)) (fun _ _ _ h => h) (Or.inl ⟨by rfl, ?_⟩) ?_ ?_; rotate_left; (focus intro w'; go_simp; with_reducible rfl); rotate_left; (focus simp only [Act.put, sA, sB, sC, i64_w, i32_w]; rfl)
                    refine pure_ (i := 6) (N := some 98) (v := ?_) (a' := ?_) (bA 31 127) rfl rfl (any_of HT_.out (by kernel_rfl)) (fun _ _ _ h => h) (Or.inl ⟨by rfl, ?_⟩) ?_ ?_; rotate_left; (focus intro w'; go_simp; with_reducible rfl); rotate_left; (focus simp only [Act.put, sA, sB, sC, i64_w, i32_w]; rfl)
                    refine pure_ (i := 7) (N := some 99) (v := ?_) (a' := ?_) (bA 31 255) rfl rfl (any_of HT_.out (by kernel_rfl)) (fun _ _ _ h => h) (Or.inl ⟨by rfl, ?_⟩) ?_ ?_; rotate_left; (focus intro w'; go_simp; with_reducible rfl); rotate_left; (focus simp only [Act.put, sA, sB, sC, i64_w, i32_w]; rfl)
                    refine pure_ (i := 9) (N := some 101) (v := ?_) (a' := ?_) (bA 31 767) rfl rfl (any_of HT_.out (by kernel_rfl)) (fun _ _ _ h => h) (Or.inl ⟨by rfl, ?_⟩) ?_ ?_; rotate_left; (focus intro w'; go_simp; with_reducible rfl); rotate_left; (focus simp only [Act.put, sA, sB, sC, i64_w, i32_w]; rfl)
                    refine take_ (i := 8) (N := some 100) (v := ?_) (a' := ?_) (bA 31 1023) rfl rfl (take_ofW HT_.out HW_.out (by kernel_rfl)) (fun _ _ _ h => h) (Or.inl ⟨by rfl, ?_⟩) hHeld ?_ ?_; rotate_left; (focus rintro w' ⟨s0, s1, s2, s3, s4⟩; go_simp; with_reducible rfl); rotate_left; (focus simp only [Act.put, sA, sB, sC, i64_w, i32_w]; rfl)
                    refine pure_ (i := 10) (N := some 102) (v := ?_) (a' := ?_) (bA 31 2047) rfl rfl (any_of HT_.out (by kernel_rfl)) (fun _ _ _ h => h) (Or.inl ⟨by rfl, ?_⟩) ?_ ?_; rotate_left; (focus intro w'; go_simp; with_reducible rfl); rotate_left; (focus simp only [Act.put, sA, sB, sC, i64_w, i32_w]; rfl)
                    refine pure_ (i := 11) (N := some 103) (v := ?_) (a' := ?_) (bA 31 4095) rfl rfl (any_of HT_.out (by kernel_rfl)) (fun _ _ _ h => h) (Or.inl ⟨by rfl, ?_⟩) ?_ ?_; rotate_left; (focus intro w'; go_simp; with_reducible rfl); rotate_left; (focus simp only [Act.put, sA, sB, sC, i64_w, i32_w]; rfl)
                    refine pure_ (i := 12) (N := some 104) (v := undef) (a' := ?_) (bA 31 8191) rfl rfl (any_of HT_.out (by kernel_rfl)) (fun _ _ _ h => h) (Or.inr ⟨by rfl, rfl⟩) ?_ ?_; rotate_left; (focus simp only [Act.put, sA, sB, sC, i64_w, i32_w]; rfl)
                    refine pure_ (i := 13) (N := some 105) (v := undef) (a' := ?_) (bA 31 16383) rfl rfl (any_of HT_.out (by kernel_rfl)) (fun _ _ _ h => h) (Or.inr ⟨by rfl, rfl⟩) ?_ ?_; rotate_left; (focus simp only [Act.put, sA, sB, sC, i64_w, i32_w]; rfl)
                    refine pure_ (i := 14) (N := some 106) (v := undef) (a' := ?_) (bA 31 32767) rfl rfl (any_of HT_.out (by kernel_rfl)) (fun _ _ _ h => h) (Or.inr ⟨by rfl, rfl⟩) ?_ ?_; rotate_left; (focus simp only [Act.put, sA, sB, sC, i64_w, i32_w]; rfl)
                    refine pure_ (i := 15) (N := some 107) (v := undef) (a' := ?_) (bA 31 65535) rfl rfl (any_of HT_.out (by kernel_rfl)) (fun _ _ _ h => h) (Or.inr ⟨by rfl, rfl⟩) ?_ ?_; rotate_left; (focus simp only [Act.put, sA, sB, sC, i64_w, i32_w]; rfl)
                    refine pure_ (i := 16) (N := some 108) (v := undef) (a' := ?_) (bA 31 131071) rfl rfl (any_of HT_.out (by kernel_rfl)) (fun _ _ _ h => h) (Or.inr ⟨by rfl, rfl⟩) ?_ ?_; rotate_left; (focus simp only [Act.put, sA, sB, sC, i64_w, i32_w]; rfl)
                    refine pure_ (i := 17) (N := some 109) (v := undef) (a' := ?_) (bA 31 262143) rfl rfl (any_of HT_.out (by kernel_rfl)) (fun _ _ _ h => h) (Or.inr ⟨by rfl, rfl⟩) ?_ ?_; rotate_left; (focus simp only [Act.put, sA, sB, sC, i64_w, i32_w]; rfl)
                    refine pure_ (i := 18) (N := some 110) (v := undef) (a' := ?_) (bA 31 524287) rfl rfl (any_of HT_.out (by kernel_rfl)) (fun _ _ _ h => h) (Or.inr ⟨by rfl, rfl⟩) ?_ ?_; rotate_left; (focus simp only [Act.put, sA, sB, sC, i64_w, i32_w]; rfl)
                    refine pure_ (i := 19) (N := some 111) (v := undef) (a' := ?_) (bA 31 1048575) rfl rfl (any_of HT_.out (by kernel_rfl)) (fun _ _ _ h => h) (Or.inr ⟨by rfl, rfl⟩) ?_ ?_; rotate_left; (focus simp only [Act.put, sA, sB, sC, i64_w, i32_w]; rfl)
                    refine pure_ (i := 20) (N := some 112) (v := ?_) (a' := ?_) (bA 31 2097151) rfl rfl (any_of HT_.out (by kernel_rfl)) (fun _ _ _ h => h) (Or.inl ⟨by rfl, ?_⟩) ?_ ?_; rotate_left; (focus intro w'; go_simp; with_reducible rfl); rotate_left; (focus simp only [Act.put, sA, sB, sC, i64_w, i32_w]; rfl)
                    refine pure_ (i := 21) (N := some 113) (v := ?_) (a' := ?_) (bA 31 4194303) rfl rfl (any_of HT_.out (by kernel_rfl)) (fun _ _ _ h => h) (Or.inl ⟨by rfl, ?_⟩) ?_ ?_; rotate_left; (focus intro w'; go_simp; with_reducible rfl); rotate_left; (focus simp only [Act.put, sA, sB, sC, i64_w, i32_w]; rfl)
                    refine pure_ (i := 22) (N := some 114) (v := ?_) (a' := ?_) (bA 31 8388607) rfl rfl (any_of HT_.out (by kernel_rfl)) (fun _ _ _ h => h) (Or.inl ⟨by rfl, ?_⟩) ?_ ?_; rotate_left; (focus intro w'; go_simp; with_reducible rfl); rotate_left; (focus simp only [Act.put, sA, sB, sC, i64_w, i32_w]; rfl)
                    refine pure_ (i := 23) (N := some 115) (v := ?_) (a' := ?_) (bA 31 16777215) rfl rfl (any_of HT_.out (by kernel_rfl)) (fun _ _ _ h => h) (Or.inl ⟨by rfl, ?_⟩) ?_ ?_; rotate_left; (focus intro w'; go_simp; with_reducible rfl); rotate_left; (focus simp only [Act.put, sA, sB, sC, i64_w, i32_w]; rfl)
                    refine pure_ (i := 24) (N := some 116) (v := ?_) (a' := ?_) (bA 31 33554431) rfl rfl (any_of HT_.out (by kernel_rfl)) (fun _ _ _ h => h) (Or.inl ⟨by rfl, ?_⟩) ?_ ?_; rotate_left; (focus intro w'; go_simp; with_reducible rfl); rotate_left; (focus simp only [Act.put, sA, sB, sC, i64_w, i32_w]; rfl)
                    refine pure_ (i := 25) (N := some 117) (v := ?_) (a' := ?_) (bA 31 67108863) rfl rfl (any_of HT_.out (by kernel_rfl)) (fun _ _ _ h => h) (Or.inl ⟨by rfl, ?_⟩) ?_ ?_; rotate_left; (focus intro w'; go_simp; with_reducible rfl); rotate_left; (focus simp only [Act.put, sA, sB, sC, i64_w, i32_w]; rfl)
                    refine pure_ (i := 26) (N := some 118) (v := ?_) (a' := ?_) (bA 31 134217727) rfl rfl (any_of HT_.out (by kernel_rfl)) (fun _ _ _ h => h) (Or.inl ⟨by rfl, ?_⟩) ?_ ?_; rotate_left; (focus intro w'; go_simp; with_reducible rfl); rotate_left; (focus simp only [Act.put, sA, sB, sC, i64_w, i32_w]; rfl)
                    refine take_ (i := 27) (N := some 119) (v := ?_) (a' := ?_) (bA 31 268435455) rfl rfl (take_ofW HT_.out HW_.out (by kernel_rfl)) (fun _ _ _ h => h) (Or.inl ⟨by rfl, ?_⟩) hHeld ?_ ?_; rotate_left; (focus rintro w' ⟨s0, s1, s2, s3, s4⟩; go_simp; with_reducible rfl); rotate_left; (focus simp only [Act.put, sA, sB, sC, i64_w, i32_w]; rfl)
                    refine one_ (i := 28) (N := some 120) (bA 31 536870911) rfl rfl (one_of HT_.out (by kernel_rfl)) (by decide) (fun K hK => ?_)
                    refine goes_ Try.func21 (by kernel_rfl) rfl #[.slice Ao70 t295.length co70, .int .i64 (rd t305 x9_5)] (by rfl) rfl rfl (by (try simp only [List.map_toArray, List.map_cons, List.map_nil]); first | done | rfl | (simp only [List.length_drop, List.length_take]; rfl)) ?_
                    with_reducible refine (davitref07_Has.calls k5 _ _ t295 (rd t305 x9_5) false _ ?side1 ?side2 A61.out).mono ?_
                    (case side1 => repeat (first | exact (Kd.R_reads' HO_6.out).2.2 | (with_reducible refine Kd.C_alloc ?_ _) | (with_reducible refine Kd.C_drewN ?_ _) | (with_reducible refine Kd.C_drew ?_)))
                    (case side2 => exact (Kd.R_reads' HO_6.out).2.1)
                    rintro e w' ⟨rfl, ⟨nd, rfl⟩⟩
                    refine ⟨_, rfl, ?_⟩
                    refine hK.out _ _ ⟨(blk_cell BK285.out 0).trans rfl, (blk_cell BK285.out 1).trans rfl, (blk_cell BK285.out 2).trans rfl, hHeld.2.2.2.1, hHeld.2.2.2.2⟩ (fun hHeld => ?_)
                    clear hK K
                    refine norm_ (a' := ?_) ?_ ?_; rotate_left; (focus show Act.put _ (some 120) _ = _; simp only [Act.put, sA, sB, sC, i64_w, i32_w]; rfl)
                    refine pure_ (i := 29) (N := some 121) (v := ?_) (a' := ?_) (bA 31 1073741823) rfl rfl (any_of HT_.out (by kernel_rfl)) (fun _ _ _ h => h) (Or.inl ⟨by rfl, ?_⟩) ?_ ?_; rotate_left; (focus intro w'; go_simp; with_reducible rfl); rotate_left; (focus simp only [Act.put, sA, sB, sC, i64_w, i32_w]; rfl)
                    refine pure_ (i := 30) (N := some 122) (v := ?_) (a' := ?_) (bA 31 2147483647) rfl rfl (any_of HT_.out (by kernel_rfl)) (fun _ _ _ h => h) (Or.inl ⟨by rfl, ?_⟩) ?_ ?_; rotate_left; (focus intro w'; go_simp; with_reducible rfl); rotate_left; (focus simp only [Act.put, sA, sB, sC, i64_w, i32_w]; rfl)
                    refine done_ (done_of HT_.out (by kernel_rfl)) ?_
                    try go_wp2
                    go_ret
                    exact ⟨by first | rfl | (simp [errW_none, errW_some] <;> rfl) | (simp [*, errW_none, errW_some] <;> rfl), by repeat (first | (with_reducible first | exact HB.out | apply below_alloc | apply pw_below_drewN | apply below_drew1 | refine below_set ?_ GE285.out) | exact HB.out)⟩
                  ·rw [if_neg c60] at H
                   have c60b0 : ((rd t305 x9_5) == x5_1) = false := beq_eq_false_iff_ne.mpr c60
                   have c60b1 : ((rd t305 x9_5) != x5_1) = true := bne_iff_ne.mpr c60
                   replace H := Option.bind_eq_some_iff.mp H
                   obtain ⟨t313, A710, H⟩ := H
                   replace H : (if t313 = true then (davitlaw08_DomEdges.l2 k5 t287 t290 x5_1 t295 x7_3 t305 (wrap64 (x9_5 + 1)) a0_0 a0_1 l0_2) else ((davitref07_Has.f k5 t295 (rd t305 x9_5)).bind fun t315 => (if t315 = true then (davitlaw08_DomEdges.l2 k5 t287 t290 x5_1 t295 x7_3 t305 (wrap64 (x9_5 + 1)) a0_0 a0_1 l0_2) else (some false)))) = some r := H
                   have A71 := Aside0.mk A710
                   clear A710
                   by_cases c72 : t313 = true
                   ·subst c72
                    have H1 : (davitlaw08_DomEdges.l2 k5 t287 t290 x5_1 t295 x7_3 t305 (wrap64 (x9_5 + 1)) a0_0 a0_1 l0_2) = some r := by rw [if_pos rfl] at H; exact H
                    clear H
                    have H := H1
                    clear H1
                    have H' := Aside0.mk H
                    clear H
                    obtain ⟨Ao73, co73, eo73⟩ := Kd.R_slice HO_8.out
                    subst eo73
                    try go_wp2
                    have n0_ := Aside0.mk (Kd.R_drew HO_3.out)
                    have n1_ := Aside0.mk (Kd.R_drew HO_4.out)
                    have n2_ := Aside0.mk (Kd.R_drew HO_6.out)
                    have n3_ := Aside0.mk (Kd.R_drew HO_8.out)
                    have n4_ := Aside0.mk (blk_drew BK285.out)
                    have n5_ := Aside0.mk (below_drew1 HB.out)
                    clear HO_3
                    clear HO_4
                    clear HO_6
                    clear HO_8
                    clear BK285
                    clear HB
                    have HO_3 := n0_
                    have HO_4 := n1_
                    have HO_6 := n2_
                    have HO_8 := n3_
                    have BK285 := n4_
                    have HB := n5_
                    clear n0_ n1_ n2_ n3_ n4_ n5_
                    have p309 : 0 ≤ (x9_5 : Int) := of_decide_eq_true (by first | (with_reducible assumption) | assumption)
                    have q309 : x9_5 < (t305.length : Int) := of_decide_eq_true (by first | (with_reducible assumption) | assumption)
                    obtain ⟨ad309, e309, hx309_0⟩ := Kd.at_int (Kd.R_reads' HO_8.out).2.2 x9_5 p309 q309
                    cases e309
                    replace p309 := eq_true p309
                    replace q309 := eq_true q309
                    have p312 : 0 ≤ (x9_5 : Int) := of_decide_eq_true (by first | (with_reducible assumption) | assumption)
                    have q312 : x9_5 < (t305.length : Int) := of_decide_eq_true (by first | (with_reducible assumption) | assumption)
                    obtain ⟨ad312, e312, hx312_0⟩ := Kd.at_int (Kd.R_reads' HO_8.out).2.2 x9_5 p312 q312
                    obtain rfl : ad309 = ad312 := (by injection e312)
                    replace p312 := eq_true p312
                    replace q312 := eq_true q312
                    refine start_ (n := 31) (S := fun w' => w'.cell? ⟨gb285, 0, none⟩ = some (.int .i64 a0_0) ∧ w'.cell? ⟨gb285, 1, none⟩ = some (.int .i64 a0_1) ∧ w'.cell? ⟨gb285, 2, none⟩ = some (.slice A0_2 l0_2.length c0_2) ∧ w'.cell? (ad309.add (x9_5).toNat) = some (.int .i64 (rd t305 x9_5)) ∧ w'.cell? (ad309.add (x9_5).toNat) = some (.int .i64 (rd t305 x9_5))) (ds := []) (bA 31 0) (by kernel_rfl) rfl rfl ⟨(blk_cell BK285.out 0).trans rfl, (blk_cell BK285.out 1).trans rfl, (blk_cell BK285.out 2).trans rfl, hx309_0, hx312_0⟩ (fun hHeld => ?_); refine with_tabW davitlaw08_DomEdges.tab23 davitlaw08_DomEdges.bits23 (fun HT_ HW_ => ?_)
                    generalize wr.drew = w74 at HO_3 HO_4 HO_6 HO_8 BK285 HB hx309_0 hx312_0 hHeld ⊢
                    refine pure_ (i := 1) (N := some 93) (v := ?_) (a' := ?_) (bA 31 2) rfl rfl (any_of HT_.out (by kernel_rfl)) (fun _ _ _ h => h) (Or.inl ⟨by rfl, ?_⟩) ?_ ?_; rotate_left; (focus intro w'; go_simp; with_reducible rfl); rotate_left; (focus simp only [Act.put, sA, sB, sC, i64_w, i32_w]; rfl)
                    refine pure_ (i := 2) (N := some 94) (v := ?_) (a' := ?_) (bA 31 6) rfl rfl (any_of HT_.out (by kernel_rfl)) (fun _ _ _ h => h) (Or.inl ⟨by rfl, ?_⟩) ?_ ?_; rotate_left; (focus intro w'; go_simp; with_reducible rfl); rotate_left; (focus simp only [Act.put, sA, sB, sC, i64_w, i32_w]; rfl)
                    refine take_ (i := 0) (N := some 92) (v := ?_) (a' := ?_) (bA 31 7) rfl rfl (take_ofW HT_.out HW_.out (by kernel_rfl)) (fun _ _ _ h => h) (Or.inl ⟨by rfl, ?_⟩) hHeld ?_ ?_; rotate_left; (focus rintro w' ⟨s0, s1, s2, s3, s4⟩; go_simp; with_reducible rfl); rotate_left; (focus simp only [Act.put, sA, sB, sC, i64_w, i32_w]; rfl)
                    refine one_ (i := 3) (N := some 95) (bA 31 15) rfl rfl (one_of HT_.out (by kernel_rfl)) (by decide) (fun K hK => ?_)
                    refine goes_ Try.func15 (by kernel_rfl) rfl #[.agg #[.int .i64 a0_0, .int .i64 a0_1, .slice A0_2 l0_2.length c0_2], .int .i64 x5_1, .int .i64 x7_3] (by rfl) rfl rfl (by (try simp only [List.map_toArray, List.map_cons, List.map_nil]); first | done | rfl | (simp only [List.length_drop, List.length_take]; rfl)) ?_
                    with_reducible refine (dom_Is.calls k5 a0_0 a0_1 _ _ l0_2 x5_1 x7_3 true _ ?side1 ?side2 A57.out).mono ?_
                    (case side1 => repeat (first | exact (Kd.C_below HR0_2.out HB.out) | (with_reducible refine Kd.C_alloc ?_ _) | (with_reducible refine Kd.C_drewN ?_ _) | (with_reducible refine Kd.C_drew ?_)))
                    (case side2 => exact HC0_2.out)
                    rintro e w75 ⟨rfl, hb⟩
                    have HS3_ := (hb.cell (World.block_lt_of_cell? _ _ (hHeld.2.2.2.1))).trans (hHeld.2.2.2.1)
                    have HS4_ := (hb.cell (World.block_lt_of_cell? _ _ (hHeld.2.2.2.2))).trans (hHeld.2.2.2.2)
                    refine ⟨_, rfl, ?_⟩
                    have n0_ := Aside0.mk (Kd.R_below (by (with_reducible repeat (first | apply Kd.R_alloc | apply Kd.R_drewN | apply Kd.R_drew)); exact HO_3.out) hb)
                    have n1_ := Aside0.mk (Kd.R_below (by (with_reducible repeat (first | apply Kd.R_alloc | apply Kd.R_drewN | apply Kd.R_drew)); exact HO_4.out) hb)
                    have n2_ := Aside0.mk (Kd.R_below (by (with_reducible repeat (first | apply Kd.R_alloc | apply Kd.R_drewN | apply Kd.R_drew)); exact HO_6.out) hb)
                    have n3_ := Aside0.mk (Kd.R_below (by (with_reducible repeat (first | apply Kd.R_alloc | apply Kd.R_drewN | apply Kd.R_drew)); exact HO_8.out) hb)
                    have n4_ := Aside0.mk (blk_below (g := gb285) (o := .cells #[.int .i64 a0_0, .int .i64 a0_1, .slice A0_2 l0_2.length c0_2] 24 (0, 0)) (by (with_reducible repeat (first | refine blk_drewN ?_ _ | refine blk_drew ?_ | refine blk_alloc ?_ _)); exact BK285.out) hb)
                    have n5_ := Aside0.mk (below_step (by repeat (first | (with_reducible first | exact HB.out | apply below_alloc | apply pw_below_drewN | apply below_drew1 | refine below_set ?_ GE285.out) | exact HB.out)) hb)
                    clear HO_3
                    clear HO_4
                    clear HO_6
                    clear HO_8
                    clear BK285
                    clear HB
                    have HO_3 := n0_
                    have HO_4 := n1_
                    have HO_6 := n2_
                    have HO_8 := n3_
                    have BK285 := n4_
                    have HB := n5_
                    clear n0_ n1_ n2_ n3_ n4_ n5_
                    (try clear hb)
                    (try clear hb2)
                    (try clear hk)
                    (try clear hi)
                    refine hK.out _ _ ⟨(blk_cell BK285.out 0).trans rfl, (blk_cell BK285.out 1).trans rfl, (blk_cell BK285.out 2).trans rfl, HS3_, HS4_⟩ (fun hHeld => ?_)
                    clear hK K
                    refine norm_ (a' := ?_) ?_ ?_; rotate_left; (focus show Act.put _ (some 95) _ = _; simp only [Act.put, sA, sB, sC, i64_w, i32_w]; rfl)
                    refine pure_ (i := 4) (N := some 96) (v := ?_) (a' := ?_) (bA 31 31) rfl rfl (any_of HT_.out (by kernel_rfl)) (fun _ _ _ h => h) (Or.inl ⟨by rfl, ?_⟩) ?_ ?_; rotate_left; (focus intro w'; go_simp; with_reducible rfl); rotate_left; (focus simp only [Act.put, sA, sB, sC, i64_w, i32_w]; rfl)
                    refine pure_ (i := 5) (N := some 97) (v := ?_) (a' := ?_) (bA 31 63) rfl rfl (any_of HT_.out (by kernel_rfl)) (fun _ _ _ h => h) (Or.inl ⟨by rfl, ?_⟩) ?_ ?_; rotate_left; (focus intro w'; go_simp; with_reducible rfl); rotate_left; (focus simp only [Act.put, sA, sB, sC, i64_w, i32_w]; rfl)
                    refine pure_ (i := 6) (N := some 98) (v := ?_) (a' := ?_) (bA 31 127) rfl rfl (any_of HT_.out (by kernel_rfl)) (fun _ _ _ h => h) (Or.inl ⟨by rfl, ?_⟩) ?_ ?_; rotate_left; (focus intro w'; go_simp; with_reducible rfl); rotate_left; (focus simp only [Act.put, sA, sB, sC, i64_w, i32_w]; rfl)
                    refine pure_ (i := 7) (N := some 99) (v := ?_) (a' := ?_) (bA 31 255) rfl rfl (any_of HT_.out (by kernel_rfl)) (fun _ _ _ h => h) (Or.inl ⟨by rfl, ?_⟩) ?_ ?_; rotate_left; (focus intro w'; go_simp; with_reducible rfl); rotate_left; (focus simp only [Act.put, sA, sB, sC, i64_w, i32_w]; rfl)
                    refine pure_ (i := 9) (N := some 101) (v := ?_) (a' := ?_) (bA 31 767) rfl rfl (any_of HT_.out (by kernel_rfl)) (fun _ _ _ h => h) (Or.inl ⟨by rfl, ?_⟩) ?_ ?_; rotate_left; (focus intro w'; go_simp; with_reducible rfl); rotate_left; (focus simp only [Act.put, sA, sB, sC, i64_w, i32_w]; rfl)
                    refine take_ (i := 8) (N := some 100) (v := ?_) (a' := ?_) (bA 31 1023) rfl rfl (take_ofW HT_.out HW_.out (by kernel_rfl)) (fun _ _ _ h => h) (Or.inl ⟨by rfl, ?_⟩) hHeld ?_ ?_; rotate_left; (focus rintro w' ⟨s0, s1, s2, s3, s4⟩; go_simp; with_reducible rfl); rotate_left; (focus simp only [Act.put, sA, sB, sC, i64_w, i32_w]; rfl)
                    refine pure_ (i := 10) (N := some 102) (v := ?_) (a' := ?_) (bA 31 2047) rfl rfl (any_of HT_.out (by kernel_rfl)) (fun _ _ _ h => h) (Or.inl ⟨by rfl, ?_⟩) ?_ ?_; rotate_left; (focus intro w'; go_simp; with_reducible rfl); rotate_left; (focus simp only [Act.put, sA, sB, sC, i64_w, i32_w]; rfl)
                    refine pure_ (i := 11) (N := some 103) (v := ?_) (a' := ?_) (bA 31 4095) rfl rfl (any_of HT_.out (by kernel_rfl)) (fun _ _ _ h => h) (Or.inl ⟨by rfl, ?_⟩) ?_ ?_; rotate_left; (focus intro w'; go_simp; with_reducible rfl); rotate_left; (focus simp only [Act.put, sA, sB, sC, i64_w, i32_w]; rfl)
                    refine pure_ (i := 13) (N := some 105) (v := ?_) (a' := ?_) (bA 31 12287) rfl rfl (any_of HT_.out (by kernel_rfl)) (fun _ _ _ h => h) (Or.inl ⟨by rfl, ?_⟩) ?_ ?_; rotate_left; (focus intro w'; go_simp; with_reducible rfl); rotate_left; (focus simp only [Act.put, sA, sB, sC, i64_w, i32_w]; rfl)
                    refine pure_ (i := 14) (N := some 106) (v := ?_) (a' := ?_) (bA 31 28671) rfl rfl (any_of HT_.out (by kernel_rfl)) (fun _ _ _ h => h) (Or.inl ⟨by rfl, ?_⟩) ?_ ?_; rotate_left; (focus intro w'; go_simp; with_reducible rfl); rotate_left; (focus simp only [Act.put, sA, sB, sC, i64_w, i32_w]; rfl)
                    refine pure_ (i := 15) (N := some 107) (v := ?_) (a' := ?_) (bA 31 61439) rfl rfl (any_of HT_.out (by kernel_rfl)) (fun _ _ _ h => h) (Or.inl ⟨by rfl, ?_⟩) ?_ ?_; rotate_left; (focus intro w'; go_simp; with_reducible rfl); rotate_left; (focus simp only [Act.put, sA, sB, sC, i64_w, i32_w]; rfl)
                    refine pure_ (i := 16) (N := some 108) (v := ?_) (a' := ?_) (bA 31 126975) rfl rfl (any_of HT_.out (by kernel_rfl)) (fun _ _ _ h => h) (Or.inl ⟨by rfl, ?_⟩) ?_ ?_; rotate_left; (focus intro w'; go_simp; with_reducible rfl); rotate_left; (focus simp only [Act.put, sA, sB, sC, i64_w, i32_w]; rfl)
                    refine take_ (i := 12) (N := some 104) (v := ?_) (a' := ?_) (bA 31 131071) rfl rfl (take_ofW HT_.out HW_.out (by kernel_rfl)) (fun _ _ _ h => h) (Or.inl ⟨by rfl, ?_⟩) hHeld ?_ ?_; rotate_left; (focus rintro w' ⟨s0, s1, s2, s3, s4⟩; go_simp; with_reducible rfl); rotate_left; (focus simp only [Act.put, sA, sB, sC, i64_w, i32_w]; rfl)
                    refine take_ (i := 17) (N := some 109) (v := ?_) (a' := ?_) (bA 31 262143) rfl rfl (take_ofW HT_.out HW_.out (by kernel_rfl)) (fun _ _ _ h => h) (Or.inl ⟨by rfl, ?_⟩) hHeld ?_ ?_; rotate_left; (focus rintro w' ⟨s0, s1, s2, s3, s4⟩; go_simp; with_reducible rfl); rotate_left; (focus simp only [Act.put, sA, sB, sC, i64_w, i32_w]; rfl)
                    refine one_ (i := 18) (N := some 110) (bA 31 524287) rfl rfl (one_of HT_.out (by kernel_rfl)) (by decide) (fun K hK => ?_)
                    refine goes_ Try.func15 (by kernel_rfl) rfl #[.agg #[.int .i64 a0_0, .int .i64 a0_1, .slice A0_2 l0_2.length c0_2], .int .i64 x5_1, .int .i64 (rd t305 x9_5)] (by rfl) rfl rfl (by (try simp only [List.map_toArray, List.map_cons, List.map_nil]); first | done | rfl | (simp only [List.length_drop, List.length_take]; rfl)) ?_
                    with_reducible refine (dom_Is.calls k5 a0_0 a0_1 _ _ l0_2 x5_1 (rd t305 x9_5) true _ ?side1 ?side2 A71.out).mono ?_
                    (case side1 => repeat (first | exact (Kd.C_below HR0_2.out HB.out) | (with_reducible refine Kd.C_alloc ?_ _) | (with_reducible refine Kd.C_drewN ?_ _) | (with_reducible refine Kd.C_drew ?_)))
                    (case side2 => exact HC0_2.out)
                    rintro e w76 ⟨rfl, hb⟩
                    have HS3_ := (hb.cell (World.block_lt_of_cell? _ _ (hHeld.2.2.2.1))).trans (hHeld.2.2.2.1)
                    have HS4_ := (hb.cell (World.block_lt_of_cell? _ _ (hHeld.2.2.2.2))).trans (hHeld.2.2.2.2)
                    refine ⟨_, rfl, ?_⟩
                    have n0_ := Aside0.mk (Kd.R_below (by (with_reducible repeat (first | apply Kd.R_alloc | apply Kd.R_drewN | apply Kd.R_drew)); exact HO_3.out) hb)
                    have n1_ := Aside0.mk (Kd.R_below (by (with_reducible repeat (first | apply Kd.R_alloc | apply Kd.R_drewN | apply Kd.R_drew)); exact HO_4.out) hb)
                    have n2_ := Aside0.mk (Kd.R_below (by (with_reducible repeat (first | apply Kd.R_alloc | apply Kd.R_drewN | apply Kd.R_drew)); exact HO_6.out) hb)
                    have n3_ := Aside0.mk (Kd.R_below (by (with_reducible repeat (first | apply Kd.R_alloc | apply Kd.R_drewN | apply Kd.R_drew)); exact HO_8.out) hb)
                    have n4_ := Aside0.mk (blk_below (g := gb285) (o := .cells #[.int .i64 a0_0, .int .i64 a0_1, .slice A0_2 l0_2.length c0_2] 24 (0, 0)) (by (with_reducible repeat (first | refine blk_drewN ?_ _ | refine blk_drew ?_ | refine blk_alloc ?_ _)); exact BK285.out) hb)
                    have n5_ := Aside0.mk (below_step (by repeat (first | (with_reducible first | exact HB.out | apply below_alloc | apply pw_below_drewN | apply below_drew1 | refine below_set ?_ GE285.out) | exact HB.out)) hb)
                    clear HO_3
                    clear HO_4
                    clear HO_6
                    clear HO_8
                    clear BK285
                    clear HB
                    have HO_3 := n0_
                    have HO_4 := n1_
                    have HO_6 := n2_
                    have HO_8 := n3_
                    have BK285 := n4_
                    have HB := n5_
                    clear n0_ n1_ n2_ n3_ n4_ n5_
                    (try clear hb)
                    (try clear hb2)
                    (try clear hk)
                    (try clear hi)
                    refine hK.out _ _ ⟨(blk_cell BK285.out 0).trans rfl, (blk_cell BK285.out 1).trans rfl, (blk_cell BK285.out 2).trans rfl, HS3_, HS4_⟩ (fun hHeld => ?_)
                    clear hK K
                    refine norm_ (a' := ?_) ?_ ?_; rotate_left; (focus show Act.put _ (some 110) _ = _; simp only [Act.put, sA, sB, sC, i64_w, i32_w]; rfl)
                    refine pure_ (i := 19) (N := some 111) (v := ?_) (a' := ?_) (bA 31 1048575) rfl rfl (any_of HT_.out (by kernel_rfl)) (fun _ _ _ h => h) (Or.inl ⟨by rfl, ?_⟩) ?_ ?_; rotate_left; (focus intro w'; go_simp; with_reducible rfl); rotate_left; (focus simp only [Act.put, sA, sB, sC, i64_w, i32_w]; rfl)
                    refine pure_ (i := 20) (N := some 112) (v := ?_) (a' := ?_) (bA 31 2097151) rfl rfl (any_of HT_.out (by kernel_rfl)) (fun _ _ _ h => h) (Or.inl ⟨by rfl, ?_⟩) ?_ ?_; rotate_left; (focus intro w'; go_simp; with_reducible rfl); rotate_left; (focus simp only [Act.put, sA, sB, sC, i64_w, i32_w]; rfl)
                    refine pure_ (i := 21) (N := some 113) (v := ?_) (a' := ?_) (bA 31 4194303) rfl rfl (any_of HT_.out (by kernel_rfl)) (fun _ _ _ h => h) (Or.inl ⟨by rfl, ?_⟩) ?_ ?_; rotate_left; (focus intro w'; go_simp; with_reducible rfl); rotate_left; (focus simp only [Act.put, sA, sB, sC, i64_w, i32_w]; rfl)
                    refine pure_ (i := 22) (N := some 114) (v := ?_) (a' := ?_) (bA 31 8388607) rfl rfl (any_of HT_.out (by kernel_rfl)) (fun _ _ _ h => h) (Or.inl ⟨by rfl, ?_⟩) ?_ ?_; rotate_left; (focus intro w'; go_simp; with_reducible rfl); rotate_left; (focus simp only [Act.put, sA, sB, sC, i64_w, i32_w]; rfl)
                    refine pure_ (i := 23) (N := some 115) (v := undef) (a' := ?_) (bA 31 16777215) rfl rfl (any_of HT_.out (by kernel_rfl)) (fun _ _ _ h => h) (Or.inr ⟨by rfl, rfl⟩) ?_ ?_; rotate_left; (focus simp only [Act.put, sA, sB, sC, i64_w, i32_w]; rfl)
                    refine pure_ (i := 24) (N := some 116) (v := undef) (a' := ?_) (bA 31 33554431) rfl rfl (any_of HT_.out (by kernel_rfl)) (fun _ _ _ h => h) (Or.inr ⟨by rfl, rfl⟩) ?_ ?_; rotate_left; (focus simp only [Act.put, sA, sB, sC, i64_w, i32_w]; rfl)
                    refine pure_ (i := 25) (N := some 117) (v := undef) (a' := ?_) (bA 31 67108863) rfl rfl (any_of HT_.out (by kernel_rfl)) (fun _ _ _ h => h) (Or.inr ⟨by rfl, rfl⟩) ?_ ?_; rotate_left; (focus simp only [Act.put, sA, sB, sC, i64_w, i32_w]; rfl)
                    refine pure_ (i := 26) (N := some 118) (v := undef) (a' := ?_) (bA 31 134217727) rfl rfl (any_of HT_.out (by kernel_rfl)) (fun _ _ _ h => h) (Or.inr ⟨by rfl, rfl⟩) ?_ ?_; rotate_left; (focus simp only [Act.put, sA, sB, sC, i64_w, i32_w]; rfl)
                    refine pure_ (i := 27) (N := some 119) (v := undef) (a' := ?_) (bA 31 268435455) rfl rfl (any_of HT_.out (by kernel_rfl)) (fun _ _ _ h => h) (Or.inr ⟨by rfl, rfl⟩) ?_ ?_; rotate_left; (focus simp only [Act.put, sA, sB, sC, i64_w, i32_w]; rfl)
                    refine pure_ (i := 28) (N := some 120) (v := undef) (a' := ?_) (bA 31 536870911) rfl rfl (any_of HT_.out (by kernel_rfl)) (fun _ _ _ h => h) (Or.inr ⟨by rfl, rfl⟩) ?_ ?_; rotate_left; (focus simp only [Act.put, sA, sB, sC, i64_w, i32_w]; rfl)
                    refine pure_ (i := 29) (N := some 121) (v := undef) (a' := ?_) (bA 31 1073741823) rfl rfl (any_of HT_.out (by kernel_rfl)) (fun _ _ _ h => h) (Or.inr ⟨by rfl, rfl⟩) ?_ ?_; rotate_left; (focus simp only [Act.put, sA, sB, sC, i64_w, i32_w]; rfl)
                    refine pure_ (i := 30) (N := some 122) (v := ?_) (a' := ?_) (bA 31 2147483647) rfl rfl (any_of HT_.out (by kernel_rfl)) (fun _ _ _ h => h) (Or.inl ⟨by rfl, ?_⟩) ?_ ?_; rotate_left; (focus intro w'; go_simp; with_reducible rfl); rotate_left; (focus simp only [Act.put, sA, sB, sC, i64_w, i32_w]; rfl)
                    refine done_ (done_of HT_.out (by kernel_rfl)) ?_
                    try go_wp2
                    go_roundg k5
                    case measure => have := HK1.out; have := HJ19.out; have := HK3.out; have := HJ35.out; have := HK5.out; omega
                    case rel => exact ⟨(wrap64 (x9_5 + 1)), (by first | rfl | (simp; done) | (simp [*]; done)), H', ⟨by have := HK1.out; have := HJ19.out; have := HK3.out; have := HJ35.out; have := HK5.out; omega⟩, ⟨by (with_reducible repeat (first | apply Kd.R_alloc | apply Kd.R_drewN | apply Kd.R_drew)); exact HO_3.out⟩, ⟨by (with_reducible repeat (first | apply Kd.R_alloc | apply Kd.R_drewN | apply Kd.R_drew)); exact HO_4.out⟩, ⟨by (with_reducible repeat (first | apply Kd.R_alloc | apply Kd.R_drewN | apply Kd.R_drew)); exact HO_6.out⟩, ⟨by (with_reducible repeat (first | apply Kd.R_alloc | apply Kd.R_drewN | apply Kd.R_drew)); exact HO_8.out⟩, ⟨by (with_reducible repeat (first | refine blk_drewN ?_ _ | refine blk_drew ?_ | refine blk_alloc ?_ _)); exact BK285.out⟩, ⟨by repeat (first | (with_reducible first | exact HB.out | apply below_alloc | apply pw_below_drewN | apply below_drew1 | refine below_set ?_ GE285.out) | exact HB.out)⟩⟩
                   ·replace c72 := Bool.eq_false_iff.mpr c72
                    subst c72
                    have H1 : ((davitref07_Has.f k5 t295 (rd t305 x9_5)).bind fun t315 => (if t315 = true then (davitlaw08_DomEdges.l2 k5 t287 t290 x5_1 t295 x7_3 t305 (wrap64 (x9_5 + 1)) a0_0 a0_1 l0_2) else (some false))) = some r := by rw [if_neg (show ¬ (false = true) by decide)] at H; exact H
                    clear H
                    have H := H1
                    clear H1
                    replace H := Option.bind_eq_some_iff.mp H
                    obtain ⟨t315, A770, H⟩ := H
                    replace H : (if t315 = true then (davitlaw08_DomEdges.l2 k5 t287 t290 x5_1 t295 x7_3 t305 (wrap64 (x9_5 + 1)) a0_0 a0_1 l0_2) else (some false)) = some r := H
                    have A77 := Aside0.mk A770
                    clear A770
                    by_cases c78 : t315 = true
                    ·subst c78
                     have H1 : (davitlaw08_DomEdges.l2 k5 t287 t290 x5_1 t295 x7_3 t305 (wrap64 (x9_5 + 1)) a0_0 a0_1 l0_2) = some r := by rw [if_pos rfl] at H; exact H
                     clear H
                     have H := H1
                     clear H1
                     have H' := Aside0.mk H
                     clear H
                     obtain ⟨Ao79, co79, eo79⟩ := Kd.R_slice HO_8.out
                     subst eo79
                     try go_wp2
                     have n0_ := Aside0.mk (Kd.R_drew HO_3.out)
                     have n1_ := Aside0.mk (Kd.R_drew HO_4.out)
                     have n2_ := Aside0.mk (Kd.R_drew HO_6.out)
                     have n3_ := Aside0.mk (Kd.R_drew HO_8.out)
                     have n4_ := Aside0.mk (blk_drew BK285.out)
                     have n5_ := Aside0.mk (below_drew1 HB.out)
                     clear HO_3
                     clear HO_4
                     clear HO_6
                     clear HO_8
                     clear BK285
                     clear HB
                     have HO_3 := n0_
                     have HO_4 := n1_
                     have HO_6 := n2_
                     have HO_8 := n3_
                     have BK285 := n4_
                     have HB := n5_
                     clear n0_ n1_ n2_ n3_ n4_ n5_
                     have p309 : 0 ≤ (x9_5 : Int) := of_decide_eq_true (by first | (with_reducible assumption) | assumption)
                     have q309 : x9_5 < (t305.length : Int) := of_decide_eq_true (by first | (with_reducible assumption) | assumption)
                     obtain ⟨ad309, e309, hx309_0⟩ := Kd.at_int (Kd.R_reads' HO_8.out).2.2 x9_5 p309 q309
                     cases e309
                     replace p309 := eq_true p309
                     replace q309 := eq_true q309
                     have p312 : 0 ≤ (x9_5 : Int) := of_decide_eq_true (by first | (with_reducible assumption) | assumption)
                     have q312 : x9_5 < (t305.length : Int) := of_decide_eq_true (by first | (with_reducible assumption) | assumption)
                     obtain ⟨ad312, e312, hx312_0⟩ := Kd.at_int (Kd.R_reads' HO_8.out).2.2 x9_5 p312 q312
                     obtain rfl : ad309 = ad312 := (by injection e312)
                     replace p312 := eq_true p312
                     replace q312 := eq_true q312
                     have p314 : 0 ≤ (x9_5 : Int) := of_decide_eq_true (by first | (with_reducible assumption) | assumption)
                     have q314 : x9_5 < (t305.length : Int) := of_decide_eq_true (by first | (with_reducible assumption) | assumption)
                     obtain ⟨ad314, e314, hx314_0⟩ := Kd.at_int (Kd.R_reads' HO_8.out).2.2 x9_5 p314 q314
                     obtain rfl : ad309 = ad314 := (by injection e314)
                     replace p314 := eq_true p314
                     replace q314 := eq_true q314
                     refine start_ (n := 31) (S := fun w' => w'.cell? ⟨gb285, 0, none⟩ = some (.int .i64 a0_0) ∧ w'.cell? ⟨gb285, 1, none⟩ = some (.int .i64 a0_1) ∧ w'.cell? ⟨gb285, 2, none⟩ = some (.slice A0_2 l0_2.length c0_2) ∧ w'.cell? (ad309.add (x9_5).toNat) = some (.int .i64 (rd t305 x9_5)) ∧ w'.cell? (ad309.add (x9_5).toNat) = some (.int .i64 (rd t305 x9_5)) ∧ w'.cell? (ad309.add (x9_5).toNat) = some (.int .i64 (rd t305 x9_5))) (ds := []) (bA 31 0) (by kernel_rfl) rfl rfl ⟨(blk_cell BK285.out 0).trans rfl, (blk_cell BK285.out 1).trans rfl, (blk_cell BK285.out 2).trans rfl, hx309_0, hx312_0, hx314_0⟩ (fun hHeld => ?_); refine with_tabW davitlaw08_DomEdges.tab23 davitlaw08_DomEdges.bits23 (fun HT_ HW_ => ?_)
                     generalize wr.drew = w80 at HO_3 HO_4 HO_6 HO_8 BK285 HB hx309_0 hx312_0 hx314_0 hHeld ⊢
                     refine pure_ (i := 1) (N := some 93) (v := ?_) (a' := ?_) (bA 31 2) rfl rfl (any_of HT_.out (by kernel_rfl)) (fun _ _ _ h => h) (Or.inl ⟨by rfl, ?_⟩) ?_ ?_; rotate_left; (focus intro w'; go_simp; with_reducible rfl); rotate_left; (focus simp only [Act.put, sA, sB, sC, i64_w, i32_w]; rfl)
                     refine pure_ (i := 2) (N := some 94) (v := ?_) (a' := ?_) (bA 31 6) rfl rfl (any_of HT_.out (by kernel_rfl)) (fun _ _ _ h => h) (Or.inl ⟨by rfl, ?_⟩) ?_ ?_; rotate_left; (focus intro w'; go_simp; with_reducible rfl); rotate_left; (focus simp only [Act.put, sA, sB, sC, i64_w, i32_w]; rfl)
                     refine take_ (i := 0) (N := some 92) (v := ?_) (a' := ?_) (bA 31 7) rfl rfl (take_ofW HT_.out HW_.out (by kernel_rfl)) (fun _ _ _ h => h) (Or.inl ⟨by rfl, ?_⟩) hHeld ?_ ?_; rotate_left; (focus rintro w' ⟨s0, s1, s2, s3, s4, s5⟩; go_simp; with_reducible rfl); rotate_left; (focus simp only [Act.put, sA, sB, sC, i64_w, i32_w]; rfl)
                     refine one_ (i := 3) (N := some 95) (bA 31 15) rfl rfl (one_of HT_.out (by kernel_rfl)) (by decide) (fun K hK => ?_)
                     refine goes_ Try.func15 (by kernel_rfl) rfl #[.agg #[.int .i64 a0_0, .int .i64 a0_1, .slice A0_2 l0_2.length c0_2], .int .i64 x5_1, .int .i64 x7_3] (by rfl) rfl rfl (by (try simp only [List.map_toArray, List.map_cons, List.map_nil]); first | done | rfl | (simp only [List.length_drop, List.length_take]; rfl)) ?_
                     with_reducible refine (dom_Is.calls k5 a0_0 a0_1 _ _ l0_2 x5_1 x7_3 true _ ?side1 ?side2 A57.out).mono ?_
                     (case side1 => repeat (first | exact (Kd.C_below HR0_2.out HB.out) | (with_reducible refine Kd.C_alloc ?_ _) | (with_reducible refine Kd.C_drewN ?_ _) | (with_reducible refine Kd.C_drew ?_)))
                     (case side2 => exact HC0_2.out)
                     rintro e w81 ⟨rfl, hb⟩
                     have HS3_ := (hb.cell (World.block_lt_of_cell? _ _ (hHeld.2.2.2.1))).trans (hHeld.2.2.2.1)
                     have HS4_ := (hb.cell (World.block_lt_of_cell? _ _ (hHeld.2.2.2.2.1))).trans (hHeld.2.2.2.2.1)
                     have HS5_ := (hb.cell (World.block_lt_of_cell? _ _ (hHeld.2.2.2.2.2))).trans (hHeld.2.2.2.2.2)
                     refine ⟨_, rfl, ?_⟩
                     have n0_ := Aside0.mk (Kd.R_below (by (with_reducible repeat (first | apply Kd.R_alloc | apply Kd.R_drewN | apply Kd.R_drew)); exact HO_3.out) hb)
                     have n1_ := Aside0.mk (Kd.R_below (by (with_reducible repeat (first | apply Kd.R_alloc | apply Kd.R_drewN | apply Kd.R_drew)); exact HO_4.out) hb)
                     have n2_ := Aside0.mk (Kd.R_below (by (with_reducible repeat (first | apply Kd.R_alloc | apply Kd.R_drewN | apply Kd.R_drew)); exact HO_6.out) hb)
                     have n3_ := Aside0.mk (Kd.R_below (by (with_reducible repeat (first | apply Kd.R_alloc | apply Kd.R_drewN | apply Kd.R_drew)); exact HO_8.out) hb)
                     have n4_ := Aside0.mk (blk_below (g := gb285) (o := .cells #[.int .i64 a0_0, .int .i64 a0_1, .slice A0_2 l0_2.length c0_2] 24 (0, 0)) (by (with_reducible repeat (first | refine blk_drewN ?_ _ | refine blk_drew ?_ | refine blk_alloc ?_ _)); exact BK285.out) hb)
                     have n5_ := Aside0.mk (below_step (by repeat (first | (with_reducible first | exact HB.out | apply below_alloc | apply pw_below_drewN | apply below_drew1 | refine below_set ?_ GE285.out) | exact HB.out)) hb)
                     clear HO_3
                     clear HO_4
                     clear HO_6
                     clear HO_8
                     clear BK285
                     clear HB
                     have HO_3 := n0_
                     have HO_4 := n1_
                     have HO_6 := n2_
                     have HO_8 := n3_
                     have BK285 := n4_
                     have HB := n5_
                     clear n0_ n1_ n2_ n3_ n4_ n5_
                     (try clear hb)
                     (try clear hb2)
                     (try clear hk)
                     (try clear hi)
                     refine hK.out _ _ ⟨(blk_cell BK285.out 0).trans rfl, (blk_cell BK285.out 1).trans rfl, (blk_cell BK285.out 2).trans rfl, HS3_, HS4_, HS5_⟩ (fun hHeld => ?_)
                     clear hK K
                     refine norm_ (a' := ?_) ?_ ?_; rotate_left; (focus show Act.put _ (some 95) _ = _; simp only [Act.put, sA, sB, sC, i64_w, i32_w]; rfl)
                     refine pure_ (i := 4) (N := some 96) (v := ?_) (a' := ?_) (bA 31 31) rfl rfl (any_of HT_.out (by kernel_rfl)) (fun _ _ _ h => h) (Or.inl ⟨by rfl, ?_⟩) ?_ ?_; rotate_left; (focus intro w'; go_simp; with_reducible rfl); rotate_left; (focus simp only [Act.put, sA, sB, sC, i64_w, i32_w]; rfl)
                     refine pure_ (i := 5) (N := some 97) (v := ?_) (a' := ?_) (bA 31 63) rfl rfl (any_of HT_.out (by kernel_rfl)) (fun _ _ _ h => h) (Or.inl ⟨by rfl, ?_⟩) ?_ ?_; rotate_left; (focus intro w'; go_simp; with_reducible rfl); rotate_left; (focus simp only [Act.put, sA, sB, sC, i64_w, i32_w]; rfl)
                     refine pure_ (i := 6) (N := some 98) (v := ?_) (a' := ?_) (bA 31 127) rfl rfl (any_of HT_.out (by kernel_rfl)) (fun _ _ _ h => h) (Or.inl ⟨by rfl, ?_⟩) ?_ ?_; rotate_left; (focus intro w'; go_simp; with_reducible rfl); rotate_left; (focus simp only [Act.put, sA, sB, sC, i64_w, i32_w]; rfl)
                     refine pure_ (i := 7) (N := some 99) (v := ?_) (a' := ?_) (bA 31 255) rfl rfl (any_of HT_.out (by kernel_rfl)) (fun _ _ _ h => h) (Or.inl ⟨by rfl, ?_⟩) ?_ ?_; rotate_left; (focus intro w'; go_simp; with_reducible rfl); rotate_left; (focus simp only [Act.put, sA, sB, sC, i64_w, i32_w]; rfl)
                     refine pure_ (i := 9) (N := some 101) (v := ?_) (a' := ?_) (bA 31 767) rfl rfl (any_of HT_.out (by kernel_rfl)) (fun _ _ _ h => h) (Or.inl ⟨by rfl, ?_⟩) ?_ ?_; rotate_left; (focus intro w'; go_simp; with_reducible rfl); rotate_left; (focus simp only [Act.put, sA, sB, sC, i64_w, i32_w]; rfl)
                     refine take_ (i := 8) (N := some 100) (v := ?_) (a' := ?_) (bA 31 1023) rfl rfl (take_ofW HT_.out HW_.out (by kernel_rfl)) (fun _ _ _ h => h) (Or.inl ⟨by rfl, ?_⟩) hHeld ?_ ?_; rotate_left; (focus rintro w' ⟨s0, s1, s2, s3, s4, s5⟩; go_simp; with_reducible rfl); rotate_left; (focus simp only [Act.put, sA, sB, sC, i64_w, i32_w]; rfl)
                     refine pure_ (i := 10) (N := some 102) (v := ?_) (a' := ?_) (bA 31 2047) rfl rfl (any_of HT_.out (by kernel_rfl)) (fun _ _ _ h => h) (Or.inl ⟨by rfl, ?_⟩) ?_ ?_; rotate_left; (focus intro w'; go_simp; with_reducible rfl); rotate_left; (focus simp only [Act.put, sA, sB, sC, i64_w, i32_w]; rfl)
                     refine pure_ (i := 11) (N := some 103) (v := ?_) (a' := ?_) (bA 31 4095) rfl rfl (any_of HT_.out (by kernel_rfl)) (fun _ _ _ h => h) (Or.inl ⟨by rfl, ?_⟩) ?_ ?_; rotate_left; (focus intro w'; go_simp; with_reducible rfl); rotate_left; (focus simp only [Act.put, sA, sB, sC, i64_w, i32_w]; rfl)
                     refine pure_ (i := 13) (N := some 105) (v := ?_) (a' := ?_) (bA 31 12287) rfl rfl (any_of HT_.out (by kernel_rfl)) (fun _ _ _ h => h) (Or.inl ⟨by rfl, ?_⟩) ?_ ?_; rotate_left; (focus intro w'; go_simp; with_reducible rfl); rotate_left; (focus simp only [Act.put, sA, sB, sC, i64_w, i32_w]; rfl)
                     refine pure_ (i := 14) (N := some 106) (v := ?_) (a' := ?_) (bA 31 28671) rfl rfl (any_of HT_.out (by kernel_rfl)) (fun _ _ _ h => h) (Or.inl ⟨by rfl, ?_⟩) ?_ ?_; rotate_left; (focus intro w'; go_simp; with_reducible rfl); rotate_left; (focus simp only [Act.put, sA, sB, sC, i64_w, i32_w]; rfl)
                     refine pure_ (i := 15) (N := some 107) (v := ?_) (a' := ?_) (bA 31 61439) rfl rfl (any_of HT_.out (by kernel_rfl)) (fun _ _ _ h => h) (Or.inl ⟨by rfl, ?_⟩) ?_ ?_; rotate_left; (focus intro w'; go_simp; with_reducible rfl); rotate_left; (focus simp only [Act.put, sA, sB, sC, i64_w, i32_w]; rfl)
                     refine pure_ (i := 16) (N := some 108) (v := ?_) (a' := ?_) (bA 31 126975) rfl rfl (any_of HT_.out (by kernel_rfl)) (fun _ _ _ h => h) (Or.inl ⟨by rfl, ?_⟩) ?_ ?_; rotate_left; (focus intro w'; go_simp; with_reducible rfl); rotate_left; (focus simp only [Act.put, sA, sB, sC, i64_w, i32_w]; rfl)
                     refine take_ (i := 12) (N := some 104) (v := ?_) (a' := ?_) (bA 31 131071) rfl rfl (take_ofW HT_.out HW_.out (by kernel_rfl)) (fun _ _ _ h => h) (Or.inl ⟨by rfl, ?_⟩) hHeld ?_ ?_; rotate_left; (focus rintro w' ⟨s0, s1, s2, s3, s4, s5⟩; go_simp; with_reducible rfl); rotate_left; (focus simp only [Act.put, sA, sB, sC, i64_w, i32_w]; rfl)
                     refine take_ (i := 17) (N := some 109) (v := ?_) (a' := ?_) (bA 31 262143) rfl rfl (take_ofW HT_.out HW_.out (by kernel_rfl)) (fun _ _ _ h => h) (Or.inl ⟨by rfl, ?_⟩) hHeld ?_ ?_; rotate_left; (focus rintro w' ⟨s0, s1, s2, s3, s4, s5⟩; go_simp; with_reducible rfl); rotate_left; (focus simp only [Act.put, sA, sB, sC, i64_w, i32_w]; rfl)
                     refine one_ (i := 18) (N := some 110) (bA 31 524287) rfl rfl (one_of HT_.out (by kernel_rfl)) (by decide) (fun K hK => ?_)
                     refine goes_ Try.func15 (by kernel_rfl) rfl #[.agg #[.int .i64 a0_0, .int .i64 a0_1, .slice A0_2 l0_2.length c0_2], .int .i64 x5_1, .int .i64 (rd t305 x9_5)] (by rfl) rfl rfl (by (try simp only [List.map_toArray, List.map_cons, List.map_nil]); first | done | rfl | (simp only [List.length_drop, List.length_take]; rfl)) ?_
                     with_reducible refine (dom_Is.calls k5 a0_0 a0_1 _ _ l0_2 x5_1 (rd t305 x9_5) false _ ?side1 ?side2 A71.out).mono ?_
                     (case side1 => repeat (first | exact (Kd.C_below HR0_2.out HB.out) | (with_reducible refine Kd.C_alloc ?_ _) | (with_reducible refine Kd.C_drewN ?_ _) | (with_reducible refine Kd.C_drew ?_)))
                     (case side2 => exact HC0_2.out)
                     rintro e w82 ⟨rfl, hb⟩
                     have HS3_ := (hb.cell (World.block_lt_of_cell? _ _ (hHeld.2.2.2.1))).trans (hHeld.2.2.2.1)
                     have HS4_ := (hb.cell (World.block_lt_of_cell? _ _ (hHeld.2.2.2.2.1))).trans (hHeld.2.2.2.2.1)
                     have HS5_ := (hb.cell (World.block_lt_of_cell? _ _ (hHeld.2.2.2.2.2))).trans (hHeld.2.2.2.2.2)
                     refine ⟨_, rfl, ?_⟩
                     have n0_ := Aside0.mk (Kd.R_below (by (with_reducible repeat (first | apply Kd.R_alloc | apply Kd.R_drewN | apply Kd.R_drew)); exact HO_3.out) hb)
                     have n1_ := Aside0.mk (Kd.R_below (by (with_reducible repeat (first | apply Kd.R_alloc | apply Kd.R_drewN | apply Kd.R_drew)); exact HO_4.out) hb)
                     have n2_ := Aside0.mk (Kd.R_below (by (with_reducible repeat (first | apply Kd.R_alloc | apply Kd.R_drewN | apply Kd.R_drew)); exact HO_6.out) hb)
                     have n3_ := Aside0.mk (Kd.R_below (by (with_reducible repeat (first | apply Kd.R_alloc | apply Kd.R_drewN | apply Kd.R_drew)); exact HO_8.out) hb)
                     have n4_ := Aside0.mk (blk_below (g := gb285) (o := .cells #[.int .i64 a0_0, .int .i64 a0_1, .slice A0_2 l0_2.length c0_2] 24 (0, 0)) (by (with_reducible repeat (first | refine blk_drewN ?_ _ | refine blk_drew ?_ | refine blk_alloc ?_ _)); exact BK285.out) hb)
                     have n5_ := Aside0.mk (below_step (by repeat (first | (with_reducible first | exact HB.out | apply below_alloc | apply pw_below_drewN | apply below_drew1 | refine below_set ?_ GE285.out) | exact HB.out)) hb)
                     clear HO_3
                     clear HO_4
                     clear HO_6
                     clear HO_8
                     clear BK285
                     clear HB
                     have HO_3 := n0_
                     have HO_4 := n1_
                     have HO_6 := n2_
                     have HO_8 := n3_
                     have BK285 := n4_
                     have HB := n5_
                     clear n0_ n1_ n2_ n3_ n4_ n5_
                     (try clear hb)
                     (try clear hb2)
                     (try clear hk)
                     (try clear hi)
                     obtain ⟨Ao83, co83, eo83⟩ := Kd.R_slice HO_6.out
                     (first | subst eo83 | (injection eo83 with f1_ f2_ f3_; have f4_ := f1_.symm; have f5_ := f3_.symm; clear f1_ f2_ f3_; subst f4_; subst f5_))
                     refine hK.out _ _ ⟨(blk_cell BK285.out 0).trans rfl, (blk_cell BK285.out 1).trans rfl, (blk_cell BK285.out 2).trans rfl, HS3_, HS4_, HS5_⟩ (fun hHeld => ?_)
                     clear hK K
                     refine norm_ (a' := ?_) ?_ ?_; rotate_left; (focus show Act.put _ (some 110) _ = _; simp only [Act.put, sA, sB, sC, i64_w, i32_w]; rfl)
                     refine pure_ (i := 19) (N := some 111) (v := ?_) (a' := ?_) (bA 31 1048575) rfl rfl (any_of HT_.out (by kernel_rfl)) (fun _ _ _ h => h) (Or.inl ⟨by rfl, ?_⟩) ?_ ?_; rotate_left; (focus intro w'; go_simp; with_reducible rfl); rotate_left; (focus simp only [Act.put, sA, sB, sC, i64_w, i32_w]; rfl)
                     refine pure_ (i := 20) (N := some 112) (v := ?_) (a' := ?_) (bA 31 2097151) rfl rfl (any_of HT_.out (by kernel_rfl)) (fun _ _ _ h => h) (Or.inl ⟨by rfl, ?_⟩) ?_ ?_; rotate_left; (focus intro w'; go_simp; with_reducible rfl); rotate_left; (focus simp only [Act.put, sA, sB, sC, i64_w, i32_w]; rfl)
                     refine pure_ (i := 21) (N := some 113) (v := ?_) (a' := ?_) (bA 31 4194303) rfl rfl (any_of HT_.out (by kernel_rfl)) (fun _ _ _ h => h) (Or.inl ⟨by rfl, ?_⟩) ?_ ?_; rotate_left; (focus intro w'; go_simp; with_reducible rfl); rotate_left; (focus simp only [Act.put, sA, sB, sC, i64_w, i32_w]; rfl)
                     refine pure_ (i := 22) (N := some 114) (v := ?_) (a' := ?_) (bA 31 8388607) rfl rfl (any_of HT_.out (by kernel_rfl)) (fun _ _ _ h => h) (Or.inl ⟨by rfl, ?_⟩) ?_ ?_; rotate_left; (focus intro w'; go_simp; with_reducible rfl); rotate_left; (focus simp only [Act.put, sA, sB, sC, i64_w, i32_w]; rfl)
                     refine pure_ (i := 23) (N := some 115) (v := ?_) (a' := ?_) (bA 31 16777215) rfl rfl (any_of HT_.out (by kernel_rfl)) (fun _ _ _ h => h) (Or.inl ⟨by rfl, ?_⟩) ?_ ?_; rotate_left; (focus intro w'; go_simp; with_reducible rfl); rotate_left; (focus simp only [Act.put, sA, sB, sC, i64_w, i32_w]; rfl)
                     refine pure_ (i := 24) (N := some 116) (v := ?_) (a' := ?_) (bA 31 33554431) rfl rfl (any_of HT_.out (by kernel_rfl)) (fun _ _ _ h => h) (Or.inl ⟨by rfl, ?_⟩) ?_ ?_; rotate_left; (focus intro w'; go_simp; with_reducible rfl); rotate_left; (focus simp only [Act.put, sA, sB, sC, i64_w, i32_w]; rfl)
                     refine pure_ (i := 25) (N := some 117) (v := ?_) (a' := ?_) (bA 31 67108863) rfl rfl (any_of HT_.out (by kernel_rfl)) (fun _ _ _ h => h) (Or.inl ⟨by rfl, ?_⟩) ?_ ?_; rotate_left; (focus intro w'; go_simp; with_reducible rfl); rotate_left; (focus simp only [Act.put, sA, sB, sC, i64_w, i32_w]; rfl)
                     refine pure_ (i := 26) (N := some 118) (v := ?_) (a' := ?_) (bA 31 134217727) rfl rfl (any_of HT_.out (by kernel_rfl)) (fun _ _ _ h => h) (Or.inl ⟨by rfl, ?_⟩) ?_ ?_; rotate_left; (focus intro w'; go_simp; with_reducible rfl); rotate_left; (focus simp only [Act.put, sA, sB, sC, i64_w, i32_w]; rfl)
                     refine take_ (i := 27) (N := some 119) (v := ?_) (a' := ?_) (bA 31 268435455) rfl rfl (take_ofW HT_.out HW_.out (by kernel_rfl)) (fun _ _ _ h => h) (Or.inl ⟨by rfl, ?_⟩) hHeld ?_ ?_; rotate_left; (focus rintro w' ⟨s0, s1, s2, s3, s4, s5⟩; go_simp; with_reducible rfl); rotate_left; (focus simp only [Act.put, sA, sB, sC, i64_w, i32_w]; rfl)
                     refine one_ (i := 28) (N := some 120) (bA 31 536870911) rfl rfl (one_of HT_.out (by kernel_rfl)) (by decide) (fun K hK => ?_)
                     refine goes_ Try.func21 (by kernel_rfl) rfl #[.slice Ao83 t295.length co83, .int .i64 (rd t305 x9_5)] (by rfl) rfl rfl (by (try simp only [List.map_toArray, List.map_cons, List.map_nil]); first | done | rfl | (simp only [List.length_drop, List.length_take]; rfl)) ?_
                     with_reducible refine (davitref07_Has.calls k5 _ _ t295 (rd t305 x9_5) true _ ?side1 ?side2 A77.out).mono ?_
                     (case side1 => repeat (first | exact (Kd.R_reads' HO_6.out).2.2 | (with_reducible refine Kd.C_alloc ?_ _) | (with_reducible refine Kd.C_drewN ?_ _) | (with_reducible refine Kd.C_drew ?_)))
                     (case side2 => exact (Kd.R_reads' HO_6.out).2.1)
                     rintro e w' ⟨rfl, ⟨nd, rfl⟩⟩
                     refine ⟨_, rfl, ?_⟩
                     refine hK.out _ _ ⟨(blk_cell BK285.out 0).trans rfl, (blk_cell BK285.out 1).trans rfl, (blk_cell BK285.out 2).trans rfl, hHeld.2.2.2.1, hHeld.2.2.2.2.1, hHeld.2.2.2.2.2⟩ (fun hHeld => ?_)
                     clear hK K
                     refine norm_ (a' := ?_) ?_ ?_; rotate_left; (focus show Act.put _ (some 120) _ = _; simp only [Act.put, sA, sB, sC, i64_w, i32_w]; rfl)
                     refine pure_ (i := 29) (N := some 121) (v := ?_) (a' := ?_) (bA 31 1073741823) rfl rfl (any_of HT_.out (by kernel_rfl)) (fun _ _ _ h => h) (Or.inl ⟨by rfl, ?_⟩) ?_ ?_; rotate_left; (focus intro w'; go_simp; with_reducible rfl); rotate_left; (focus simp only [Act.put, sA, sB, sC, i64_w, i32_w]; rfl)
                     refine pure_ (i := 30) (N := some 122) (v := ?_) (a' := ?_) (bA 31 2147483647) rfl rfl (any_of HT_.out (by kernel_rfl)) (fun _ _ _ h => h) (Or.inl ⟨by rfl, ?_⟩) ?_ ?_; rotate_left; (focus intro w'; go_simp; with_reducible rfl); rotate_left; (focus simp only [Act.put, sA, sB, sC, i64_w, i32_w]; rfl)
                     refine done_ (done_of HT_.out (by kernel_rfl)) ?_
                     try go_wp2
                     go_roundg k5
                     case measure => have := HK1.out; have := HJ19.out; have := HK3.out; have := HJ35.out; have := HK5.out; omega
                     case rel => exact ⟨(wrap64 (x9_5 + 1)), (by first | rfl | (simp; done) | (simp [*]; done)), H', ⟨by have := HK1.out; have := HJ19.out; have := HK3.out; have := HJ35.out; have := HK5.out; omega⟩, ⟨by (with_reducible repeat (first | apply Kd.R_alloc | apply Kd.R_drewN | apply Kd.R_drew)); exact HO_3.out⟩, ⟨by (with_reducible repeat (first | apply Kd.R_alloc | apply Kd.R_drewN | apply Kd.R_drew)); exact HO_4.out⟩, ⟨by (with_reducible repeat (first | apply Kd.R_alloc | apply Kd.R_drewN | apply Kd.R_drew)); exact HO_6.out⟩, ⟨by (with_reducible repeat (first | apply Kd.R_alloc | apply Kd.R_drewN | apply Kd.R_drew)); exact HO_8.out⟩, ⟨by (with_reducible repeat (first | refine blk_drewN ?_ _ | refine blk_drew ?_ | refine blk_alloc ?_ _)); exact BK285.out⟩, ⟨by repeat (first | (with_reducible first | exact HB.out | apply below_alloc | apply pw_below_drewN | apply below_drew1 | refine below_set ?_ GE285.out) | exact HB.out)⟩⟩
                    ·replace c78 := Bool.eq_false_iff.mpr c78
                     subst c78
                     have H1 : (some false) = some r := by rw [if_neg (show ¬ (false = true) by decide)] at H; exact H
                     clear H
                     have H := H1
                     clear H1
                     obtain rfl := Option.some.inj H
                     obtain ⟨Ao84, co84, eo84⟩ := Kd.R_slice HO_8.out
                     subst eo84
                     try go_wp2
                     have n0_ := Aside0.mk (Kd.R_drew HO_3.out)
                     have n1_ := Aside0.mk (Kd.R_drew HO_4.out)
                     have n2_ := Aside0.mk (Kd.R_drew HO_6.out)
                     have n3_ := Aside0.mk (Kd.R_drew HO_8.out)
                     have n4_ := Aside0.mk (blk_drew BK285.out)
                     have n5_ := Aside0.mk (below_drew1 HB.out)
                     clear HO_3
                     clear HO_4
                     clear HO_6
                     clear HO_8
                     clear BK285
                     clear HB
                     have HO_3 := n0_
                     have HO_4 := n1_
                     have HO_6 := n2_
                     have HO_8 := n3_
                     have BK285 := n4_
                     have HB := n5_
                     clear n0_ n1_ n2_ n3_ n4_ n5_
                     have p309 : 0 ≤ (x9_5 : Int) := of_decide_eq_true (by first | (with_reducible assumption) | assumption)
                     have q309 : x9_5 < (t305.length : Int) := of_decide_eq_true (by first | (with_reducible assumption) | assumption)
                     obtain ⟨ad309, e309, hx309_0⟩ := Kd.at_int (Kd.R_reads' HO_8.out).2.2 x9_5 p309 q309
                     cases e309
                     replace p309 := eq_true p309
                     replace q309 := eq_true q309
                     have p312 : 0 ≤ (x9_5 : Int) := of_decide_eq_true (by first | (with_reducible assumption) | assumption)
                     have q312 : x9_5 < (t305.length : Int) := of_decide_eq_true (by first | (with_reducible assumption) | assumption)
                     obtain ⟨ad312, e312, hx312_0⟩ := Kd.at_int (Kd.R_reads' HO_8.out).2.2 x9_5 p312 q312
                     obtain rfl : ad309 = ad312 := (by injection e312)
                     replace p312 := eq_true p312
                     replace q312 := eq_true q312
                     have p314 : 0 ≤ (x9_5 : Int) := of_decide_eq_true (by first | (with_reducible assumption) | assumption)
                     have q314 : x9_5 < (t305.length : Int) := of_decide_eq_true (by first | (with_reducible assumption) | assumption)
                     obtain ⟨ad314, e314, hx314_0⟩ := Kd.at_int (Kd.R_reads' HO_8.out).2.2 x9_5 p314 q314
                     obtain rfl : ad309 = ad314 := (by injection e314)
                     replace p314 := eq_true p314
                     replace q314 := eq_true q314
                     refine start_ (n := 31) (S := fun w' => w'.cell? ⟨gb285, 0, none⟩ = some (.int .i64 a0_0) ∧ w'.cell? ⟨gb285, 1, none⟩ = some (.int .i64 a0_1) ∧ w'.cell? ⟨gb285, 2, none⟩ = some (.slice A0_2 l0_2.length c0_2) ∧ w'.cell? (ad309.add (x9_5).toNat) = some (.int .i64 (rd t305 x9_5)) ∧ w'.cell? (ad309.add (x9_5).toNat) = some (.int .i64 (rd t305 x9_5)) ∧ w'.cell? (ad309.add (x9_5).toNat) = some (.int .i64 (rd t305 x9_5))) (ds := []) (bA 31 0) (by kernel_rfl) rfl rfl ⟨(blk_cell BK285.out 0).trans rfl, (blk_cell BK285.out 1).trans rfl, (blk_cell BK285.out 2).trans rfl, hx309_0, hx312_0, hx314_0⟩ (fun hHeld => ?_); refine with_tabW davitlaw08_DomEdges.tab23 davitlaw08_DomEdges.bits23 (fun HT_ HW_ => ?_)
                     generalize wr.drew = w85 at HO_3 HO_4 HO_6 HO_8 BK285 HB hx309_0 hx312_0 hx314_0 hHeld ⊢
                     refine pure_ (i := 1) (N := some 93) (v := ?_) (a' := ?_) (bA 31 2) rfl rfl (any_of HT_.out (by kernel_rfl)) (fun _ _ _ h => h) (Or.inl ⟨by rfl, ?_⟩) ?_ ?_; rotate_left; (focus intro w'; go_simp; with_reducible rfl); rotate_left; (focus simp only [Act.put, sA, sB, sC, i64_w, i32_w]; rfl)
                     refine pure_ (i := 2) (N := some 94) (v := ?_) (a' := ?_) (bA 31 6) rfl rfl (any_of HT_.out (by kernel_rfl)) (fun _ _ _ h => h) (Or.inl ⟨by rfl, ?_⟩) ?_ ?_; rotate_left; (focus intro w'; go_simp; with_reducible rfl); rotate_left; (focus simp only [Act.put, sA, sB, sC, i64_w, i32_w]; rfl)
                     refine take_ (i := 0) (N := some 92) (v := ?_) (a' := ?_) (bA 31 7) rfl rfl (take_ofW HT_.out HW_.out (by kernel_rfl)) (fun _ _ _ h => h) (Or.inl ⟨by rfl, ?_⟩) hHeld ?_ ?_; rotate_left; (focus rintro w' ⟨s0, s1, s2, s3, s4, s5⟩; go_simp; with_reducible rfl); rotate_left; (focus simp only [Act.put, sA, sB, sC, i64_w, i32_w]; rfl)
                     refine one_ (i := 3) (N := some 95) (bA 31 15) rfl rfl (one_of HT_.out (by kernel_rfl)) (by decide) (fun K hK => ?_)
                     refine goes_ Try.func15 (by kernel_rfl) rfl #[.agg #[.int .i64 a0_0, .int .i64 a0_1, .slice A0_2 l0_2.length c0_2], .int .i64 x5_1, .int .i64 x7_3] (by rfl) rfl rfl (by (try simp only [List.map_toArray, List.map_cons, List.map_nil]); first | done | rfl | (simp only [List.length_drop, List.length_take]; rfl)) ?_
                     with_reducible refine (dom_Is.calls k5 a0_0 a0_1 _ _ l0_2 x5_1 x7_3 true _ ?side1 ?side2 A57.out).mono ?_
                     (case side1 => repeat (first | exact (Kd.C_below HR0_2.out HB.out) | (with_reducible refine Kd.C_alloc ?_ _) | (with_reducible refine Kd.C_drewN ?_ _) | (with_reducible refine Kd.C_drew ?_)))
                     (case side2 => exact HC0_2.out)
                     rintro e w86 ⟨rfl, hb⟩
                     have HS3_ := (hb.cell (World.block_lt_of_cell? _ _ (hHeld.2.2.2.1))).trans (hHeld.2.2.2.1)
                     have HS4_ := (hb.cell (World.block_lt_of_cell? _ _ (hHeld.2.2.2.2.1))).trans (hHeld.2.2.2.2.1)
                     have HS5_ := (hb.cell (World.block_lt_of_cell? _ _ (hHeld.2.2.2.2.2))).trans (hHeld.2.2.2.2.2)
                     refine ⟨_, rfl, ?_⟩
                     have n0_ := Aside0.mk (Kd.R_below (by (with_reducible repeat (first | apply Kd.R_alloc | apply Kd.R_drewN | apply Kd.R_drew)); exact HO_3.out) hb)
                     have n1_ := Aside0.mk (Kd.R_below (by (with_reducible repeat (first | apply Kd.R_alloc | apply Kd.R_drewN | apply Kd.R_drew)); exact HO_4.out) hb)
                     have n2_ := Aside0.mk (Kd.R_below (by (with_reducible repeat (first | apply Kd.R_alloc | apply Kd.R_drewN | apply Kd.R_drew)); exact HO_6.out) hb)
                     have n3_ := Aside0.mk (Kd.R_below (by (with_reducible repeat (first | apply Kd.R_alloc | apply Kd.R_drewN | apply Kd.R_drew)); exact HO_8.out) hb)
                     have n4_ := Aside0.mk (blk_below (g := gb285) (o := .cells #[.int .i64 a0_0, .int .i64 a0_1, .slice A0_2 l0_2.length c0_2] 24 (0, 0)) (by (with_reducible repeat (first | refine blk_drewN ?_ _ | refine blk_drew ?_ | refine blk_alloc ?_ _)); exact BK285.out) hb)
                     have n5_ := Aside0.mk (below_step (by repeat (first | (with_reducible first | exact HB.out | apply below_alloc | apply pw_below_drewN | apply below_drew1 | refine below_set ?_ GE285.out) | exact HB.out)) hb)
                     clear HO_3
                     clear HO_4
                     clear HO_6
                     clear HO_8
                     clear BK285
                     clear HB
                     have HO_3 := n0_
                     have HO_4 := n1_
                     have HO_6 := n2_
                     have HO_8 := n3_
                     have BK285 := n4_
                     have HB := n5_
                     clear n0_ n1_ n2_ n3_ n4_ n5_
                     (try clear hb)
                     (try clear hb2)
                     (try clear hk)
                     (try clear hi)
                     refine hK.out _ _ ⟨(blk_cell BK285.out 0).trans rfl, (blk_cell BK285.out 1).trans rfl, (blk_cell BK285.out 2).trans rfl, HS3_, HS4_, HS5_⟩ (fun hHeld => ?_)
                     clear hK K
                     refine norm_ (a' := ?_) ?_ ?_; rotate_left; (focus show Act.put _ (some 95) _ = _; simp only [Act.put, sA, sB, sC, i64_w, i32_w]; rfl)
                     refine pure_ (i := 4) (N := some 96) (v := ?_) (a' := ?_) (bA 31 31) rfl rfl (any_of HT_.out (by kernel_rfl)) (fun _ _ _ h => h) (Or.inl ⟨by rfl, ?_⟩) ?_ ?_; rotate_left; (focus intro w'; go_simp; with_reducible rfl); rotate_left; (focus simp only [Act.put, sA, sB, sC, i64_w, i32_w]; rfl)
                     refine pure_ (i := 5) (N := some 97) (v := ?_) (a' := ?_) (bA 31 63) rfl rfl (any_of HT_.out (by kernel_rfl)) (fun _ _ _ h => h) (Or.inl ⟨by rfl, ?_⟩) ?_ ?_; rotate_left; (focus intro w'; go_simp; with_reducible rfl); rotate_left; (focus simp only [Act.put, sA, sB, sC, i64_w, i32_w]; rfl)
                     refine pure_ (i := 6) (N := some 98) (v := ?_) (a' := ?_) (bA 31 127) rfl rfl (any_of HT_.out (by kernel_rfl)) (fun _ _ _ h => h) (Or.inl ⟨by rfl, ?_⟩) ?_ ?_; rotate_left; (focus intro w'; go_simp; with_reducible rfl); rotate_left; (focus simp only [Act.put, sA, sB, sC, i64_w, i32_w]; rfl)
                     refine pure_ (i := 7) (N := some 99) (v := ?_) (a' := ?_) (bA 31 255) rfl rfl (any_of HT_.out (by kernel_rfl)) (fun _ _ _ h => h) (Or.inl ⟨by rfl, ?_⟩) ?_ ?_; rotate_left; (focus intro w'; go_simp; with_reducible rfl); rotate_left; (focus simp only [Act.put, sA, sB, sC, i64_w, i32_w]; rfl)
                     refine pure_ (i := 9) (N := some 101) (v := ?_) (a' := ?_) (bA 31 767) rfl rfl (any_of HT_.out (by kernel_rfl)) (fun _ _ _ h => h) (Or.inl ⟨by rfl, ?_⟩) ?_ ?_; rotate_left; (focus intro w'; go_simp; with_reducible rfl); rotate_left; (focus simp only [Act.put, sA, sB, sC, i64_w, i32_w]; rfl)
                     refine take_ (i := 8) (N := some 100) (v := ?_) (a' := ?_) (bA 31 1023) rfl rfl (take_ofW HT_.out HW_.out (by kernel_rfl)) (fun _ _ _ h => h) (Or.inl ⟨by rfl, ?_⟩) hHeld ?_ ?_; rotate_left; (focus rintro w' ⟨s0, s1, s2, s3, s4, s5⟩; go_simp; with_reducible rfl); rotate_left; (focus simp only [Act.put, sA, sB, sC, i64_w, i32_w]; rfl)
                     refine pure_ (i := 10) (N := some 102) (v := ?_) (a' := ?_) (bA 31 2047) rfl rfl (any_of HT_.out (by kernel_rfl)) (fun _ _ _ h => h) (Or.inl ⟨by rfl, ?_⟩) ?_ ?_; rotate_left; (focus intro w'; go_simp; with_reducible rfl); rotate_left; (focus simp only [Act.put, sA, sB, sC, i64_w, i32_w]; rfl)
                     refine pure_ (i := 11) (N := some 103) (v := ?_) (a' := ?_) (bA 31 4095) rfl rfl (any_of HT_.out (by kernel_rfl)) (fun _ _ _ h => h) (Or.inl ⟨by rfl, ?_⟩) ?_ ?_; rotate_left; (focus intro w'; go_simp; with_reducible rfl); rotate_left; (focus simp only [Act.put, sA, sB, sC, i64_w, i32_w]; rfl)
                     refine pure_ (i := 13) (N := some 105) (v := ?_) (a' := ?_) (bA 31 12287) rfl rfl (any_of HT_.out (by kernel_rfl)) (fun _ _ _ h => h) (Or.inl ⟨by rfl, ?_⟩) ?_ ?_; rotate_left; (focus intro w'; go_simp; with_reducible rfl); rotate_left; (focus simp only [Act.put, sA, sB, sC, i64_w, i32_w]; rfl)
                     refine pure_ (i := 14) (N := some 106) (v := ?_) (a' := ?_) (bA 31 28671) rfl rfl (any_of HT_.out (by kernel_rfl)) (fun _ _ _ h => h) (Or.inl ⟨by rfl, ?_⟩) ?_ ?_; rotate_left; (focus intro w'; go_simp; with_reducible rfl); rotate_left; (focus simp only [Act.put, sA, sB, sC, i64_w, i32_w]; rfl)
                     refine pure_ (i := 15) (N := some 107) (v := ?_) (a' := ?_) (bA 31 61439) rfl rfl (any_of HT_.out (by kernel_rfl)) (fun _ _ _ h => h) (Or.inl ⟨by rfl, ?_⟩) ?_ ?_; rotate_left; (focus intro w'; go_simp; with_reducible rfl); rotate_left; (focus simp only [Act.put, sA, sB, sC, i64_w, i32_w]; rfl)
                     refine pure_ (i := 16) (N := some 108) (v := ?_) (a' := ?_) (bA 31 126975) rfl rfl (any_of HT_.out (by kernel_rfl)) (fun _ _ _ h => h) (Or.inl ⟨by rfl, ?_⟩) ?_ ?_; rotate_left; (focus intro w'; go_simp; with_reducible rfl); rotate_left; (focus simp only [Act.put, sA, sB, sC, i64_w, i32_w]; rfl)
                     refine take_ (i := 12) (N := some 104) (v := ?_) (a' := ?_) (bA 31 131071) rfl rfl (take_ofW HT_.out HW_.out (by kernel_rfl)) (fun _ _ _ h => h) (Or.inl ⟨by rfl, ?_⟩) hHeld ?_ ?_; rotate_left; (focus rintro w' ⟨s0, s1, s2, s3, s4, s5⟩; go_simp; with_reducible rfl); rotate_left; (focus simp only [Act.put, sA, sB, sC, i64_w, i32_w]; rfl)
                     refine take_ (i := 17) (N := some 109) (v := ?_) (a' := ?_) (bA 31 262143) rfl rfl (take_ofW HT_.out HW_.out (by kernel_rfl)) (fun _ _ _ h => h) (Or.inl ⟨by rfl, ?_⟩) hHeld ?_ ?_; rotate_left; (focus rintro w' ⟨s0, s1, s2, s3, s4, s5⟩; go_simp; with_reducible rfl); rotate_left; (focus simp only [Act.put, sA, sB, sC, i64_w, i32_w]; rfl)
                     refine one_ (i := 18) (N := some 110) (bA 31 524287) rfl rfl (one_of HT_.out (by kernel_rfl)) (by decide) (fun K hK => ?_)
                     refine goes_ Try.func15 (by kernel_rfl) rfl #[.agg #[.int .i64 a0_0, .int .i64 a0_1, .slice A0_2 l0_2.length c0_2], .int .i64 x5_1, .int .i64 (rd t305 x9_5)] (by rfl) rfl rfl (by (try simp only [List.map_toArray, List.map_cons, List.map_nil]); first | done | rfl | (simp only [List.length_drop, List.length_take]; rfl)) ?_
                     with_reducible refine (dom_Is.calls k5 a0_0 a0_1 _ _ l0_2 x5_1 (rd t305 x9_5) false _ ?side1 ?side2 A71.out).mono ?_
                     (case side1 => repeat (first | exact (Kd.C_below HR0_2.out HB.out) | (with_reducible refine Kd.C_alloc ?_ _) | (with_reducible refine Kd.C_drewN ?_ _) | (with_reducible refine Kd.C_drew ?_)))
                     (case side2 => exact HC0_2.out)
                     rintro e w87 ⟨rfl, hb⟩
                     have HS3_ := (hb.cell (World.block_lt_of_cell? _ _ (hHeld.2.2.2.1))).trans (hHeld.2.2.2.1)
                     have HS4_ := (hb.cell (World.block_lt_of_cell? _ _ (hHeld.2.2.2.2.1))).trans (hHeld.2.2.2.2.1)
                     have HS5_ := (hb.cell (World.block_lt_of_cell? _ _ (hHeld.2.2.2.2.2))).trans (hHeld.2.2.2.2.2)
                     refine ⟨_, rfl, ?_⟩
                     have n0_ := Aside0.mk (Kd.R_below (by (with_reducible repeat (first | apply Kd.R_alloc | apply Kd.R_drewN | apply Kd.R_drew)); exact HO_3.out) hb)
                     have n1_ := Aside0.mk (Kd.R_below (by (with_reducible repeat (first | apply Kd.R_alloc | apply Kd.R_drewN | apply Kd.R_drew)); exact HO_4.out) hb)
                     have n2_ := Aside0.mk (Kd.R_below (by (with_reducible repeat (first | apply Kd.R_alloc | apply Kd.R_drewN | apply Kd.R_drew)); exact HO_6.out) hb)
                     have n3_ := Aside0.mk (Kd.R_below (by (with_reducible repeat (first | apply Kd.R_alloc | apply Kd.R_drewN | apply Kd.R_drew)); exact HO_8.out) hb)
                     have n4_ := Aside0.mk (blk_below (g := gb285) (o := .cells #[.int .i64 a0_0, .int .i64 a0_1, .slice A0_2 l0_2.length c0_2] 24 (0, 0)) (by (with_reducible repeat (first | refine blk_drewN ?_ _ | refine blk_drew ?_ | refine blk_alloc ?_ _)); exact BK285.out) hb)
                     have n5_ := Aside0.mk (below_step (by repeat (first | (with_reducible first | exact HB.out | apply below_alloc | apply pw_below_drewN | apply below_drew1 | refine below_set ?_ GE285.out) | exact HB.out)) hb)
                     clear HO_3
                     clear HO_4
                     clear HO_6
                     clear HO_8
                     clear BK285
                     clear HB
                     have HO_3 := n0_
                     have HO_4 := n1_
                     have HO_6 := n2_
                     have HO_8 := n3_
                     have BK285 := n4_
                     have HB := n5_
                     clear n0_ n1_ n2_ n3_ n4_ n5_
                     (try clear hb)
                     (try clear hb2)
                     (try clear hk)
                     (try clear hi)
                     obtain ⟨Ao88, co88, eo88⟩ := Kd.R_slice HO_6.out
                     (first | subst eo88 | (injection eo88 with f1_ f2_ f3_; have f4_ := f1_.symm; have f5_ := f3_.symm; clear f1_ f2_ f3_; subst f4_; subst f5_))
                     refine hK.out _ _ ⟨(blk_cell BK285.out 0).trans rfl, (blk_cell BK285.out 1).trans rfl, (blk_cell BK285.out 2).trans rfl, HS3_, HS4_, HS5_⟩ (fun hHeld => ?_)
                     clear hK K
                     refine norm_ (a' := ?_) ?_ ?_; rotate_left; (focus show Act.put _ (some 110) _ = _; simp only [Act.put, sA, sB, sC, i64_w, i32_w]; rfl)
                     refine pure_ (i := 19) (N := some 111) (v := ?_) (a' := ?_) (bA 31 1048575) rfl rfl (any_of HT_.out (by kernel_rfl)) (fun _ _ _ h => h) (Or.inl ⟨by rfl, ?_⟩) ?_ ?_; rotate_left; (focus intro w'; go_simp; with_reducible rfl); rotate_left; (focus simp only [Act.put, sA, sB, sC, i64_w, i32_w]; rfl)
                     refine pure_ (i := 20) (N := some 112) (v := ?_) (a' := ?_) (bA 31 2097151) rfl rfl (any_of HT_.out (by kernel_rfl)) (fun _ _ _ h => h) (Or.inl ⟨by rfl, ?_⟩) ?_ ?_; rotate_left; (focus intro w'; go_simp; with_reducible rfl); rotate_left; (focus simp only [Act.put, sA, sB, sC, i64_w, i32_w]; rfl)
                     refine pure_ (i := 21) (N := some 113) (v := ?_) (a' := ?_) (bA 31 4194303) rfl rfl (any_of HT_.out (by kernel_rfl)) (fun _ _ _ h => h) (Or.inl ⟨by rfl, ?_⟩) ?_ ?_; rotate_left; (focus intro w'; go_simp; with_reducible rfl); rotate_left; (focus simp only [Act.put, sA, sB, sC, i64_w, i32_w]; rfl)
                     refine pure_ (i := 22) (N := some 114) (v := ?_) (a' := ?_) (bA 31 8388607) rfl rfl (any_of HT_.out (by kernel_rfl)) (fun _ _ _ h => h) (Or.inl ⟨by rfl, ?_⟩) ?_ ?_; rotate_left; (focus intro w'; go_simp; with_reducible rfl); rotate_left; (focus simp only [Act.put, sA, sB, sC, i64_w, i32_w]; rfl)
                     refine pure_ (i := 23) (N := some 115) (v := ?_) (a' := ?_) (bA 31 16777215) rfl rfl (any_of HT_.out (by kernel_rfl)) (fun _ _ _ h => h) (Or.inl ⟨by rfl, ?_⟩) ?_ ?_; rotate_left; (focus intro w'; go_simp; with_reducible rfl); rotate_left; (focus simp only [Act.put, sA, sB, sC, i64_w, i32_w]; rfl)
                     refine pure_ (i := 24) (N := some 116) (v := ?_) (a' := ?_) (bA 31 33554431) rfl rfl (any_of HT_.out (by kernel_rfl)) (fun _ _ _ h => h) (Or.inl ⟨by rfl, ?_⟩) ?_ ?_; rotate_left; (focus intro w'; go_simp; with_reducible rfl); rotate_left; (focus simp only [Act.put, sA, sB, sC, i64_w, i32_w]; rfl)
                     refine pure_ (i := 25) (N := some 117) (v := ?_) (a' := ?_) (bA 31 67108863) rfl rfl (any_of HT_.out (by kernel_rfl)) (fun _ _ _ h => h) (Or.inl ⟨by rfl, ?_⟩) ?_ ?_; rotate_left; (focus intro w'; go_simp; with_reducible rfl); rotate_left; (focus simp only [Act.put, sA, sB, sC, i64_w, i32_w]; rfl)
                     refine pure_ (i := 26) (N := some 118) (v := ?_) (a' := ?_) (bA 31 134217727) rfl rfl (any_of HT_.out (by kernel_rfl)) (fun _ _ _ h => h) (Or.inl ⟨by rfl, ?_⟩) ?_ ?_; rotate_left; (focus intro w'; go_simp; with_reducible rfl); rotate_left; (focus simp only [Act.put, sA, sB, sC, i64_w, i32_w]; rfl)
                     refine take_ (i := 27) (N := some 119) (v := ?_) (a' := ?_) (bA 31 268435455) rfl rfl (take_ofW HT_.out HW_.out (by kernel_rfl)) (fun _ _ _ h => h) (Or.inl ⟨by rfl, ?_⟩) hHeld ?_ ?_; rotate_left; (focus rintro w' ⟨s0, s1, s2, s3, s4, s5⟩; go_simp; with_reducible rfl); rotate_left; (focus simp only [Act.put, sA, sB, sC, i64_w, i32_w]; rfl)
                     refine one_ (i := 28) (N := some 120) (bA 31 536870911) rfl rfl (one_of HT_.out (by kernel_rfl)) (by decide) (fun K hK => ?_)
                     refine goes_ Try.func21 (by kernel_rfl) rfl #[.slice Ao88 t295.length co88, .int .i64 (rd t305 x9_5)] (by rfl) rfl rfl (by (try simp only [List.map_toArray, List.map_cons, List.map_nil]); first | done | rfl | (simp only [List.length_drop, List.length_take]; rfl)) ?_
                     with_reducible refine (davitref07_Has.calls k5 _ _ t295 (rd t305 x9_5) false _ ?side1 ?side2 A77.out).mono ?_
                     (case side1 => repeat (first | exact (Kd.R_reads' HO_6.out).2.2 | (with_reducible refine Kd.C_alloc ?_ _) | (with_reducible refine Kd.C_drewN ?_ _) | (with_reducible refine Kd.C_drew ?_)))
                     (case side2 => exact (Kd.R_reads' HO_6.out).2.1)
                     rintro e w' ⟨rfl, ⟨nd, rfl⟩⟩
                     refine ⟨_, rfl, ?_⟩
                     refine hK.out _ _ ⟨(blk_cell BK285.out 0).trans rfl, (blk_cell BK285.out 1).trans rfl, (blk_cell BK285.out 2).trans rfl, hHeld.2.2.2.1, hHeld.2.2.2.2.1, hHeld.2.2.2.2.2⟩ (fun hHeld => ?_)
                     clear hK K
                     refine norm_ (a' := ?_) ?_ ?_; rotate_left; (focus show Act.put _ (some 120) _ = _; simp only [Act.put, sA, sB, sC, i64_w, i32_w]; rfl)
                     refine pure_ (i := 29) (N := some 121) (v := ?_) (a' := ?_) (bA 31 1073741823) rfl rfl (any_of HT_.out (by kernel_rfl)) (fun _ _ _ h => h) (Or.inl ⟨by rfl, ?_⟩) ?_ ?_; rotate_left; (focus intro w'; go_simp; with_reducible rfl); rotate_left; (focus simp only [Act.put, sA, sB, sC, i64_w, i32_w]; rfl)
                     refine pure_ (i := 30) (N := some 122) (v := ?_) (a' := ?_) (bA 31 2147483647) rfl rfl (any_of HT_.out (by kernel_rfl)) (fun _ _ _ h => h) (Or.inl ⟨by rfl, ?_⟩) ?_ ?_; rotate_left; (focus intro w'; go_simp; with_reducible rfl); rotate_left; (focus simp only [Act.put, sA, sB, sC, i64_w, i32_w]; rfl)
                     refine done_ (done_of HT_.out (by kernel_rfl)) ?_
                     try go_wp2
                     go_ret
                     exact ⟨by first | rfl | (simp [errW_none, errW_some] <;> rfl) | (simp [*, errW_none, errW_some] <;> rfl), by repeat (first | (with_reducible first | exact HB.out | apply below_alloc | apply pw_below_drewN | apply below_drew1 | refine below_set ?_ GE285.out) | exact HB.out)⟩
                 ·rw [if_neg c59] at H
                  exact absurd H (by simp)
                ·replace c58 := Bool.eq_false_iff.mpr c58
                 subst c58
                 have H1 : (davitlaw08_DomEdges.l2 k5 t287 t290 x5_1 t295 x7_3 t305 (wrap64 (x9_5 + 1)) a0_0 a0_1 l0_2) = some r := by rw [if_neg (show ¬ (false = true) by decide)] at H; exact H
                 clear H
                 have H := H1
                 clear H1
                 have H' := Aside0.mk H
                 clear H
                 obtain ⟨Ao89, co89, eo89⟩ := Kd.R_slice HO_8.out
                 subst eo89
                 try go_wp2
                 have n0_ := Aside0.mk (Kd.R_drew HO_3.out)
                 have n1_ := Aside0.mk (Kd.R_drew HO_4.out)
                 have n2_ := Aside0.mk (Kd.R_drew HO_6.out)
                 have n3_ := Aside0.mk (Kd.R_drew HO_8.out)
                 have n4_ := Aside0.mk (blk_drew BK285.out)
                 have n5_ := Aside0.mk (below_drew1 HB.out)
                 clear HO_3
                 clear HO_4
                 clear HO_6
                 clear HO_8
                 clear BK285
                 clear HB
                 have HO_3 := n0_
                 have HO_4 := n1_
                 have HO_6 := n2_
                 have HO_8 := n3_
                 have BK285 := n4_
                 have HB := n5_
                 clear n0_ n1_ n2_ n3_ n4_ n5_
                 refine start_ (n := 31) (S := fun w' => w'.cell? ⟨gb285, 0, none⟩ = some (.int .i64 a0_0) ∧ w'.cell? ⟨gb285, 1, none⟩ = some (.int .i64 a0_1) ∧ w'.cell? ⟨gb285, 2, none⟩ = some (.slice A0_2 l0_2.length c0_2)) (ds := []) (bA 31 0) (by kernel_rfl) rfl rfl ⟨(blk_cell BK285.out 0).trans rfl, (blk_cell BK285.out 1).trans rfl, (blk_cell BK285.out 2).trans rfl⟩ (fun hHeld => ?_); refine with_tabW davitlaw08_DomEdges.tab23 davitlaw08_DomEdges.bits23 (fun HT_ HW_ => ?_)
                 generalize wr.drew = w90 at HO_3 HO_4 HO_6 HO_8 BK285 HB hHeld ⊢
                 refine pure_ (i := 1) (N := some 93) (v := ?_) (a' := ?_) (bA 31 2) rfl rfl (any_of HT_.out (by kernel_rfl)) (fun _ _ _ h => h) (Or.inl ⟨by rfl, ?_⟩) ?_ ?_; rotate_left; (focus intro w'; go_simp; with_reducible rfl); rotate_left; (focus simp only [Act.put, sA, sB, sC, i64_w, i32_w]; rfl)
                 refine pure_ (i := 2) (N := some 94) (v := ?_) (a' := ?_) (bA 31 6) rfl rfl (any_of HT_.out (by kernel_rfl)) (fun _ _ _ h => h) (Or.inl ⟨by rfl, ?_⟩) ?_ ?_; rotate_left; (focus intro w'; go_simp; with_reducible rfl); rotate_left; (focus simp only [Act.put, sA, sB, sC, i64_w, i32_w]; rfl)
                 refine take_ (i := 0) (N := some 92) (v := ?_) (a' := ?_) (bA 31 7) rfl rfl (take_ofW HT_.out HW_.out (by kernel_rfl)) (fun _ _ _ h => h) (Or.inl ⟨by rfl, ?_⟩) hHeld ?_ ?_; rotate_left; (focus rintro w' ⟨s0, s1, s2⟩; go_simp; with_reducible rfl); rotate_left; (focus simp only [Act.put, sA, sB, sC, i64_w, i32_w]; rfl)
                 refine one_ (i := 3) (N := some 95) (bA 31 15) rfl rfl (one_of HT_.out (by kernel_rfl)) (by decide) (fun K hK => ?_)
                 refine goes_ Try.func15 (by kernel_rfl) rfl #[.agg #[.int .i64 a0_0, .int .i64 a0_1, .slice A0_2 l0_2.length c0_2], .int .i64 x5_1, .int .i64 x7_3] (by rfl) rfl rfl (by (try simp only [List.map_toArray, List.map_cons, List.map_nil]); first | done | rfl | (simp only [List.length_drop, List.length_take]; rfl)) ?_
                 with_reducible refine (dom_Is.calls k5 a0_0 a0_1 _ _ l0_2 x5_1 x7_3 false _ ?side1 ?side2 A57.out).mono ?_
                 (case side1 => repeat (first | exact (Kd.C_below HR0_2.out HB.out) | (with_reducible refine Kd.C_alloc ?_ _) | (with_reducible refine Kd.C_drewN ?_ _) | (with_reducible refine Kd.C_drew ?_)))
                 (case side2 => exact HC0_2.out)
                 rintro e w91 ⟨rfl, hb⟩
                 refine ⟨_, rfl, ?_⟩
                 have n0_ := Aside0.mk (Kd.R_below (by (with_reducible repeat (first | apply Kd.R_alloc | apply Kd.R_drewN | apply Kd.R_drew)); exact HO_3.out) hb)
                 have n1_ := Aside0.mk (Kd.R_below (by (with_reducible repeat (first | apply Kd.R_alloc | apply Kd.R_drewN | apply Kd.R_drew)); exact HO_4.out) hb)
                 have n2_ := Aside0.mk (Kd.R_below (by (with_reducible repeat (first | apply Kd.R_alloc | apply Kd.R_drewN | apply Kd.R_drew)); exact HO_6.out) hb)
                 have n3_ := Aside0.mk (Kd.R_below (by (with_reducible repeat (first | apply Kd.R_alloc | apply Kd.R_drewN | apply Kd.R_drew)); exact HO_8.out) hb)
                 have n4_ := Aside0.mk (blk_below (g := gb285) (o := .cells #[.int .i64 a0_0, .int .i64 a0_1, .slice A0_2 l0_2.length c0_2] 24 (0, 0)) (by (with_reducible repeat (first | refine blk_drewN ?_ _ | refine blk_drew ?_ | refine blk_alloc ?_ _)); exact BK285.out) hb)
                 have n5_ := Aside0.mk (below_step (by repeat (first | (with_reducible first | exact HB.out | apply below_alloc | apply pw_below_drewN | apply below_drew1 | refine below_set ?_ GE285.out) | exact HB.out)) hb)
                 clear HO_3
                 clear HO_4
                 clear HO_6
                 clear HO_8
                 clear BK285
                 clear HB
                 have HO_3 := n0_
                 have HO_4 := n1_
                 have HO_6 := n2_
                 have HO_8 := n3_
                 have BK285 := n4_
                 have HB := n5_
                 clear n0_ n1_ n2_ n3_ n4_ n5_
                 (try clear hb)
                 (try clear hb2)
                 (try clear hk)
                 (try clear hi)
                 refine hK.out _ _ ⟨(blk_cell BK285.out 0).trans rfl, (blk_cell BK285.out 1).trans rfl, (blk_cell BK285.out 2).trans rfl⟩ (fun hHeld => ?_)
                 clear hK K
                 refine norm_ (a' := ?_) ?_ ?_; rotate_left; (focus show Act.put _ (some 95) _ = _; simp only [Act.put, sA, sB, sC, i64_w, i32_w]; rfl)
                 refine pure_ (i := 4) (N := some 96) (v := ?_) (a' := ?_) (bA 31 31) rfl rfl (any_of HT_.out (by kernel_rfl)) (fun _ _ _ h => h) (Or.inl ⟨by rfl, ?_⟩) ?_ ?_; rotate_left; (focus intro w'; go_simp; with_reducible rfl); rotate_left; (focus simp only [Act.put, sA, sB, sC, i64_w, i32_w]; rfl)
                 refine pure_ (i := 5) (N := some 97) (v := undef) (a' := ?_) (bA 31 63) rfl rfl (any_of HT_.out (by kernel_rfl)) (fun _ _ _ h => h) (Or.inr ⟨by rfl, rfl⟩) ?_ ?_; rotate_left; (focus simp only [Act.put, sA, sB, sC, i64_w, i32_w]; rfl)
                 refine pure_ (i := 6) (N := some 98) (v := undef) (a' := ?_) (bA 31 127) rfl rfl (any_of HT_.out (by kernel_rfl)) (fun _ _ _ h => h) (Or.inr ⟨by rfl, rfl⟩) ?_ ?_; rotate_left; (focus simp only [Act.put, sA, sB, sC, i64_w, i32_w]; rfl)
                 refine pure_ (i := 7) (N := some 99) (v := undef) (a' := ?_) (bA 31 255) rfl rfl (any_of HT_.out (by kernel_rfl)) (fun _ _ _ h => h) (Or.inr ⟨by rfl, rfl⟩) ?_ ?_; rotate_left; (focus simp only [Act.put, sA, sB, sC, i64_w, i32_w]; rfl)
                 refine pure_ (i := 8) (N := some 100) (v := undef) (a' := ?_) (bA 31 511) rfl rfl (any_of HT_.out (by kernel_rfl)) (fun _ _ _ h => h) (Or.inr ⟨by rfl, rfl⟩) ?_ ?_; rotate_left; (focus simp only [Act.put, sA, sB, sC, i64_w, i32_w]; rfl)
                 refine pure_ (i := 9) (N := some 101) (v := undef) (a' := ?_) (bA 31 1023) rfl rfl (any_of HT_.out (by kernel_rfl)) (fun _ _ _ h => h) (Or.inr ⟨by rfl, rfl⟩) ?_ ?_; rotate_left; (focus simp only [Act.put, sA, sB, sC, i64_w, i32_w]; rfl)
                 refine pure_ (i := 10) (N := some 102) (v := undef) (a' := ?_) (bA 31 2047) rfl rfl (any_of HT_.out (by kernel_rfl)) (fun _ _ _ h => h) (Or.inr ⟨by rfl, rfl⟩) ?_ ?_; rotate_left; (focus simp only [Act.put, sA, sB, sC, i64_w, i32_w]; rfl)
                 refine pure_ (i := 11) (N := some 103) (v := undef) (a' := ?_) (bA 31 4095) rfl rfl (any_of HT_.out (by kernel_rfl)) (fun _ _ _ h => h) (Or.inr ⟨by rfl, rfl⟩) ?_ ?_; rotate_left; (focus simp only [Act.put, sA, sB, sC, i64_w, i32_w]; rfl)
                 refine pure_ (i := 12) (N := some 104) (v := undef) (a' := ?_) (bA 31 8191) rfl rfl (any_of HT_.out (by kernel_rfl)) (fun _ _ _ h => h) (Or.inr ⟨by rfl, rfl⟩) ?_ ?_; rotate_left; (focus simp only [Act.put, sA, sB, sC, i64_w, i32_w]; rfl)
                 refine pure_ (i := 13) (N := some 105) (v := undef) (a' := ?_) (bA 31 16383) rfl rfl (any_of HT_.out (by kernel_rfl)) (fun _ _ _ h => h) (Or.inr ⟨by rfl, rfl⟩) ?_ ?_; rotate_left; (focus simp only [Act.put, sA, sB, sC, i64_w, i32_w]; rfl)
                 refine pure_ (i := 14) (N := some 106) (v := undef) (a' := ?_) (bA 31 32767) rfl rfl (any_of HT_.out (by kernel_rfl)) (fun _ _ _ h => h) (Or.inr ⟨by rfl, rfl⟩) ?_ ?_; rotate_left; (focus simp only [Act.put, sA, sB, sC, i64_w, i32_w]; rfl)
                 refine pure_ (i := 15) (N := some 107) (v := undef) (a' := ?_) (bA 31 65535) rfl rfl (any_of HT_.out (by kernel_rfl)) (fun _ _ _ h => h) (Or.inr ⟨by rfl, rfl⟩) ?_ ?_; rotate_left; (focus simp only [Act.put, sA, sB, sC, i64_w, i32_w]; rfl)
                 refine pure_ (i := 16) (N := some 108) (v := undef) (a' := ?_) (bA 31 131071) rfl rfl (any_of HT_.out (by kernel_rfl)) (fun _ _ _ h => h) (Or.inr ⟨by rfl, rfl⟩) ?_ ?_; rotate_left; (focus simp only [Act.put, sA, sB, sC, i64_w, i32_w]; rfl)
                 refine pure_ (i := 17) (N := some 109) (v := undef) (a' := ?_) (bA 31 262143) rfl rfl (any_of HT_.out (by kernel_rfl)) (fun _ _ _ h => h) (Or.inr ⟨by rfl, rfl⟩) ?_ ?_; rotate_left; (focus simp only [Act.put, sA, sB, sC, i64_w, i32_w]; rfl)
                 refine pure_ (i := 18) (N := some 110) (v := undef) (a' := ?_) (bA 31 524287) rfl rfl (any_of HT_.out (by kernel_rfl)) (fun _ _ _ h => h) (Or.inr ⟨by rfl, rfl⟩) ?_ ?_; rotate_left; (focus simp only [Act.put, sA, sB, sC, i64_w, i32_w]; rfl)
                 refine pure_ (i := 19) (N := some 111) (v := undef) (a' := ?_) (bA 31 1048575) rfl rfl (any_of HT_.out (by kernel_rfl)) (fun _ _ _ h => h) (Or.inr ⟨by rfl, rfl⟩) ?_ ?_; rotate_left; (focus simp only [Act.put, sA, sB, sC, i64_w, i32_w]; rfl)
                 refine pure_ (i := 20) (N := some 112) (v := undef) (a' := ?_) (bA 31 2097151) rfl rfl (any_of HT_.out (by kernel_rfl)) (fun _ _ _ h => h) (Or.inr ⟨by rfl, rfl⟩) ?_ ?_; rotate_left; (focus simp only [Act.put, sA, sB, sC, i64_w, i32_w]; rfl)
                 refine pure_ (i := 21) (N := some 113) (v := ?_) (a' := ?_) (bA 31 4194303) rfl rfl (any_of HT_.out (by kernel_rfl)) (fun _ _ _ h => h) (Or.inl ⟨by rfl, ?_⟩) ?_ ?_; rotate_left; (focus intro w'; go_simp; with_reducible rfl); rotate_left; (focus simp only [Act.put, sA, sB, sC, i64_w, i32_w]; rfl)
                 refine pure_ (i := 22) (N := some 114) (v := ?_) (a' := ?_) (bA 31 8388607) rfl rfl (any_of HT_.out (by kernel_rfl)) (fun _ _ _ h => h) (Or.inl ⟨by rfl, ?_⟩) ?_ ?_; rotate_left; (focus intro w'; go_simp; with_reducible rfl); rotate_left; (focus simp only [Act.put, sA, sB, sC, i64_w, i32_w]; rfl)
                 refine pure_ (i := 23) (N := some 115) (v := undef) (a' := ?_) (bA 31 16777215) rfl rfl (any_of HT_.out (by kernel_rfl)) (fun _ _ _ h => h) (Or.inr ⟨by rfl, rfl⟩) ?_ ?_; rotate_left; (focus simp only [Act.put, sA, sB, sC, i64_w, i32_w]; rfl)
                 refine pure_ (i := 24) (N := some 116) (v := undef) (a' := ?_) (bA 31 33554431) rfl rfl (any_of HT_.out (by kernel_rfl)) (fun _ _ _ h => h) (Or.inr ⟨by rfl, rfl⟩) ?_ ?_; rotate_left; (focus simp only [Act.put, sA, sB, sC, i64_w, i32_w]; rfl)
                 refine pure_ (i := 25) (N := some 117) (v := undef) (a' := ?_) (bA 31 67108863) rfl rfl (any_of HT_.out (by kernel_rfl)) (fun _ _ _ h => h) (Or.inr ⟨by rfl, rfl⟩) ?_ ?_; rotate_left; (focus simp only [Act.put, sA, sB, sC, i64_w, i32_w]; rfl)
                 refine pure_ (i := 26) (N := some 118) (v := undef) (a' := ?_) (bA 31 134217727) rfl rfl (any_of HT_.out (by kernel_rfl)) (fun _ _ _ h => h) (Or.inr ⟨by rfl, rfl⟩) ?_ ?_; rotate_left; (focus simp only [Act.put, sA, sB, sC, i64_w, i32_w]; rfl)
                 refine pure_ (i := 27) (N := some 119) (v := undef) (a' := ?_) (bA 31 268435455) rfl rfl (any_of HT_.out (by kernel_rfl)) (fun _ _ _ h => h) (Or.inr ⟨by rfl, rfl⟩) ?_ ?_; rotate_left; (focus simp only [Act.put, sA, sB, sC, i64_w, i32_w]; rfl)
                 refine pure_ (i := 28) (N := some 120) (v := undef) (a' := ?_) (bA 31 536870911) rfl rfl (any_of HT_.out (by kernel_rfl)) (fun _ _ _ h => h) (Or.inr ⟨by rfl, rfl⟩) ?_ ?_; rotate_left; (focus simp only [Act.put, sA, sB, sC, i64_w, i32_w]; rfl)
                 refine pure_ (i := 29) (N := some 121) (v := undef) (a' := ?_) (bA 31 1073741823) rfl rfl (any_of HT_.out (by kernel_rfl)) (fun _ _ _ h => h) (Or.inr ⟨by rfl, rfl⟩) ?_ ?_; rotate_left; (focus simp only [Act.put, sA, sB, sC, i64_w, i32_w]; rfl)
                 refine pure_ (i := 30) (N := some 122) (v := ?_) (a' := ?_) (bA 31 2147483647) rfl rfl (any_of HT_.out (by kernel_rfl)) (fun _ _ _ h => h) (Or.inl ⟨by rfl, ?_⟩) ?_ ?_; rotate_left; (focus intro w'; go_simp; with_reducible rfl); rotate_left; (focus simp only [Act.put, sA, sB, sC, i64_w, i32_w]; rfl)
                 refine done_ (done_of HT_.out (by kernel_rfl)) ?_
                 try go_wp2
                 go_roundg k5
                 case measure => have := HK1.out; have := HJ19.out; have := HK3.out; have := HJ35.out; have := HK5.out; omega
                 case rel => exact ⟨(wrap64 (x9_5 + 1)), (by first | rfl | (simp; done) | (simp [*]; done)), H', ⟨by have := HK1.out; have := HJ19.out; have := HK3.out; have := HJ35.out; have := HK5.out; omega⟩, ⟨by (with_reducible repeat (first | apply Kd.R_alloc | apply Kd.R_drewN | apply Kd.R_drew)); exact HO_3.out⟩, ⟨by (with_reducible repeat (first | apply Kd.R_alloc | apply Kd.R_drewN | apply Kd.R_drew)); exact HO_4.out⟩, ⟨by (with_reducible repeat (first | apply Kd.R_alloc | apply Kd.R_drewN | apply Kd.R_drew)); exact HO_6.out⟩, ⟨by (with_reducible repeat (first | apply Kd.R_alloc | apply Kd.R_drewN | apply Kd.R_drew)); exact HO_8.out⟩, ⟨by (with_reducible repeat (first | refine blk_drewN ?_ _ | refine blk_drew ?_ | refine blk_alloc ?_ _)); exact BK285.out⟩, ⟨by repeat (first | (with_reducible first | exact HB.out | apply below_alloc | apply pw_below_drewN | apply below_drew1 | refine below_set ?_ GE285.out) | exact HB.out)⟩⟩
               ·rw [if_neg c56] at H
                have c56b0 : decide (x9_5 < (t305.length : Int)) = false := decide_eq_false c56
                clear c56
                have H' := Aside0.mk H
                clear H
                obtain ⟨Ao92, co92, eo92⟩ := Kd.R_slice HO_8.out
                subst eo92
                go_wp2
                go_roundg k5
                case measure => have := HK1.out; have := HJ19.out; have := HK3.out; have := HJ35.out; have := HK5.out; omega
                case rel => exact ⟨(wrap64 (x7_3 + 1)), (by first | rfl | (simp; done) | (simp [*]; done)), H', ⟨by have := HK1.out; have := HJ19.out; have := HK3.out; have := HJ35.out; have := HK5.out; omega⟩, ⟨by (with_reducible repeat (first | apply Kd.R_alloc | apply Kd.R_drewN | apply Kd.R_drew)); exact Kd.R_mono HO_3.out (fun _ hk => hk.1)⟩, ⟨by (with_reducible repeat (first | apply Kd.R_alloc | apply Kd.R_drewN | apply Kd.R_drew)); exact HO_4.out⟩, ⟨by (with_reducible repeat (first | apply Kd.R_alloc | apply Kd.R_drewN | apply Kd.R_drew)); exact Kd.R_mono HO_6.out (fun _ hk => hk.1)⟩, ⟨by (with_reducible repeat (first | refine blk_drewN ?_ _ | refine blk_drew ?_ | refine blk_alloc ?_ _)); exact BK285.out⟩, ⟨by repeat (first | (with_reducible first | exact HB.out | apply below_alloc | apply pw_below_drewN | apply below_drew1 | refine below_set ?_ GE285.out) | exact HB.out)⟩⟩
         ·rw [if_neg c35] at H
          have c35b0 : decide (x7_3 < (l0_2.length : Int)) = false := decide_eq_false c35
          clear c35
          by_cases c93 : 0 ≤ x5_1
          ·rw [if_pos c93] at H
           have c93b0 : decide (0 ≤ x5_1) = true := decide_eq_true c93
           clear c93
           by_cases c94 : x5_1 < (t287.length : Int)
           ·rw [if_pos c94] at H
            have c94b0 : decide (x5_1 < (t287.length : Int)) = true := decide_eq_true c94
            clear c94
            by_cases c95 : (rd t287 x5_1) ≥ 0
            ·rw [if_pos c95] at H
             have c95b0 : decide (0 ≤ (rd t287 x5_1)) = true := decide_eq_true c95
             clear c95
             replace H := Option.bind_eq_some_iff.mp H
             obtain ⟨t300, A960, H⟩ := H
             replace H : (if t300 = true then (davitlaw08_DomEdges.l0 k3 t287 t290 (wrap64 (x5_1 + 1)) a0_0 a0_1 l0_2) else (some false)) = some r := H
             have A96 := Aside0.mk A960
             clear A960
             by_cases c97 : t300 = true
             ·subst c97
              have H1 : (davitlaw08_DomEdges.l0 k3 t287 t290 (wrap64 (x5_1 + 1)) a0_0 a0_1 l0_2) = some r := by rw [if_pos rfl] at H; exact H
              clear H
              have H := H1
              clear H1
              have H' := Aside0.mk H
              clear H
              have hcz98_0 : wr.cell? ⟨gb285, 0, none⟩ = some (.int .i64 a0_0) := (blk_cell BK285.out 0).trans rfl
              have hcz98_1 : wr.cell? ⟨gb285, 1, none⟩ = some (.int .i64 a0_1) := (blk_cell BK285.out 1).trans rfl
              have hcz98_2 : wr.cell? ⟨gb285, 2, none⟩ = some (.slice A0_2 l0_2.length c0_2) := (blk_cell BK285.out 2).trans rfl
              have hfz98_0 := blk_frozen BK285.out 0
              have hfz98_1 := blk_frozen BK285.out 1
              have hfz98_2 := blk_frozen BK285.out 2
              try go_wp2
              have n0_ := Aside0.mk (Kd.R_drew HO_3.out)
              have n1_ := Aside0.mk (Kd.R_drew HO_4.out)
              have n2_ := Aside0.mk (Kd.R_drew HO_6.out)
              have n3_ := Aside0.mk (blk_drew BK285.out)
              have n4_ := Aside0.mk (below_drew1 HB.out)
              clear HO_3
              clear HO_4
              clear HO_6
              clear BK285
              clear HB
              have HO_3 := n0_
              have HO_4 := n1_
              have HO_6 := n2_
              have BK285 := n3_
              have HB := n4_
              clear n0_ n1_ n2_ n3_ n4_
              have p298 : 0 ≤ (x5_1 : Int) := of_decide_eq_true (by first | (with_reducible assumption) | assumption)
              have q298 : x5_1 < (t287.length : Int) := of_decide_eq_true (by first | (with_reducible assumption) | assumption)
              obtain ⟨ad298, e298, hx298_0⟩ := Kd.at_int (Kd.R_reads' HO_3.out).2.2 x5_1 p298 q298
              cases e298
              replace p298 := eq_true p298
              replace q298 := eq_true q298
              have p299 : 0 ≤ (x5_1 : Int) := of_decide_eq_true (by first | (with_reducible assumption) | assumption)
              have q299 : x5_1 < (t287.length : Int) := of_decide_eq_true (by first | (with_reducible assumption) | assumption)
              obtain ⟨ad299, e299, hx299_0⟩ := Kd.at_int (Kd.R_reads' HO_3.out).2.2 x5_1 p299 q299
              obtain rfl : ad298 = ad299 := (by injection e299)
              replace p299 := eq_true p299
              replace q299 := eq_true q299
              refine start_ (n := 15) (S := fun w' => w'.cell? ⟨gb285, 0, none⟩ = some (.int .i64 a0_0) ∧ w'.cell? ⟨gb285, 1, none⟩ = some (.int .i64 a0_1) ∧ w'.cell? ⟨gb285, 2, none⟩ = some (.slice A0_2 l0_2.length c0_2) ∧ w'.cell? (ad298.add (x5_1).toNat) = some (.int .i64 (rd t287 x5_1)) ∧ w'.cell? (ad298.add (x5_1).toNat) = some (.int .i64 (rd t287 x5_1))) (ds := []) (bA 15 0) (by kernel_rfl) rfl rfl ⟨(blk_cell BK285.out 0).trans rfl, (blk_cell BK285.out 1).trans rfl, (blk_cell BK285.out 2).trans rfl, hx298_0, hx299_0⟩ (fun hHeld => ?_); refine with_tabW davitlaw08_DomEdges.tab25 davitlaw08_DomEdges.bits25 (fun HT_ HW_ => ?_)
              generalize wr.drew = w99 at HO_3 HO_4 HO_6 BK285 HB hx298_0 hx299_0 hHeld ⊢
              refine pure_ (i := 0) (N := some 123) (v := ?_) (a' := ?_) (bA 15 1) rfl rfl (any_of HT_.out (by kernel_rfl)) (fun _ _ _ h => h) (Or.inl ⟨by rfl, ?_⟩) ?_ ?_; rotate_left; (focus intro w'; go_simp; with_reducible rfl); rotate_left; (focus simp only [Act.put, sA, sB, sC, i64_w, i32_w]; rfl)
              refine pure_ (i := 1) (N := some 124) (v := ?_) (a' := ?_) (bA 15 3) rfl rfl (any_of HT_.out (by kernel_rfl)) (fun _ _ _ h => h) (Or.inl ⟨by rfl, ?_⟩) ?_ ?_; rotate_left; (focus intro w'; go_simp; with_reducible rfl); rotate_left; (focus simp only [Act.put, sA, sB, sC, i64_w, i32_w]; rfl)
              refine pure_ (i := 2) (N := some 125) (v := ?_) (a' := ?_) (bA 15 7) rfl rfl (any_of HT_.out (by kernel_rfl)) (fun _ _ _ h => h) (Or.inl ⟨by rfl, ?_⟩) ?_ ?_; rotate_left; (focus intro w'; go_simp; with_reducible rfl); rotate_left; (focus simp only [Act.put, sA, sB, sC, i64_w, i32_w]; rfl)
              refine take_ (i := 3) (N := some 126) (v := ?_) (a' := ?_) (bA 15 15) rfl rfl (take_ofW HT_.out HW_.out (by kernel_rfl)) (fun _ _ _ h => h) (Or.inl ⟨by rfl, ?_⟩) hHeld ?_ ?_; rotate_left; (focus rintro w' ⟨s0, s1, s2, s3, s4⟩; go_simp; with_reducible rfl); rotate_left; (focus simp only [Act.put, sA, sB, sC, i64_w, i32_w]; rfl)
              refine pure_ (i := 4) (N := some 127) (v := ?_) (a' := ?_) (bA 15 31) rfl rfl (any_of HT_.out (by kernel_rfl)) (fun _ _ _ h => h) (Or.inl ⟨by rfl, ?_⟩) ?_ ?_; rotate_left; (focus intro w'; go_simp; with_reducible rfl); rotate_left; (focus simp only [Act.put, sA, sB, sC, i64_w, i32_w]; rfl)
              refine pure_ (i := 5) (N := some 128) (v := ?_) (a' := ?_) (bA 15 63) rfl rfl (any_of HT_.out (by kernel_rfl)) (fun _ _ _ h => h) (Or.inl ⟨by rfl, ?_⟩) ?_ ?_; rotate_left; (focus intro w'; go_simp; with_reducible rfl); rotate_left; (focus simp only [Act.put, sA, sB, sC, i64_w, i32_w]; rfl)
              refine pure_ (i := 7) (N := some 130) (v := ?_) (a' := ?_) (bA 15 191) rfl rfl (any_of HT_.out (by kernel_rfl)) (fun _ _ _ h => h) (Or.inl ⟨by rfl, ?_⟩) ?_ ?_; rotate_left; (focus intro w'; go_simp; with_reducible rfl); rotate_left; (focus simp only [Act.put, sA, sB, sC, i64_w, i32_w]; rfl)
              refine pure_ (i := 8) (N := some 131) (v := ?_) (a' := ?_) (bA 15 447) rfl rfl (any_of HT_.out (by kernel_rfl)) (fun _ _ _ h => h) (Or.inl ⟨by rfl, ?_⟩) ?_ ?_; rotate_left; (focus intro w'; go_simp; with_reducible rfl); rotate_left; (focus simp only [Act.put, sA, sB, sC, i64_w, i32_w]; rfl)
              refine pure_ (i := 9) (N := some 132) (v := ?_) (a' := ?_) (bA 15 959) rfl rfl (any_of HT_.out (by kernel_rfl)) (fun _ _ _ h => h) (Or.inl ⟨by rfl, ?_⟩) ?_ ?_; rotate_left; (focus intro w'; go_simp; with_reducible rfl); rotate_left; (focus simp only [Act.put, sA, sB, sC, i64_w, i32_w]; rfl)
              refine pure_ (i := 11) (N := some 134) (v := ?_) (a' := ?_) (bA 15 3007) rfl rfl (any_of HT_.out (by kernel_rfl)) (fun _ _ _ h => h) (Or.inl ⟨by rfl, ?_⟩) ?_ ?_; rotate_left; (focus intro w'; go_simp; with_reducible rfl); rotate_left; (focus simp only [Act.put, sA, sB, sC, i64_w, i32_w]; rfl)
              refine take_ (i := 6) (N := some 129) (v := ?_) (a' := ?_) (bA 15 3071) rfl rfl (take_ofW HT_.out HW_.out (by kernel_rfl)) (fun _ _ _ h => h) (Or.inl ⟨by rfl, ?_⟩) hHeld ?_ ?_; rotate_left; (focus rintro w' ⟨s0, s1, s2, s3, s4⟩; go_simp; with_reducible rfl); rotate_left; (focus simp only [Act.put, sA, sB, sC, i64_w, i32_w]; rfl)
              refine take_ (i := 10) (N := some 133) (v := ?_) (a' := ?_) (bA 15 4095) rfl rfl (take_ofW HT_.out HW_.out (by kernel_rfl)) (fun _ _ _ h => h) (Or.inl ⟨by rfl, ?_⟩) hHeld ?_ ?_; rotate_left; (focus rintro w' ⟨s0, s1, s2, s3, s4⟩; go_simp; with_reducible rfl); rotate_left; (focus simp only [Act.put, sA, sB, sC, i64_w, i32_w]; rfl)
              refine one_ (i := 12) (N := some 135) (bA 15 8191) rfl rfl (one_of HT_.out (by kernel_rfl)) (by decide) (fun K hK => ?_)
              refine goes_ Try.func15 (by kernel_rfl) rfl #[.agg #[.int .i64 a0_0, .int .i64 a0_1, .slice A0_2 l0_2.length c0_2], .int .i64 (rd t287 x5_1), .int .i64 x5_1] (by rfl) rfl rfl (by (try simp only [List.map_toArray, List.map_cons, List.map_nil]); first | done | rfl | (simp only [List.length_drop, List.length_take]; rfl)) ?_
              with_reducible refine (dom_Is.calls k3 a0_0 a0_1 _ _ l0_2 (rd t287 x5_1) x5_1 true _ ?side1 ?side2 A96.out).mono ?_
              (case side1 => repeat (first | exact (Kd.C_below HR0_2.out HB.out) | (with_reducible refine Kd.C_alloc ?_ _) | (with_reducible refine Kd.C_drewN ?_ _) | (with_reducible refine Kd.C_drew ?_)))
              (case side2 => exact HC0_2.out)
              rintro e w100 ⟨rfl, hb⟩
              have HS3_ := (hb.cell (World.block_lt_of_cell? _ _ (hHeld.2.2.2.1))).trans (hHeld.2.2.2.1)
              have HS4_ := (hb.cell (World.block_lt_of_cell? _ _ (hHeld.2.2.2.2))).trans (hHeld.2.2.2.2)
              refine ⟨_, rfl, ?_⟩
              have n0_ := Aside0.mk (Kd.R_below (by (with_reducible repeat (first | apply Kd.R_alloc | apply Kd.R_drewN | apply Kd.R_drew)); exact HO_3.out) hb)
              have n1_ := Aside0.mk (Kd.R_below (by (with_reducible repeat (first | apply Kd.R_alloc | apply Kd.R_drewN | apply Kd.R_drew)); exact HO_4.out) hb)
              have n2_ := Aside0.mk (Kd.R_below (by (with_reducible repeat (first | apply Kd.R_alloc | apply Kd.R_drewN | apply Kd.R_drew)); exact HO_6.out) hb)
              have n3_ := Aside0.mk (blk_below (g := gb285) (o := .cells #[.int .i64 a0_0, .int .i64 a0_1, .slice A0_2 l0_2.length c0_2] 24 (0, 0)) (by (with_reducible repeat (first | refine blk_drewN ?_ _ | refine blk_drew ?_ | refine blk_alloc ?_ _)); exact BK285.out) hb)
              have n4_ := Aside0.mk (below_step (by repeat (first | (with_reducible first | exact HB.out | apply below_alloc | apply pw_below_drewN | apply below_drew1 | refine below_set ?_ GE285.out) | exact HB.out)) hb)
              clear HO_3
              clear HO_4
              clear HO_6
              clear BK285
              clear HB
              have HO_3 := n0_
              have HO_4 := n1_
              have HO_6 := n2_
              have BK285 := n3_
              have HB := n4_
              clear n0_ n1_ n2_ n3_ n4_
              (try clear hb)
              (try clear hb2)
              (try clear hk)
              (try clear hi)
              refine hK.out _ _ ⟨(blk_cell BK285.out 0).trans rfl, (blk_cell BK285.out 1).trans rfl, (blk_cell BK285.out 2).trans rfl, HS3_, HS4_⟩ (fun hHeld => ?_)
              clear hK K
              refine norm_ (a' := ?_) ?_ ?_; rotate_left; (focus show Act.put _ (some 135) _ = _; simp only [Act.put, sA, sB, sC, i64_w, i32_w]; rfl)
              refine pure_ (i := 13) (N := some 136) (v := ?_) (a' := ?_) (bA 15 16383) rfl rfl (any_of HT_.out (by kernel_rfl)) (fun _ _ _ h => h) (Or.inl ⟨by rfl, ?_⟩) ?_ ?_; rotate_left; (focus intro w'; go_simp; with_reducible rfl); rotate_left; (focus simp only [Act.put, sA, sB, sC, i64_w, i32_w]; rfl)
              refine pure_ (i := 14) (N := some 137) (v := ?_) (a' := ?_) (bA 15 32767) rfl rfl (any_of HT_.out (by kernel_rfl)) (fun _ _ _ h => h) (Or.inl ⟨by rfl, ?_⟩) ?_ ?_; rotate_left; (focus intro w'; go_simp; with_reducible rfl); rotate_left; (focus simp only [Act.put, sA, sB, sC, i64_w, i32_w]; rfl)
              refine done_ (done_of HT_.out (by kernel_rfl)) ?_
              try go_wp2
              go_roundg k3
              case measure => have := HK1.out; have := HJ19.out; have := HK3.out; omega
              case rel => exact ⟨(wrap64 (x5_1 + 1)), (by first | rfl | (simp; done) | (simp [*]; done)), H', ⟨by have := HK1.out; have := HJ19.out; have := HK3.out; omega⟩, ⟨by (with_reducible repeat (first | apply Kd.R_alloc | apply Kd.R_drewN | apply Kd.R_drew)); exact Kd.R_mono HO_3.out (fun _ hk => trivial)⟩, ⟨by (with_reducible repeat (first | apply Kd.R_alloc | apply Kd.R_drewN | apply Kd.R_drew)); exact HO_4.out⟩, ⟨by (with_reducible repeat (first | refine blk_drewN ?_ _ | refine blk_drew ?_ | refine blk_alloc ?_ _)); exact BK285.out⟩, ⟨by repeat (first | (with_reducible first | exact HB.out | apply below_alloc | apply pw_below_drewN | apply below_drew1 | refine below_set ?_ GE285.out) | exact HB.out)⟩⟩
             ·replace c97 := Bool.eq_false_iff.mpr c97
              subst c97
              have H1 : (some false) = some r := by rw [if_neg (show ¬ (false = true) by decide)] at H; exact H
              clear H
              have H := H1
              clear H1
              obtain rfl := Option.some.inj H
              have hcz101_0 : wr.cell? ⟨gb285, 0, none⟩ = some (.int .i64 a0_0) := (blk_cell BK285.out 0).trans rfl
              have hcz101_1 : wr.cell? ⟨gb285, 1, none⟩ = some (.int .i64 a0_1) := (blk_cell BK285.out 1).trans rfl
              have hcz101_2 : wr.cell? ⟨gb285, 2, none⟩ = some (.slice A0_2 l0_2.length c0_2) := (blk_cell BK285.out 2).trans rfl
              have hfz101_0 := blk_frozen BK285.out 0
              have hfz101_1 := blk_frozen BK285.out 1
              have hfz101_2 := blk_frozen BK285.out 2
              try go_wp2
              have n0_ := Aside0.mk (Kd.R_drew HO_3.out)
              have n1_ := Aside0.mk (Kd.R_drew HO_4.out)
              have n2_ := Aside0.mk (Kd.R_drew HO_6.out)
              have n3_ := Aside0.mk (blk_drew BK285.out)
              have n4_ := Aside0.mk (below_drew1 HB.out)
              clear HO_3
              clear HO_4
              clear HO_6
              clear BK285
              clear HB
              have HO_3 := n0_
              have HO_4 := n1_
              have HO_6 := n2_
              have BK285 := n3_
              have HB := n4_
              clear n0_ n1_ n2_ n3_ n4_
              have p298 : 0 ≤ (x5_1 : Int) := of_decide_eq_true (by first | (with_reducible assumption) | assumption)
              have q298 : x5_1 < (t287.length : Int) := of_decide_eq_true (by first | (with_reducible assumption) | assumption)
              obtain ⟨ad298, e298, hx298_0⟩ := Kd.at_int (Kd.R_reads' HO_3.out).2.2 x5_1 p298 q298
              cases e298
              replace p298 := eq_true p298
              replace q298 := eq_true q298
              have p299 : 0 ≤ (x5_1 : Int) := of_decide_eq_true (by first | (with_reducible assumption) | assumption)
              have q299 : x5_1 < (t287.length : Int) := of_decide_eq_true (by first | (with_reducible assumption) | assumption)
              obtain ⟨ad299, e299, hx299_0⟩ := Kd.at_int (Kd.R_reads' HO_3.out).2.2 x5_1 p299 q299
              obtain rfl : ad298 = ad299 := (by injection e299)
              replace p299 := eq_true p299
              replace q299 := eq_true q299
              refine start_ (n := 15) (S := fun w' => w'.cell? ⟨gb285, 0, none⟩ = some (.int .i64 a0_0) ∧ w'.cell? ⟨gb285, 1, none⟩ = some (.int .i64 a0_1) ∧ w'.cell? ⟨gb285, 2, none⟩ = some (.slice A0_2 l0_2.length c0_2) ∧ w'.cell? (ad298.add (x5_1).toNat) = some (.int .i64 (rd t287 x5_1)) ∧ w'.cell? (ad298.add (x5_1).toNat) = some (.int .i64 (rd t287 x5_1))) (ds := []) (bA 15 0) (by kernel_rfl) rfl rfl ⟨(blk_cell BK285.out 0).trans rfl, (blk_cell BK285.out 1).trans rfl, (blk_cell BK285.out 2).trans rfl, hx298_0, hx299_0⟩ (fun hHeld => ?_); refine with_tabW davitlaw08_DomEdges.tab25 davitlaw08_DomEdges.bits25 (fun HT_ HW_ => ?_)
              generalize wr.drew = w102 at HO_3 HO_4 HO_6 BK285 HB hx298_0 hx299_0 hHeld ⊢
              refine pure_ (i := 0) (N := some 123) (v := ?_) (a' := ?_) (bA 15 1) rfl rfl (any_of HT_.out (by kernel_rfl)) (fun _ _ _ h => h) (Or.inl ⟨by rfl, ?_⟩) ?_ ?_; rotate_left; (focus intro w'; go_simp; with_reducible rfl); rotate_left; (focus simp only [Act.put, sA, sB, sC, i64_w, i32_w]; rfl)
              refine pure_ (i := 1) (N := some 124) (v := ?_) (a' := ?_) (bA 15 3) rfl rfl (any_of HT_.out (by kernel_rfl)) (fun _ _ _ h => h) (Or.inl ⟨by rfl, ?_⟩) ?_ ?_; rotate_left; (focus intro w'; go_simp; with_reducible rfl); rotate_left; (focus simp only [Act.put, sA, sB, sC, i64_w, i32_w]; rfl)
              refine pure_ (i := 2) (N := some 125) (v := ?_) (a' := ?_) (bA 15 7) rfl rfl (any_of HT_.out (by kernel_rfl)) (fun _ _ _ h => h) (Or.inl ⟨by rfl, ?_⟩) ?_ ?_; rotate_left; (focus intro w'; go_simp; with_reducible rfl); rotate_left; (focus simp only [Act.put, sA, sB, sC, i64_w, i32_w]; rfl)
              refine take_ (i := 3) (N := some 126) (v := ?_) (a' := ?_) (bA 15 15) rfl rfl (take_ofW HT_.out HW_.out (by kernel_rfl)) (fun _ _ _ h => h) (Or.inl ⟨by rfl, ?_⟩) hHeld ?_ ?_; rotate_left; (focus rintro w' ⟨s0, s1, s2, s3, s4⟩; go_simp; with_reducible rfl); rotate_left; (focus simp only [Act.put, sA, sB, sC, i64_w, i32_w]; rfl)
              refine pure_ (i := 4) (N := some 127) (v := ?_) (a' := ?_) (bA 15 31) rfl rfl (any_of HT_.out (by kernel_rfl)) (fun _ _ _ h => h) (Or.inl ⟨by rfl, ?_⟩) ?_ ?_; rotate_left; (focus intro w'; go_simp; with_reducible rfl); rotate_left; (focus simp only [Act.put, sA, sB, sC, i64_w, i32_w]; rfl)
              refine pure_ (i := 5) (N := some 128) (v := ?_) (a' := ?_) (bA 15 63) rfl rfl (any_of HT_.out (by kernel_rfl)) (fun _ _ _ h => h) (Or.inl ⟨by rfl, ?_⟩) ?_ ?_; rotate_left; (focus intro w'; go_simp; with_reducible rfl); rotate_left; (focus simp only [Act.put, sA, sB, sC, i64_w, i32_w]; rfl)
              refine pure_ (i := 7) (N := some 130) (v := ?_) (a' := ?_) (bA 15 191) rfl rfl (any_of HT_.out (by kernel_rfl)) (fun _ _ _ h => h) (Or.inl ⟨by rfl, ?_⟩) ?_ ?_; rotate_left; (focus intro w'; go_simp; with_reducible rfl); rotate_left; (focus simp only [Act.put, sA, sB, sC, i64_w, i32_w]; rfl)
              refine pure_ (i := 8) (N := some 131) (v := ?_) (a' := ?_) (bA 15 447) rfl rfl (any_of HT_.out (by kernel_rfl)) (fun _ _ _ h => h) (Or.inl ⟨by rfl, ?_⟩) ?_ ?_; rotate_left; (focus intro w'; go_simp; with_reducible rfl); rotate_left; (focus simp only [Act.put, sA, sB, sC, i64_w, i32_w]; rfl)
              refine pure_ (i := 9) (N := some 132) (v := ?_) (a' := ?_) (bA 15 959) rfl rfl (any_of HT_.out (by kernel_rfl)) (fun _ _ _ h => h) (Or.inl ⟨by rfl, ?_⟩) ?_ ?_; rotate_left; (focus intro w'; go_simp; with_reducible rfl); rotate_left; (focus simp only [Act.put, sA, sB, sC, i64_w, i32_w]; rfl)
              refine pure_ (i := 11) (N := some 134) (v := ?_) (a' := ?_) (bA 15 3007) rfl rfl (any_of HT_.out (by kernel_rfl)) (fun _ _ _ h => h) (Or.inl ⟨by rfl, ?_⟩) ?_ ?_; rotate_left; (focus intro w'; go_simp; with_reducible rfl); rotate_left; (focus simp only [Act.put, sA, sB, sC, i64_w, i32_w]; rfl)
              refine take_ (i := 6) (N := some 129) (v := ?_) (a' := ?_) (bA 15 3071) rfl rfl (take_ofW HT_.out HW_.out (by kernel_rfl)) (fun _ _ _ h => h) (Or.inl ⟨by rfl, ?_⟩) hHeld ?_ ?_; rotate_left; (focus rintro w' ⟨s0, s1, s2, s3, s4⟩; go_simp; with_reducible rfl); rotate_left; (focus simp only [Act.put, sA, sB, sC, i64_w, i32_w]; rfl)
              refine take_ (i := 10) (N := some 133) (v := ?_) (a' := ?_) (bA 15 4095) rfl rfl (take_ofW HT_.out HW_.out (by kernel_rfl)) (fun _ _ _ h => h) (Or.inl ⟨by rfl, ?_⟩) hHeld ?_ ?_; rotate_left; (focus rintro w' ⟨s0, s1, s2, s3, s4⟩; go_simp; with_reducible rfl); rotate_left; (focus simp only [Act.put, sA, sB, sC, i64_w, i32_w]; rfl)
              refine one_ (i := 12) (N := some 135) (bA 15 8191) rfl rfl (one_of HT_.out (by kernel_rfl)) (by decide) (fun K hK => ?_)
              refine goes_ Try.func15 (by kernel_rfl) rfl #[.agg #[.int .i64 a0_0, .int .i64 a0_1, .slice A0_2 l0_2.length c0_2], .int .i64 (rd t287 x5_1), .int .i64 x5_1] (by rfl) rfl rfl (by (try simp only [List.map_toArray, List.map_cons, List.map_nil]); first | done | rfl | (simp only [List.length_drop, List.length_take]; rfl)) ?_
              with_reducible refine (dom_Is.calls k3 a0_0 a0_1 _ _ l0_2 (rd t287 x5_1) x5_1 false _ ?side1 ?side2 A96.out).mono ?_
              (case side1 => repeat (first | exact (Kd.C_below HR0_2.out HB.out) | (with_reducible refine Kd.C_alloc ?_ _) | (with_reducible refine Kd.C_drewN ?_ _) | (with_reducible refine Kd.C_drew ?_)))
              (case side2 => exact HC0_2.out)
              rintro e w103 ⟨rfl, hb⟩
              have HS3_ := (hb.cell (World.block_lt_of_cell? _ _ (hHeld.2.2.2.1))).trans (hHeld.2.2.2.1)
              have HS4_ := (hb.cell (World.block_lt_of_cell? _ _ (hHeld.2.2.2.2))).trans (hHeld.2.2.2.2)
              refine ⟨_, rfl, ?_⟩
              have n0_ := Aside0.mk (Kd.R_below (by (with_reducible repeat (first | apply Kd.R_alloc | apply Kd.R_drewN | apply Kd.R_drew)); exact HO_3.out) hb)
              have n1_ := Aside0.mk (Kd.R_below (by (with_reducible repeat (first | apply Kd.R_alloc | apply Kd.R_drewN | apply Kd.R_drew)); exact HO_4.out) hb)
              have n2_ := Aside0.mk (Kd.R_below (by (with_reducible repeat (first | apply Kd.R_alloc | apply Kd.R_drewN | apply Kd.R_drew)); exact HO_6.out) hb)
              have n3_ := Aside0.mk (blk_below (g := gb285) (o := .cells #[.int .i64 a0_0, .int .i64 a0_1, .slice A0_2 l0_2.length c0_2] 24 (0, 0)) (by (with_reducible repeat (first | refine blk_drewN ?_ _ | refine blk_drew ?_ | refine blk_alloc ?_ _)); exact BK285.out) hb)
              have n4_ := Aside0.mk (below_step (by repeat (first | (with_reducible first | exact HB.out | apply below_alloc | apply pw_below_drewN | apply below_drew1 | refine below_set ?_ GE285.out) | exact HB.out)) hb)
              clear HO_3
              clear HO_4
              clear HO_6
              clear BK285
              clear HB
              have HO_3 := n0_
              have HO_4 := n1_
              have HO_6 := n2_
              have BK285 := n3_
              have HB := n4_
              clear n0_ n1_ n2_ n3_ n4_
              (try clear hb)
              (try clear hb2)
              (try clear hk)
              (try clear hi)
              refine hK.out _ _ ⟨(blk_cell BK285.out 0).trans rfl, (blk_cell BK285.out 1).trans rfl, (blk_cell BK285.out 2).trans rfl, HS3_, HS4_⟩ (fun hHeld => ?_)
              clear hK K
              refine norm_ (a' := ?_) ?_ ?_; rotate_left; (focus show Act.put _ (some 135) _ = _; simp only [Act.put, sA, sB, sC, i64_w, i32_w]; rfl)
              refine pure_ (i := 13) (N := some 136) (v := ?_) (a' := ?_) (bA 15 16383) rfl rfl (any_of HT_.out (by kernel_rfl)) (fun _ _ _ h => h) (Or.inl ⟨by rfl, ?_⟩) ?_ ?_; rotate_left; (focus intro w'; go_simp; with_reducible rfl); rotate_left; (focus simp only [Act.put, sA, sB, sC, i64_w, i32_w]; rfl)
              refine pure_ (i := 14) (N := some 137) (v := ?_) (a' := ?_) (bA 15 32767) rfl rfl (any_of HT_.out (by kernel_rfl)) (fun _ _ _ h => h) (Or.inl ⟨by rfl, ?_⟩) ?_ ?_; rotate_left; (focus intro w'; go_simp; with_reducible rfl); rotate_left; (focus simp only [Act.put, sA, sB, sC, i64_w, i32_w]; rfl)
              refine done_ (done_of HT_.out (by kernel_rfl)) ?_
              try go_wp2
              go_ret
              exact ⟨by first | rfl | (simp [errW_none, errW_some] <;> rfl) | (simp [*, errW_none, errW_some] <;> rfl), by repeat (first | (with_reducible first | exact HB.out | apply below_alloc | apply pw_below_drewN | apply below_drew1 | refine below_set ?_ GE285.out) | exact HB.out)⟩
            ·rw [if_neg c95] at H
             have c95b0 : decide (0 ≤ (rd t287 x5_1)) = false := decide_eq_false c95
             clear c95
             have H' := Aside0.mk H
             clear H
             have hcz104_0 : wr.cell? ⟨gb285, 0, none⟩ = some (.int .i64 a0_0) := (blk_cell BK285.out 0).trans rfl
             have hcz104_1 : wr.cell? ⟨gb285, 1, none⟩ = some (.int .i64 a0_1) := (blk_cell BK285.out 1).trans rfl
             have hcz104_2 : wr.cell? ⟨gb285, 2, none⟩ = some (.slice A0_2 l0_2.length c0_2) := (blk_cell BK285.out 2).trans rfl
             have hfz104_0 := blk_frozen BK285.out 0
             have hfz104_1 := blk_frozen BK285.out 1
             have hfz104_2 := blk_frozen BK285.out 2
             try go_wp2
             have n0_ := Aside0.mk (Kd.R_drew HO_3.out)
             have n1_ := Aside0.mk (Kd.R_drew HO_4.out)
             have n2_ := Aside0.mk (Kd.R_drew HO_6.out)
             have n3_ := Aside0.mk (blk_drew BK285.out)
             have n4_ := Aside0.mk (below_drew1 HB.out)
             clear HO_3
             clear HO_4
             clear HO_6
             clear BK285
             clear HB
             have HO_3 := n0_
             have HO_4 := n1_
             have HO_6 := n2_
             have BK285 := n3_
             have HB := n4_
             clear n0_ n1_ n2_ n3_ n4_
             have p298 : 0 ≤ (x5_1 : Int) := of_decide_eq_true (by first | (with_reducible assumption) | assumption)
             have q298 : x5_1 < (t287.length : Int) := of_decide_eq_true (by first | (with_reducible assumption) | assumption)
             obtain ⟨ad298, e298, hx298_0⟩ := Kd.at_int (Kd.R_reads' HO_3.out).2.2 x5_1 p298 q298
             cases e298
             replace p298 := eq_true p298
             replace q298 := eq_true q298
             refine start_ (n := 15) (S := fun w' => w'.cell? (ad298.add (x5_1).toNat) = some (.int .i64 (rd t287 x5_1))) (ds := []) (bA 15 0) (by kernel_rfl) rfl rfl (hx298_0) (fun hHeld => ?_); refine with_tabW davitlaw08_DomEdges.tab25 davitlaw08_DomEdges.bits25 (fun HT_ HW_ => ?_)
             generalize wr.drew = w105 at HO_3 HO_4 HO_6 BK285 HB hx298_0 hHeld ⊢
             refine pure_ (i := 0) (N := some 123) (v := ?_) (a' := ?_) (bA 15 1) rfl rfl (any_of HT_.out (by kernel_rfl)) (fun _ _ _ h => h) (Or.inl ⟨by rfl, ?_⟩) ?_ ?_; rotate_left; (focus intro w'; go_simp; with_reducible rfl); rotate_left; (focus simp only [Act.put, sA, sB, sC, i64_w, i32_w]; rfl)
             refine pure_ (i := 1) (N := some 124) (v := ?_) (a' := ?_) (bA 15 3) rfl rfl (any_of HT_.out (by kernel_rfl)) (fun _ _ _ h => h) (Or.inl ⟨by rfl, ?_⟩) ?_ ?_; rotate_left; (focus intro w'; go_simp; with_reducible rfl); rotate_left; (focus simp only [Act.put, sA, sB, sC, i64_w, i32_w]; rfl)
             refine pure_ (i := 2) (N := some 125) (v := ?_) (a' := ?_) (bA 15 7) rfl rfl (any_of HT_.out (by kernel_rfl)) (fun _ _ _ h => h) (Or.inl ⟨by rfl, ?_⟩) ?_ ?_; rotate_left; (focus intro w'; go_simp; with_reducible rfl); rotate_left; (focus simp only [Act.put, sA, sB, sC, i64_w, i32_w]; rfl)
             refine take_ (i := 3) (N := some 126) (v := ?_) (a' := ?_) (bA 15 15) rfl rfl (take_ofW HT_.out HW_.out (by kernel_rfl)) (fun _ _ _ h => h) (Or.inl ⟨by rfl, ?_⟩) hHeld ?_ ?_; rotate_left; (focus intro w' s0; go_simp; with_reducible rfl); rotate_left; (focus simp only [Act.put, sA, sB, sC, i64_w, i32_w]; rfl)
             refine pure_ (i := 4) (N := some 127) (v := ?_) (a' := ?_) (bA 15 31) rfl rfl (any_of HT_.out (by kernel_rfl)) (fun _ _ _ h => h) (Or.inl ⟨by rfl, ?_⟩) ?_ ?_; rotate_left; (focus intro w'; go_simp; with_reducible rfl); rotate_left; (focus simp only [Act.put, sA, sB, sC, i64_w, i32_w]; rfl)
             refine pure_ (i := 5) (N := some 128) (v := ?_) (a' := ?_) (bA 15 63) rfl rfl (any_of HT_.out (by kernel_rfl)) (fun _ _ _ h => h) (Or.inl ⟨by rfl, ?_⟩) ?_ ?_; rotate_left; (focus intro w'; go_simp; with_reducible rfl); rotate_left; (focus simp only [Act.put, sA, sB, sC, i64_w, i32_w]; rfl)
             refine pure_ (i := 6) (N := some 129) (v := undef) (a' := ?_) (bA 15 127) rfl rfl (any_of HT_.out (by kernel_rfl)) (fun _ _ _ h => h) (Or.inr ⟨by rfl, rfl⟩) ?_ ?_; rotate_left; (focus simp only [Act.put, sA, sB, sC, i64_w, i32_w]; rfl)
             refine pure_ (i := 7) (N := some 130) (v := undef) (a' := ?_) (bA 15 255) rfl rfl (any_of HT_.out (by kernel_rfl)) (fun _ _ _ h => h) (Or.inr ⟨by rfl, rfl⟩) ?_ ?_; rotate_left; (focus simp only [Act.put, sA, sB, sC, i64_w, i32_w]; rfl)
             refine pure_ (i := 8) (N := some 131) (v := undef) (a' := ?_) (bA 15 511) rfl rfl (any_of HT_.out (by kernel_rfl)) (fun _ _ _ h => h) (Or.inr ⟨by rfl, rfl⟩) ?_ ?_; rotate_left; (focus simp only [Act.put, sA, sB, sC, i64_w, i32_w]; rfl)
             refine pure_ (i := 9) (N := some 132) (v := undef) (a' := ?_) (bA 15 1023) rfl rfl (any_of HT_.out (by kernel_rfl)) (fun _ _ _ h => h) (Or.inr ⟨by rfl, rfl⟩) ?_ ?_; rotate_left; (focus simp only [Act.put, sA, sB, sC, i64_w, i32_w]; rfl)
             refine pure_ (i := 10) (N := some 133) (v := undef) (a' := ?_) (bA 15 2047) rfl rfl (any_of HT_.out (by kernel_rfl)) (fun _ _ _ h => h) (Or.inr ⟨by rfl, rfl⟩) ?_ ?_; rotate_left; (focus simp only [Act.put, sA, sB, sC, i64_w, i32_w]; rfl)
             refine pure_ (i := 11) (N := some 134) (v := undef) (a' := ?_) (bA 15 4095) rfl rfl (any_of HT_.out (by kernel_rfl)) (fun _ _ _ h => h) (Or.inr ⟨by rfl, rfl⟩) ?_ ?_; rotate_left; (focus simp only [Act.put, sA, sB, sC, i64_w, i32_w]; rfl)
             refine pure_ (i := 12) (N := some 135) (v := undef) (a' := ?_) (bA 15 8191) rfl rfl (any_of HT_.out (by kernel_rfl)) (fun _ _ _ h => h) (Or.inr ⟨by rfl, rfl⟩) ?_ ?_; rotate_left; (focus simp only [Act.put, sA, sB, sC, i64_w, i32_w]; rfl)
             refine pure_ (i := 13) (N := some 136) (v := undef) (a' := ?_) (bA 15 16383) rfl rfl (any_of HT_.out (by kernel_rfl)) (fun _ _ _ h => h) (Or.inr ⟨by rfl, rfl⟩) ?_ ?_; rotate_left; (focus simp only [Act.put, sA, sB, sC, i64_w, i32_w]; rfl)
             refine pure_ (i := 14) (N := some 137) (v := ?_) (a' := ?_) (bA 15 32767) rfl rfl (any_of HT_.out (by kernel_rfl)) (fun _ _ _ h => h) (Or.inl ⟨by rfl, ?_⟩) ?_ ?_; rotate_left; (focus intro w'; go_simp; with_reducible rfl); rotate_left; (focus simp only [Act.put, sA, sB, sC, i64_w, i32_w]; rfl)
             refine done_ (done_of HT_.out (by kernel_rfl)) ?_
             try go_wp2
             go_roundg k3
             case measure => have := HK1.out; have := HJ19.out; have := HK3.out; omega
             case rel => exact ⟨(wrap64 (x5_1 + 1)), (by first | rfl | (simp; done) | (simp [*]; done)), H', ⟨by have := HK1.out; have := HJ19.out; have := HK3.out; omega⟩, ⟨by (with_reducible repeat (first | apply Kd.R_alloc | apply Kd.R_drewN | apply Kd.R_drew)); exact Kd.R_mono HO_3.out (fun _ hk => trivial)⟩, ⟨by (with_reducible repeat (first | apply Kd.R_alloc | apply Kd.R_drewN | apply Kd.R_drew)); exact HO_4.out⟩, ⟨by (with_reducible repeat (first | refine blk_drewN ?_ _ | refine blk_drew ?_ | refine blk_alloc ?_ _)); exact BK285.out⟩, ⟨by repeat (first | (with_reducible first | exact HB.out | apply below_alloc | apply pw_below_drewN | apply below_drew1 | refine below_set ?_ GE285.out) | exact HB.out)⟩⟩
           ·rw [if_neg c94] at H
            exact absurd H (by simp)
          ·rw [if_neg c93] at H
           exact absurd H (by simp)
   ·rw [if_neg c19] at H
    have c19b0 : decide (x5_1 < (l0_2.length : Int)) = false := decide_eq_false c19
    clear c19
    obtain rfl := Option.some.inj H
    have hcz106_0 : wr.cell? ⟨gb285, 0, none⟩ = some (.int .i64 a0_0) := (blk_cell BK285.out 0).trans rfl
    have hcz106_1 : wr.cell? ⟨gb285, 1, none⟩ = some (.int .i64 a0_1) := (blk_cell BK285.out 1).trans rfl
    have hcz106_2 : wr.cell? ⟨gb285, 2, none⟩ = some (.slice A0_2 l0_2.length c0_2) := (blk_cell BK285.out 2).trans rfl
    have hfz106_0 := blk_frozen BK285.out 0
    have hfz106_1 := blk_frozen BK285.out 1
    have hfz106_2 := blk_frozen BK285.out 2
    go_wp2
    go_ret
    exact ⟨by first | rfl | (simp [errW_none, errW_some] <;> rfl) | (simp [*, errW_none, errW_some] <;> rfl), by repeat (first | (with_reducible first | exact HB.out | apply below_alloc | apply pw_below_drewN | apply below_drew1 | refine below_set ?_ GE285.out) | exact HB.out)⟩
end
end Go.Proofs.Ytilopoegoddggaa.X
