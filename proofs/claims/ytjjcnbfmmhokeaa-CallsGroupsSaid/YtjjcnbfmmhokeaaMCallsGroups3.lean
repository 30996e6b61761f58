/- Part 4 of the proof of the statement CallsGroups: the words of the walks, the walks through the functions that it reaches, and the plain laws of what they compute. -/
import Derived.Test.YtjjcnbfmmhokeaaMCallsGroups2
import Derived.Lib.SlicesCompact
namespace Go.Proofs.Ytjjcnbfmmhokeaa.X
open Go.RowKit Go.Proofs.YtjjcnbfmmhokeaaW.PrintWords Go.Proofs.YtjjcnbfmmhokeaaW.PrintLast Go.Proofs.YtjjcnbfmmhokeaaW.PrintMore
attribute [local go_sem] max2_int min2_int max_two min_two max_three min_three max_four min_four
set_option linter.all false
noncomputable section
mutual
def davitlaw11_CallsGroups.l0 : Nat → List (List Int) → List Int → Int → Int → List (S33) → Option (Bool)
 | 0, _, _, _, _, _ => none
 | k + 1, x3, x4, x5, x6, x143000 => if x6 < (x3.length : Int) then (davitlaw11_CallsGroups.l1 k x3 x4 x5 x6 0 x143000) else (if x5 = (x4.length : Int) then (davitlaw11_CallsGroups.l2 k x4 0 x143000) else (some false))
def davitlaw11_CallsGroups.l1 : Nat → List (List Int) → List Int → Int → Int → Int → List (S33) → Option (Bool)
 | 0, _, _, _, _, _, _ => none
 | k + 1, x3, x4, x5, x6, x7, x143000 => if 0 ≤ x6 then (if x6 < (x3.length : Int) then (if x7 < ((rd_L5 x3 x6).length : Int) then (if 0 ≤ x7 then (if (rd (rd_L5 x3 x6) x7) < 0 then (davitlaw11_CallsGroups.j2 k x3 x4 x5 x6 x7 true x143000) else (if (rd (rd_L5 x3 x6) x7) ≥ (x4.length : Int) then (davitlaw11_CallsGroups.j2 k x3 x4 x5 x6 x7 true x143000) else (if x7 > 0 then (if 0 ≤ (wrap64 (x7 - 1)) then (if (wrap64 (x7 - 1)) < ((rd_L5 x3 x6).length : Int) then (davitlaw11_CallsGroups.j2 k x3 x4 x5 x6 x7 (decide ((rd (rd_L5 x3 x6) x7) ≤ (rd (rd_L5 x3 x6) (wrap64 (x7 - 1))))) x143000) else (none)) else (none)) else (davitlaw11_CallsGroups.j2 k x3 x4 x5 x6 x7 false x143000)))) else (none)) else (davitlaw11_CallsGroups.l0 k x3 x4 x5 (wrap64 (x6 + 1)) x143000)) else (none)) else (none)
def davitlaw11_CallsGroups.j2 : Nat → List (List Int) → List Int → Int → Int → Int → Bool → List (S33) → Option (Bool)
 | 0, _, _, _, _, _, _, _ => none
 | k + 1, x3, x4, x5, x6, x7, x78, x143000 => if x78 = true then (some false) else (if 0 ≤ x6 then (if x6 < (x3.length : Int) then (if 0 ≤ x7 then (if x7 < ((rd_L5 x3 x6).length : Int) then (if 0 ≤ (rd (rd_L5 x3 x6) x7) then (if (rd (rd_L5 x3 x6) x7) < (x4.length : Int) then (davitlaw11_CallsGroups.l1 k x3 (x4.set ((rd (rd_L5 x3 x6) x7) : Int).toNat x6) (wrap64 (x5 + 1)) x6 (wrap64 (x7 + 1)) x143000) else (none)) else (none)) else (none)) else (none)) else (none)) else (none))
def davitlaw11_CallsGroups.l2 : Nat → List Int → Int → List (S33) → Option (Bool)
 | 0, _, _, _ => none
 | k + 1, x4, x8, x143000 => if x8 < (x4.length : Int) then (davitlaw11_CallsGroups.l3 k x4 x8 0 x143000) else (some true)
def davitlaw11_CallsGroups.l3 : Nat → List Int → Int → Int → List (S33) → Option (Bool)
 | 0, _, _, _, _ => none
 | k + 1, x4, x8, x9, x143000 => if x9 < (x4.length : Int) then (if x8 = x9 then (davitlaw11_CallsGroups.j5 k x4 x8 x9 true x143000) else ((calls_Comes.f k x143000 x8 x9).bind fun t163 => (if t163 = true then ((calls_Comes.f k x143000 x9 x8).bind fun t164 => (davitlaw11_CallsGroups.j5 k x4 x8 x9 t164 x143000)) else (davitlaw11_CallsGroups.j5 k x4 x8 x9 false x143000)))) else (davitlaw11_CallsGroups.l2 k x4 (wrap64 (x8 + 1)) x143000)
def davitlaw11_CallsGroups.j5 : Nat → List Int → Int → Int → Bool → List (S33) → Option (Bool)
 | 0, _, _, _, _, _ => none
 | k + 1, x4, x8, x9, x10, x143000 => if 0 ≤ x8 then (if x8 < (x4.length : Int) then (if 0 ≤ x9 then (if x9 < (x4.length : Int) then (if (x10 != ((rd x4 x8) == (rd x4 x9))) = true then (davitlaw11_CallsGroups.j6 k x4 x8 x9 true x143000) else ((calls_Comes.f k x143000 x8 x9).bind fun t167 => (if t167 = true then (davitlaw11_CallsGroups.j6 k x4 x8 x9 (decide ((rd x4 x9) > (rd x4 x8))) x143000) else (davitlaw11_CallsGroups.j6 k x4 x8 x9 false x143000)))) else (none)) else (none)) else (none)) else (none)
def davitlaw11_CallsGroups.j6 : Nat → List Int → Int → Int → Bool → List (S33) → Option (Bool)
 | 0, _, _, _, _, _ => none
 | k + 1, x4, x8, x9, x149, x143000 => if x149 = true then (some false) else (davitlaw11_CallsGroups.l3 k x4 x8 (wrap64 (x9 + 1)) x143000)
end
def davitlaw11_CallsGroups.f (k : Nat) (l0_0 : List (S33)) : Option (Bool) := (davitlaw11_awake.f k).bind fun t143 => (if t143 = true then ((davitref02_Short.f k l0_0).bind fun t144 => (if t144 = true then ((calls_Groups.f k l0_0).bind fun t145 => (if 0 ≤ (l0_0.length : Int) then (if ((l0_0.length : Int) : Int).toNat ≤ 35184372088832 then (davitlaw11_CallsGroups.l0 k t145 (List.replicate ((l0_0.length : Int) : Int).toNat 0) 0 0 l0_0) else (none)) else (none))) else (some true))) else (some false))
theorem davitlaw11_CallsGroups.mono_l : ∀ k, (∀ y0 y1 y2 y3 y4, LeO (davitlaw11_CallsGroups.l0 k y0 y1 y2 y3 y4) (davitlaw11_CallsGroups.l0 (k + 1) y0 y1 y2 y3 y4)) ∧ (∀ y0 y1 y2 y3 y4 y5, LeO (davitlaw11_CallsGroups.l1 k y0 y1 y2 y3 y4 y5) (davitlaw11_CallsGroups.l1 (k + 1) y0 y1 y2 y3 y4 y5)) ∧ (∀ y0 y1 y2 y3 y4 y5 y6, LeO (davitlaw11_CallsGroups.j2 k y0 y1 y2 y3 y4 y5 y6) (davitlaw11_CallsGroups.j2 (k + 1) y0 y1 y2 y3 y4 y5 y6)) ∧ (∀ y0 y1 y2, LeO (davitlaw11_CallsGroups.l2 k y0 y1 y2) (davitlaw11_CallsGroups.l2 (k + 1) y0 y1 y2)) ∧ (∀ y0 y1 y2 y3, LeO (davitlaw11_CallsGroups.l3 k y0 y1 y2 y3) (davitlaw11_CallsGroups.l3 (k + 1) y0 y1 y2 y3)) ∧ (∀ y0 y1 y2 y3 y4, LeO (davitlaw11_CallsGroups.j5 k y0 y1 y2 y3 y4) (davitlaw11_CallsGroups.j5 (k + 1) y0 y1 y2 y3 y4)) ∧ (∀ y0 y1 y2 y3 y4, LeO (davitlaw11_CallsGroups.j6 k y0 y1 y2 y3 y4) (davitlaw11_CallsGroups.j6 (k + 1) y0 y1 y2 y3 y4))
 | 0 => ⟨fun _ _ _ _ _ r h => by simp [davitlaw11_CallsGroups.l0] at h, fun _ _ _ _ _ _ r h => by simp [davitlaw11_CallsGroups.l1] at h, fun _ _ _ _ _ _ _ r h => by simp [davitlaw11_CallsGroups.j2] at h, fun _ _ _ r h => by simp [davitlaw11_CallsGroups.l2] at h, fun _ _ _ _ r h => by simp [davitlaw11_CallsGroups.l3] at h, fun _ _ _ _ _ r h => by simp [davitlaw11_CallsGroups.j5] at h, fun _ _ _ _ _ r h => by simp [davitlaw11_CallsGroups.j6] at h⟩
 | k + 1 => by
  obtain ⟨ih0, ih1, ih2, ih3, ih4, ih5, ih6⟩ := davitlaw11_CallsGroups.mono_l k
  refine ⟨?_, ?_, ?_, ?_, ?_, ?_, ?_⟩
  ·intro y0 y1 y2 y3 y4
   unfold davitlaw11_CallsGroups.l0
   repeat' first
   | (with_reducible exact ih0 _ _ _ _ _)
   | (with_reducible exact ih1 _ _ _ _ _ _)
   | (with_reducible exact ih2 _ _ _ _ _ _ _)
   | (with_reducible exact ih3 _ _ _)
   | (with_reducible exact ih4 _ _ _ _)
   | (with_reducible exact ih5 _ _ _ _ _)
   | (with_reducible exact ih6 _ _ _ _ _)
   | (with_reducible exact calls_Comes.mono _ _ _ _)
   | (with_reducible exact calls_Groups.mono _ _)
   | (with_reducible exact davitlaw11_awake.mono _)
   | (with_reducible exact davitref02_Short.mono _ _)
   | (with_reducible exact LeO.refl _)
   | (with_reducible exact LeO.none _)
   | (with_reducible refine LeO.ite ?_ ?_)
   | (with_reducible refine LeO.bind ?_ (fun _ => ?_))
   | exact ih0 _ _ _ _ _
   | exact ih1 _ _ _ _ _ _
   | exact ih2 _ _ _ _ _ _ _
   | exact ih3 _ _ _
   | exact ih4 _ _ _ _
   | exact ih5 _ _ _ _ _
   | exact ih6 _ _ _ _ _
   | exact calls_Comes.mono _ _ _ _
   | exact calls_Groups.mono _ _
   | exact davitlaw11_awake.mono _
   | exact davitref02_Short.mono _ _
   | exact LeO.none _
   | refine LeO.ite ?_ ?_
   | refine LeO.bind ?_ (fun _ => ?_)
  ·intro y0 y1 y2 y3 y4 y5
   unfold davitlaw11_CallsGroups.l1
   repeat' first
   | (with_reducible exact ih0 _ _ _ _ _)
   | (with_reducible exact ih1 _ _ _ _ _ _)
   | (with_reducible exact ih2 _ _ _ _ _ _ _)
   | (with_reducible exact ih3 _ _ _)
   | (with_reducible exact ih4 _ _ _ _)
   | (with_reducible exact ih5 _ _ _ _ _)
   | (with_reducible exact ih6 _ _ _ _ _)
   | (with_reducible exact calls_Comes.mono _ _ _ _)
   | (with_reducible exact calls_Groups.mono _ _)
   | (with_reducible exact davitlaw11_awake.mono _)
   | (with_reducible exact davitref02_Short.mono _ _)
   | (with_reducible exact LeO.refl _)
   | (with_reducible exact LeO.none _)
   | (with_reducible refine LeO.ite ?_ ?_)
   | (with_reducible refine LeO.bind ?_ (fun _ => ?_))
   | exact ih0 _ _ _ _ _
   | exact ih1 _ _ _ _ _ _
   | exact ih2 _ _ _ _ _ _ _
   | exact ih3 _ _ _
   | exact ih4 _ _ _ _
   | exact ih5 _ _ _ _ _
   | exact ih6 _ _ _ _ _
   | exact calls_Comes.mono _ _ _ _
   | exact calls_Groups.mono _ _
   | exact davitlaw11_awake.mono _
   | exact davitref02_Short.mono _ _
   | exact LeO.none _
   | refine LeO.ite ?_ ?_
   | refine LeO.bind ?_ (fun _ => ?_)
  ·intro y0 y1 y2 y3 y4 y5 y6
   unfold davitlaw11_CallsGroups.j2
   repeat' first
   | (with_reducible exact ih0 _ _ _ _ _)
   | (with_reducible exact ih1 _ _ _ _ _ _)
   | (with_reducible exact ih2 _ _ _ _ _ _ _)
   | (with_reducible exact ih3 _ _ _)
   | (with_reducible exact ih4 _ _ _ _)
   | (with_reducible exact ih5 _ _ _ _ _)
   | (with_reducible exact ih6 _ _ _ _ _)
   | (with_reducible exact calls_Comes.mono _ _ _ _)
   | (with_reducible exact calls_Groups.mono _ _)
   | (with_reducible exact davitlaw11_awake.mono _)
   | (with_reducible exact davitref02_Short.mono _ _)
   | (with_reducible exact LeO.refl _)
   | (with_reducible exact LeO.none _)
   | (with_reducible refine LeO.ite ?_ ?_)
   | (with_reducible refine LeO.bind ?_ (fun _ => ?_))
   | exact ih0 _ _ _ _ _
   | exact ih1 _ _ _ _ _ _
   | exact ih2 _ _ _ _ _ _ _
   | exact ih3 _ _ _
   | exact ih4 _ _ _ _
   | exact ih5 _ _ _ _ _
   | exact ih6 _ _ _ _ _
   | exact calls_Comes.mono _ _ _ _
   | exact calls_Groups.mono _ _
   | exact davitlaw11_awake.mono _
   | exact davitref02_Short.mono _ _
   | exact LeO.none _
   | refine LeO.ite ?_ ?_
   | refine LeO.bind ?_ (fun _ => ?_)
  ·intro y0 y1 y2
   unfold davitlaw11_CallsGroups.l2
   repeat' first
   | (with_reducible exact ih0 _ _ _ _ _)
   | (with_reducible exact ih1 _ _ _ _ _ _)
   | (with_reducible exact ih2 _ _ _ _ _ _ _)
   | (with_reducible exact ih3 _ _ _)
   | (with_reducible exact ih4 _ _ _ _)
   | (with_reducible exact ih5 _ _ _ _ _)
   | (with_reducible exact ih6 _ _ _ _ _)
   | (with_reducible exact calls_Comes.mono _ _ _ _)
   | (with_reducible exact calls_Groups.mono _ _)
   | (with_reducible exact davitlaw11_awake.mono _)
   | (with_reducible exact davitref02_Short.mono _ _)
   | (with_reducible exact LeO.refl _)
   | (with_reducible exact LeO.none _)
   | (with_reducible refine LeO.ite ?_ ?_)
   | (with_reducible refine LeO.bind ?_ (fun _ => ?_))
   | exact ih0 _ _ _ _ _
   | exact ih1 _ _ _ _ _ _
   | exact ih2 _ _ _ _ _ _ _
   | exact ih3 _ _ _
   | exact ih4 _ _ _ _
   | exact ih5 _ _ _ _ _
   | exact ih6 _ _ _ _ _
   | exact calls_Comes.mono _ _ _ _
   | exact calls_Groups.mono _ _
   | exact davitlaw11_awake.mono _
   | exact davitref02_Short.mono _ _
   | exact LeO.none _
   | refine LeO.ite ?_ ?_
   | refine LeO.bind ?_ (fun _ => ?_)
  ·intro y0 y1 y2 y3
   unfold davitlaw11_CallsGroups.l3
   repeat' first
   | (with_reducible exact ih0 _ _ _ _ _)
   | (with_reducible exact ih1 _ _ _ _ _ _)
   | (with_reducible exact ih2 _ _ _ _ _ _ _)
   | (with_reducible exact ih3 _ _ _)
   | (with_reducible exact ih4 _ _ _ _)
   | (with_reducible exact ih5 _ _ _ _ _)
   | (with_reducible exact ih6 _ _ _ _ _)
   | (with_reducible exact calls_Comes.mono _ _ _ _)
   | (with_reducible exact calls_Groups.mono _ _)
   | (with_reducible exact davitlaw11_awake.mono _)
   | (with_reducible exact davitref02_Short.mono _ _)
   | (with_reducible exact LeO.refl _)
   | (with_reducible exact LeO.none _)
   | (with_reducible refine LeO.ite ?_ ?_)
   | (with_reducible refine LeO.bind ?_ (fun _ => ?_))
   | exact ih0 _ _ _ _ _
   | exact ih1 _ _ _ _ _ _
   | exact ih2 _ _ _ _ _ _ _
   | exact ih3 _ _ _
   | exact ih4 _ _ _ _
   | exact ih5 _ _ _ _ _
   | exact ih6 _ _ _ _ _
   | exact calls_Comes.mono _ _ _ _
   | exact calls_Groups.mono _ _
   | exact davitlaw11_awake.mono _
   | exact davitref02_Short.mono _ _
   | exact LeO.none _
   | refine LeO.ite ?_ ?_
   | refine LeO.bind ?_ (fun _ => ?_)
  ·intro y0 y1 y2 y3 y4
   unfold davitlaw11_CallsGroups.j5
   repeat' first
   | (with_reducible exact ih0 _ _ _ _ _)
   | (with_reducible exact ih1 _ _ _ _ _ _)
   | (with_reducible exact ih2 _ _ _ _ _ _ _)
   | (with_reducible exact ih3 _ _ _)
   | (with_reducible exact ih4 _ _ _ _)
   | (with_reducible exact ih5 _ _ _ _ _)
   | (with_reducible exact ih6 _ _ _ _ _)
   | (with_reducible exact calls_Comes.mono _ _ _ _)
   | (with_reducible exact calls_Groups.mono _ _)
   | (with_reducible exact davitlaw11_awake.mono _)
   | (with_reducible exact davitref02_Short.mono _ _)
   | (with_reducible exact LeO.refl _)
   | (with_reducible exact LeO.none _)
   | (with_reducible refine LeO.ite ?_ ?_)
   | (with_reducible refine LeO.bind ?_ (fun _ => ?_))
   | exact ih0 _ _ _ _ _
   | exact ih1 _ _ _ _ _ _
   | exact ih2 _ _ _ _ _ _ _
   | exact ih3 _ _ _
   | exact ih4 _ _ _ _
   | exact ih5 _ _ _ _ _
   | exact ih6 _ _ _ _ _
   | exact calls_Comes.mono _ _ _ _
   | exact calls_Groups.mono _ _
   | exact davitlaw11_awake.mono _
   | exact davitref02_Short.mono _ _
   | exact LeO.none _
   | refine LeO.ite ?_ ?_
   | refine LeO.bind ?_ (fun _ => ?_)
  ·intro y0 y1 y2 y3 y4
   unfold davitlaw11_CallsGroups.j6
   repeat' first
   | (with_reducible exact ih0 _ _ _ _ _)
   | (with_reducible exact ih1 _ _ _ _ _ _)
   | (with_reducible exact ih2 _ _ _ _ _ _ _)
   | (with_reducible exact ih3 _ _ _)
   | (with_reducible exact ih4 _ _ _ _)
   | (with_reducible exact ih5 _ _ _ _ _)
   | (with_reducible exact ih6 _ _ _ _ _)
   | (with_reducible exact calls_Comes.mono _ _ _ _)
   | (with_reducible exact calls_Groups.mono _ _)
   | (with_reducible exact davitlaw11_awake.mono _)
   | (with_reducible exact davitref02_Short.mono _ _)
   | (with_reducible exact LeO.refl _)
   | (with_reducible exact LeO.none _)
   | (with_reducible refine LeO.ite ?_ ?_)
   | (with_reducible refine LeO.bind ?_ (fun _ => ?_))
   | exact ih0 _ _ _ _ _
   | exact ih1 _ _ _ _ _ _
   | exact ih2 _ _ _ _ _ _ _
   | exact ih3 _ _ _
   | exact ih4 _ _ _ _
   | exact ih5 _ _ _ _ _
   | exact ih6 _ _ _ _ _
   | exact calls_Comes.mono _ _ _ _
   | exact calls_Groups.mono _ _
   | exact davitlaw11_awake.mono _
   | exact davitref02_Short.mono _ _
   | exact LeO.none _
   | refine LeO.ite ?_ ?_
   | refine LeO.bind ?_ (fun _ => ?_)
theorem davitlaw11_CallsGroups.mono : ∀ a0 k, LeO (davitlaw11_CallsGroups.f k a0) (davitlaw11_CallsGroups.f (k + 1) a0) := by
 intro a0 k
 obtain ⟨ih0, ih1, ih2, ih3, ih4, ih5, ih6⟩ := davitlaw11_CallsGroups.mono_l k
 unfold davitlaw11_CallsGroups.f
 repeat' first
   | (with_reducible exact ih0 _ _ _ _ _)
   | (with_reducible exact ih1 _ _ _ _ _ _)
   | (with_reducible exact ih2 _ _ _ _ _ _ _)
   | (with_reducible exact ih3 _ _ _)
   | (with_reducible exact ih4 _ _ _ _)
   | (with_reducible exact ih5 _ _ _ _ _)
   | (with_reducible exact ih6 _ _ _ _ _)
   | (with_reducible exact calls_Comes.mono _ _ _ _)
   | (with_reducible exact calls_Groups.mono _ _)
   | (with_reducible exact davitlaw11_awake.mono _)
   | (with_reducible exact davitref02_Short.mono _ _)
   | (with_reducible exact LeO.refl _)
   | (with_reducible exact LeO.none _)
   | (with_reducible refine LeO.ite ?_ ?_)
   | (with_reducible refine LeO.bind ?_ (fun _ => ?_))
   | exact ih0 _ _ _ _ _
   | exact ih1 _ _ _ _ _ _
   | exact ih2 _ _ _ _ _ _ _
   | exact ih3 _ _ _
   | exact ih4 _ _ _ _
   | exact ih5 _ _ _ _ _
   | exact ih6 _ _ _ _ _
   | exact calls_Comes.mono _ _ _ _
   | exact calls_Groups.mono _ _
   | exact davitlaw11_awake.mono _
   | exact davitref02_Short.mono _ _
   | exact LeO.none _
   | refine LeO.ite ?_ ?_
   | refine LeO.bind ?_ (fun _ => ?_)
def davitlaw11_CallsGroups.T14 : Bool × List (List Nat × List Nat) := (true, [([], []), ([], []), ([0, 1], [0, 1]), ([2], [2]), ([], []), ([3, 4], [3, 4]), ([5], [5]), ([6], [6]), ([7], [7]), ([8], [8]), ([8], [8]), ([9, 10, 8], [8, 9, 10]), ([11, 8], [8, 11]), ([8], [8]), ([12, 13, 8], [8, 12, 13]), ([14, 8], [8, 14]), ([8], [8]), ([16, 8], [8, 16]), ([15, 17, 8], [8, 15, 17]), ([8, 18], [8, 18]), ([19, 8], [19]), ([20], [20]), ([21, 20], [20, 21]), ([22, 20, 20], [20, 22]), ([23], [23]), ([23], [23]), ([24, 25, 23], [23, 24, 25]), ([26, 23], [23, 26]), ([23], [23]), ([27, 28, 23], [23, 27, 28]), ([29, 23], [23, 29]), ([23], [23]), ([23], [23]), ([31, 32, 23], [23, 31, 32]), ([33, 23], [23, 33]), ([23], [23]), ([35, 23], [23, 35]), ([34, 36, 23], [23, 34, 36]), ([37, 23], [23, 37]), ([30, 38, 23], [23, 30, 38]), ([23, 39, 20], [20, 23, 39]), ([20, 40], [20, 40])])
def davitlaw11_CallsGroups.B14 : List Nat := [0, 0, 3, 7, 0, 31, 63, 127, 255, 511, 511, 2047, 4095, 511, 16383, 32767, 511, 66047, 262143, 524287, 1048575, 2097151, 4194303, 8388607, 16777215, 16777215, 67108863, 134217727, 16777215, 536870911, 1073741823, 16777215, 16777215, 6459228159, 15049162751, 16777215, 34376515583, 135308247039, 272747200511, 549755813887, 1099511627775, 2199023255551]
theorem davitlaw11_CallsGroups.tab14 : rtab .any (opsOf Try.f3 14) = davitlaw11_CallsGroups.T14 := by kernel_rfl
theorem davitlaw11_CallsGroups.bits14 : waitsOk davitlaw11_CallsGroups.T14.2 davitlaw11_CallsGroups.B14 = true := by kernel_rfl
def davitlaw11_CallsGroups.T27 : Bool × List (List Nat × List Nat) := (true, [([], []), ([], []), ([], []), ([1, 2], [1, 2]), ([3], [3]), ([], []), ([], []), ([5, 6], [5, 6]), ([7], [7]), ([4, 8], [4, 8]), ([0, 9], [0, 9]), ([10], [10]), ([11], [11]), ([11], [11]), ([11], [11]), ([12, 13, 14, 11, 11], [11, 12, 13, 14]), ([15, 15, 11], [11, 15]), ([16], [16]), ([16], [16]), ([17, 18, 16], [16, 17, 18]), ([19, 16], [16, 19]), ([16], [16]), ([16], [16]), ([21, 22, 16], [16, 21, 22]), ([23, 16], [16, 23]), ([20, 24, 16], [16, 20, 24]), ([16, 25, 11], [11, 16, 25]), ([11, 26], [11, 26])])
def davitlaw11_CallsGroups.B27 : List Nat := [0, 0, 0, 6, 14, 0, 0, 96, 224, 510, 1023, 2047, 4095, 4095, 4095, 32767, 65535, 131071, 131071, 524287, 1048575, 131071, 131071, 6422527, 14811135, 33554431, 67108863, 134217727]
theorem davitlaw11_CallsGroups.tab27 : rtab .any (opsOf Try.f3 27) = davitlaw11_CallsGroups.T27 := by kernel_rfl
theorem davitlaw11_CallsGroups.bits27 : waitsOk davitlaw11_CallsGroups.T27.2 davitlaw11_CallsGroups.B27 = true := by kernel_rfl
def bA (n m : Nat) : Array Bool := ((List.range n).map fun i => m.testBit i).toArray
theorem sA {α : Type} (l : List α) (i : Nat) (a : α) : l.toArray.setIfInBounds i a = (l.set i a).toArray := by simp only [List.setIfInBounds_toArray]
theorem sB {α : Type} (x : α) (xs : List α) (a : α) : (x :: xs).set 0 a = a :: xs := List.set_cons_zero
theorem sC {α : Type} (x : α) (xs : List α) (n : Nat) (a : α) : (x :: xs).set (n + 1) a = x :: xs.set n a := List.set_cons_succ
set_option maxHeartbeats 160000000 in
set_option maxRecDepth 100000 in
theorem davitlaw11_CallsGroups.calls (k : Nat) (A0_0 : Option Addr) (c0_0 : Nat) (l0_0 : List (S33)) (r : Bool) (w : World) (hr0_0 : Kd.C k33 w A0_0 l0_0.length l0_0) (hc0_0 : l0_0.length ≤ c0_0) (h : davitlaw11_CallsGroups.f k l0_0 = some r) :
  Calls Try.prog 3 #[.agg #[.slice A0_0 l0_0.length c0_0]] w fun e w' => e = .returned (.bool r) ∧ Below w.heap.size w w' := by
 have hu24 := Try.underlying24
 have HR0_0 := Aside0.mk hr0_0
 have HC0_0 := Aside0.mk hc0_0
 clear hr0_0 hc0_0
 have HB := Aside0.mk (Below.refl w.heap.size w)
 have H : ((davitlaw11_awake.f k).bind fun t143 => (if t143 = true then ((davitref02_Short.f k l0_0).bind fun t144 => (if t144 = true then ((calls_Groups.f k l0_0).bind fun t145 => (if 0 ≤ (l0_0.length : Int) then (if ((l0_0.length : Int) : Int).toNat ≤ 35184372088832 then (davitlaw11_CallsGroups.l0 k t145 (List.replicate ((l0_0.length : Int) : Int).toNat 0) 0 0 l0_0) else (none)) else (none))) else (some true))) else (some false))) = some r := h
 clear h
 replace H := Option.bind_eq_some_iff.mp H
 obtain ⟨t143, A20, H⟩ := H
 replace H : (if t143 = true then ((davitref02_Short.f k l0_0).bind fun t144 => (if t144 = true then ((calls_Groups.f k l0_0).bind fun t145 => (if 0 ≤ (l0_0.length : Int) then (if ((l0_0.length : Int) : Int).toNat ≤ 35184372088832 then (davitlaw11_CallsGroups.l0 k t145 (List.replicate ((l0_0.length : Int) : Int).toNat 0) 0 0 l0_0) else (none)) else (none))) else (some true))) else (some false)) = some r := H
 have A2 := Aside0.mk A20
 clear A20
 by_cases c3 : t143 = true
 rotate_left
 ·replace c3 := Bool.eq_false_iff.mpr c3
  subst c3
  have H1 : (some false) = some r := by rw [if_neg (show ¬ (false = true) by decide)] at H; exact H
  clear H
  have H := H1
  clear H1
  obtain rfl := Option.some.inj H
  go_enter Try.func3, Try.ntmps3
  go_wp2_with (first | ((with_reducible refine gate_dst (N := 1) rfl ?_); (try (refine gate_guard (by rfl) ?_; dsimp only)); refine box_event ?hg (N := 1) ?hd (cs := #[.slice A0_0 l0_0.length c0_0]) (t := 24) ?hr ?_; (case hd => rfl); (case hg => rfl); (case hr => first | (go_simp; done) | (go_simp; rfl)); intro gb142 hg w84 hbox hb; have n0_ := Aside0.mk (below_step (by repeat (first | (with_reducible first | exact HB.out | apply below_alloc | apply pw_below_drewN | apply below_drew1) | exact HB.out)) hb); have n1_ := Aside0.mk (hbox); have n2_ := Aside0.mk ((by rw [hg]; exact (below_size (by repeat (first | (with_reducible first | exact HB.out | apply below_alloc | apply pw_below_drewN | apply below_drew1) | exact HB.out))) : w.heap.size ≤ gb142)); have n3_ := Aside0.mk ((by rw [hg]; exact (below_size (by repeat (first | (with_reducible first | exact HB.out | apply below_alloc | apply pw_below_drewN | apply below_drew1) | exact HB.out))) : w.heap.size ≤ gb142)); clear HB; have HB := n0_; have BK142 := n1_; have GW142 := n2_; have GE142 := n3_; clear n0_ n1_ n2_ n3_; clear hb hbox hg) | ((with_reducible refine gate_callee (f := 6) rfl ?_); refine goesL_ (some 11) rfl rfl Try.func6 (by kernel_rfl) rfl #[] rfl (by (try simp only [List.map_toArray, List.map_cons, List.map_nil]); first | done | rfl | (simp only [List.length_drop, List.length_take]; rfl)) ?_; (with_reducible refine (davitlaw11_awake.calls k  false _ A2.out).mono ?_); rintro e w85 ⟨rfl, hb⟩; refine ⟨_, rfl, ?_⟩; have n0_ := Aside0.mk (blk_below (g := gb142) (o := .cells #[.slice A0_0 l0_0.length c0_0] 24 (0, 0)) (by (with_reducible repeat (first | refine blk_drewN ?_ _ | refine blk_drew ?_ | refine blk_alloc ?_ _)); exact BK142.out) hb); have n1_ := Aside0.mk (below_step (by repeat (first | (with_reducible first | exact HB.out | apply below_alloc | apply pw_below_drewN | apply below_drew1 | refine below_set ?_ GE142.out) | exact HB.out)) hb); clear BK142; clear HB; have BK142 := n0_; have HB := n1_; clear n0_ n1_; (try clear hb); (try clear hb2); (try clear hk); (try clear hi)))
  go_ret
  exact ⟨by first | rfl | (simp [errW_none, errW_some] <;> rfl) | (simp [*, errW_none, errW_some] <;> rfl), by repeat (first | (with_reducible first | exact HB.out | apply below_alloc | apply pw_below_drewN | apply below_drew1 | refine below_set ?_ GE142.out) | exact HB.out)⟩
 subst c3
 have H1 : ((davitref02_Short.f k l0_0).bind fun t144 => (if t144 = true then ((calls_Groups.f k l0_0).bind fun t145 => (if 0 ≤ (l0_0.length : Int) then (if ((l0_0.length : Int) : Int).toNat ≤ 35184372088832 then (davitlaw11_CallsGroups.l0 k t145 (List.replicate ((l0_0.length : Int) : Int).toNat 0) 0 0 l0_0) else (none)) else (none))) else (some true))) = some r := by rw [if_pos rfl] at H; exact H
 clear H
 have H := H1
 clear H1
 replace H := Option.bind_eq_some_iff.mp H
 obtain ⟨t144, A40, H⟩ := H
 replace H : (if t144 = true then ((calls_Groups.f k l0_0).bind fun t145 => (if 0 ≤ (l0_0.length : Int) then (if ((l0_0.length : Int) : Int).toNat ≤ 35184372088832 then (davitlaw11_CallsGroups.l0 k t145 (List.replicate ((l0_0.length : Int) : Int).toNat 0) 0 0 l0_0) else (none)) else (none))) else (some true)) = some r := H
 have A4 := Aside0.mk A40
 clear A40
 by_cases c5 : t144 = true
 rotate_left
 ·replace c5 := Bool.eq_false_iff.mpr c5
  subst c5
  have H1 : (some true) = some r := by rw [if_neg (show ¬ (false = true) by decide)] at H; exact H
  clear H
  have H := H1
  clear H1
  obtain rfl := Option.some.inj H
  go_enter Try.func3, Try.ntmps3
  go_wp2_with (first | ((with_reducible refine gate_dst (N := 1) rfl ?_); (try (refine gate_guard (by rfl) ?_; dsimp only)); refine box_event ?hg (N := 1) ?hd (cs := #[.slice A0_0 l0_0.length c0_0]) (t := 24) ?hr ?_; (case hd => rfl); (case hg => rfl); (case hr => first | (go_simp; done) | (go_simp; rfl)); intro gb142 hg w80 hbox hb; have n0_ := Aside0.mk (below_step (by repeat (first | (with_reducible first | exact HB.out | apply below_alloc | apply pw_below_drewN | apply below_drew1) | exact HB.out)) hb); have n1_ := Aside0.mk (hbox); have n2_ := Aside0.mk ((by rw [hg]; exact (below_size (by repeat (first | (with_reducible first | exact HB.out | apply below_alloc | apply pw_below_drewN | apply below_drew1) | exact HB.out))) : w.heap.size ≤ gb142)); have n3_ := Aside0.mk ((by rw [hg]; exact (below_size (by repeat (first | (with_reducible first | exact HB.out | apply below_alloc | apply pw_below_drewN | apply below_drew1) | exact HB.out))) : w.heap.size ≤ gb142)); clear HB; have HB := n0_; have BK142 := n1_; have GW142 := n2_; have GE142 := n3_; clear n0_ n1_ n2_ n3_; clear hb hbox hg) | ((with_reducible refine gate_callee (f := 6) rfl ?_); refine goesL_ (some 11) rfl rfl Try.func6 (by kernel_rfl) rfl #[] rfl (by (try simp only [List.map_toArray, List.map_cons, List.map_nil]); first | done | rfl | (simp only [List.length_drop, List.length_take]; rfl)) ?_; (with_reducible refine (davitlaw11_awake.calls k  true _ A2.out).mono ?_); rintro e w81 ⟨rfl, hb⟩; refine ⟨_, rfl, ?_⟩; have n0_ := Aside0.mk (blk_below (g := gb142) (o := .cells #[.slice A0_0 l0_0.length c0_0] 24 (0, 0)) (by (with_reducible repeat (first | refine blk_drewN ?_ _ | refine blk_drew ?_ | refine blk_alloc ?_ _)); exact BK142.out) hb); have n1_ := Aside0.mk (below_step (by repeat (first | (with_reducible first | exact HB.out | apply below_alloc | apply pw_below_drewN | apply below_drew1 | refine below_set ?_ GE142.out) | exact HB.out)) hb); clear BK142; clear HB; have BK142 := n0_; have HB := n1_; clear n0_ n1_; (try clear hb); (try clear hb2); (try clear hk); (try clear hi); have hcz82_0 : w81.cell? ⟨gb142, 0, none⟩ = some (.slice A0_0 l0_0.length c0_0) := (blk_cell BK142.out 0).trans rfl; have hfz82_0 := blk_frozen BK142.out 0) | ((with_reducible refine gate_callee (f := 7) rfl ?_); refine goesL_ (some 14) rfl rfl Try.func7 (by kernel_rfl) rfl #[.agg #[.slice A0_0 l0_0.length c0_0]] rfl (by (try simp only [List.map_toArray, List.map_cons, List.map_nil]); first | done | rfl | (simp only [List.length_drop, List.length_take]; rfl)) ?_; (with_reducible refine (davitref02_Short.calls k _ _ l0_0 false _ ?side1 ?side2 A4.out).mono ?_); (case side1 => repeat (first | exact (Kd.C_below HR0_0.out HB.out) | (with_reducible refine Kd.C_alloc ?_ _) | (with_reducible refine Kd.C_drewN ?_ _) | (with_reducible refine Kd.C_drew ?_))); (case side2 => exact HC0_0.out); rintro e w83 ⟨rfl, hb⟩; refine ⟨_, rfl, ?_⟩; have n0_ := Aside0.mk (blk_below (g := gb142) (o := .cells #[.slice A0_0 l0_0.length c0_0] 24 (0, 0)) (by (with_reducible repeat (first | refine blk_drewN ?_ _ | refine blk_drew ?_ | refine blk_alloc ?_ _)); exact BK142.out) hb); have n1_ := Aside0.mk (below_step (by repeat (first | (with_reducible first | exact HB.out | apply below_alloc | apply pw_below_drewN | apply below_drew1 | refine below_set ?_ GE142.out) | exact HB.out)) hb); clear BK142; clear HB; have BK142 := n0_; have HB := n1_; clear n0_ n1_; (try clear hb); (try clear hb2); (try clear hk); (try clear hi)))
  go_ret
  exact ⟨by first | rfl | (simp [errW_none, errW_some] <;> rfl) | (simp [*, errW_none, errW_some] <;> rfl), by repeat (first | (with_reducible first | exact HB.out | apply below_alloc | apply pw_below_drewN | apply below_drew1 | refine below_set ?_ GE142.out) | exact HB.out)⟩
 subst c5
 have H1 : ((calls_Groups.f k l0_0).bind fun t145 => (if 0 ≤ (l0_0.length : Int) then (if ((l0_0.length : Int) : Int).toNat ≤ 35184372088832 then (davitlaw11_CallsGroups.l0 k t145 (List.replicate ((l0_0.length : Int) : Int).toNat 0) 0 0 l0_0) else (none)) else (none))) = some r := by rw [if_pos rfl] at H; exact H
 clear H
 have H := H1
 clear H1
 replace H := Option.bind_eq_some_iff.mp H
 obtain ⟨t145, A60, H⟩ := H
 replace H : (if 0 ≤ (l0_0.length : Int) then (if ((l0_0.length : Int) : Int).toNat ≤ 35184372088832 then (davitlaw11_CallsGroups.l0 k t145 (List.replicate ((l0_0.length : Int) : Int).toNat 0) 0 0 l0_0) else (none)) else (none)) = some r := H
 have A6 := Aside0.mk A60
 clear A60
 by_cases c7 : 0 ≤ (l0_0.length : Int)
 rotate_left
 ·rw [if_neg c7] at H
  exact absurd H (by simp)
 rw [if_pos c7] at H
 have c7b0 := eq_true c7
 have c7b1 : decide (0 ≤ (l0_0.length : Int)) = true := decide_eq_true c7
 clear c7
 by_cases c8 : ((l0_0.length : Int) : Int).toNat ≤ 35184372088832
 rotate_left
 ·rw [if_neg c8] at H
  exact absurd H (by simp)
 rw [if_pos c8] at H
 have c8b0 := eq_true c8
 have c8b1 : decide (((l0_0.length : Int) : Int).toNat ≤ 35184372088832) = true := decide_eq_true c8
 clear c8
 obtain ⟨y148, hy148⟩ : ∃ y_ : List Int, y_ = (List.replicate ((l0_0.length : Int) : Int).toNat 0) := ⟨_, rfl⟩
 replace H : (davitlaw11_CallsGroups.l0 k t145 y148 0 0 l0_0) = some r := by first | (rw [hy148]; with_reducible exact H) | (have H2_ := (Option.bind_some _ _).symm.trans H; rw [hy148]; with_reducible exact H2_) | (have H2_ := (Option.bind_some _ _).symm.trans H; with_reducible exact H2_) | with_reducible exact H | (rw [hy148]; exact H) | exact H
 have Ny148 := Aside0.mk hy148
 clear hy148
 have H' := Aside0.mk H
 clear H
 go_enter Try.func3, Try.ntmps3
 go_wp2_with (first | ((with_reducible refine gate_dst (N := 1) rfl ?_); (try (refine gate_guard (by rfl) ?_; dsimp only)); refine box_event ?hg (N := 1) ?hd (cs := #[.slice A0_0 l0_0.length c0_0]) (t := 24) ?hr ?_; (case hd => rfl); (case hg => rfl); (case hr => first | (go_simp; done) | (go_simp; rfl)); intro gb142 hg w9 hbox hb; have n0_ := Aside0.mk (below_step (by repeat (first | (with_reducible first | exact HB.out | apply below_alloc | apply pw_below_drewN | apply below_drew1) | exact HB.out)) hb); have n1_ := Aside0.mk (hbox); have n2_ := Aside0.mk ((by rw [hg]; exact (below_size (by repeat (first | (with_reducible first | exact HB.out | apply below_alloc | apply pw_below_drewN | apply below_drew1) | exact HB.out))) : w.heap.size ≤ gb142)); have n3_ := Aside0.mk ((by rw [hg]; exact (below_size (by repeat (first | (with_reducible first | exact HB.out | apply below_alloc | apply pw_below_drewN | apply below_drew1) | exact HB.out))) : w.heap.size ≤ gb142)); clear HB; have HB := n0_; have BK142 := n1_; have GW142 := n2_; have GE142 := n3_; clear n0_ n1_ n2_ n3_; clear hb hbox hg) | ((with_reducible refine gate_callee (f := 6) rfl ?_); refine goesL_ (some 11) rfl rfl Try.func6 (by kernel_rfl) rfl #[] rfl (by (try simp only [List.map_toArray, List.map_cons, List.map_nil]); first | done | rfl | (simp only [List.length_drop, List.length_take]; rfl)) ?_; (with_reducible refine (davitlaw11_awake.calls k  true _ A2.out).mono ?_); rintro e w10 ⟨rfl, hb⟩; refine ⟨_, rfl, ?_⟩; have n0_ := Aside0.mk (blk_below (g := gb142) (o := .cells #[.slice A0_0 l0_0.length c0_0] 24 (0, 0)) (by (with_reducible repeat (first | refine blk_drewN ?_ _ | refine blk_drew ?_ | refine blk_alloc ?_ _)); exact BK142.out) hb); have n1_ := Aside0.mk (below_step (by repeat (first | (with_reducible first | exact HB.out | apply below_alloc | apply pw_below_drewN | apply below_drew1 | refine below_set ?_ GE142.out) | exact HB.out)) hb); clear BK142; clear HB; have BK142 := n0_; have HB := n1_; clear n0_ n1_; (try clear hb); (try clear hb2); (try clear hk); (try clear hi); have hcz11_0 : w10.cell? ⟨gb142, 0, none⟩ = some (.slice A0_0 l0_0.length c0_0) := (blk_cell BK142.out 0).trans rfl; have hfz11_0 := blk_frozen BK142.out 0) | ((with_reducible refine gate_callee (f := 7) rfl ?_); refine goesL_ (some 14) rfl rfl Try.func7 (by kernel_rfl) rfl #[.agg #[.slice A0_0 l0_0.length c0_0]] rfl (by (try simp only [List.map_toArray, List.map_cons, List.map_nil]); first | done | rfl | (simp only [List.length_drop, List.length_take]; rfl)) ?_; (with_reducible refine (davitref02_Short.calls k _ _ l0_0 true _ ?side1 ?side2 A4.out).mono ?_); (case side1 => repeat (first | exact (Kd.C_below HR0_0.out HB.out) | (with_reducible refine Kd.C_alloc ?_ _) | (with_reducible refine Kd.C_drewN ?_ _) | (with_reducible refine Kd.C_drew ?_))); (case side2 => exact HC0_0.out); rintro e w12 ⟨rfl, hb⟩; refine ⟨_, rfl, ?_⟩; have n0_ := Aside0.mk (blk_below (g := gb142) (o := .cells #[.slice A0_0 l0_0.length c0_0] 24 (0, 0)) (by (with_reducible repeat (first | refine blk_drewN ?_ _ | refine blk_drew ?_ | refine blk_alloc ?_ _)); exact BK142.out) hb); have n1_ := Aside0.mk (below_step (by repeat (first | (with_reducible first | exact HB.out | apply below_alloc | apply pw_below_drewN | apply below_drew1 | refine below_set ?_ GE142.out) | exact HB.out)) hb); clear BK142; clear HB; have BK142 := n0_; have HB := n1_; clear n0_ n1_; (try clear hb); (try clear hb2); (try clear hk); (try clear hi); have hcz13_0 : w12.cell? ⟨gb142, 0, none⟩ = some (.slice A0_0 l0_0.length c0_0) := (blk_cell BK142.out 0).trans rfl; have hfz13_0 := blk_frozen BK142.out 0) | ((with_reducible refine gate_callee (f := 8) rfl ?_); refine goesL_ (some 17) rfl rfl Try.func8 (by kernel_rfl) rfl #[.agg #[.slice A0_0 l0_0.length c0_0]] rfl (by (try simp only [List.map_toArray, List.map_cons, List.map_nil]); first | done | rfl | (simp only [List.length_drop, List.length_take]; rfl)) ?_; (with_reducible refine (calls_Groups.calls k _ _ l0_0 t145 _ ?side1 ?side2 A6.out).mono ?_); (case side1 => repeat (first | exact (Kd.C_below HR0_0.out HB.out) | (with_reducible refine Kd.C_alloc ?_ _) | (with_reducible refine Kd.C_drewN ?_ _) | (with_reducible refine Kd.C_drew ?_))); (case side2 => exact HC0_0.out); rintro e w14 ⟨v146, rfl, ho0, hb⟩; refine ⟨_, rfl, ?_⟩; have n0_ := Aside0.mk (Kd.S_lower ho0 (below_size (by repeat (first | (with_reducible first | exact HB.out | apply below_alloc | apply pw_below_drewN | apply below_drew1 | refine below_set ?_ GE142.out) | exact HB.out)))); have n1_ := Aside0.mk (blk_below (g := gb142) (o := .cells #[.slice A0_0 l0_0.length c0_0] 24 (0, 0)) (by (with_reducible repeat (first | refine blk_drewN ?_ _ | refine blk_drew ?_ | refine blk_alloc ?_ _)); exact BK142.out) hb); have n2_ := Aside0.mk (below_step (by repeat (first | (with_reducible first | exact HB.out | apply below_alloc | apply pw_below_drewN | apply below_drew1 | refine below_set ?_ GE142.out) | exact HB.out)) hb); clear BK142; clear HB; have HO147 := n0_; have BK142 := n1_; have HB := n2_; clear n0_ n1_ n2_; (try clear hb); (try clear hb2); (try clear hk); (try clear hi); (try clear ho0); have hcz15_0 : w14.cell? ⟨gb142, 0, none⟩ = some (.slice A0_0 l0_0.length c0_0) := (blk_cell BK142.out 0).trans rfl; have hfz15_0 := blk_frozen BK142.out 0) | ((with_reducible refine gate_dst (N := 21) rfl ?_); (try (refine gate_guard (by rfl) ?_; dsimp only)); refine Kd.R_make (Kd.int .i64) _ 3 rfl (N := 21) rfl 29 _ _ rfl (l0_0.length : Int) rfl rfl Try.underlying29 (.int .i64 0) 8 info3 rfl (by decide) (by omega) 0 (ok := fun _ => True) (okp := fun _ => True) rfl (fun _ hk => hk) trivial (of_decide_eq_true (by first | (with_reducible assumption) | assumption)) (Nat.le_trans (Nat.mul_le_mul_right _ (of_decide_eq_true (by first | (with_reducible assumption) | assumption) : (l0_0.length : Int).toNat ≤ 35184372088832)) (by omega)) (Below.refl _ _) (Nat.le_refl _) ?_; intro v149 w16 ho17 hb hg_ hnew_; clear hg_ hnew_; (first | rw [← Ny148.out] at ho17 | (simp only [Int.reduceToNat] at ho17; rw [← Ny148.out] at ho17)); have n0_ := Aside0.mk (Kd.S_elder' (by (with_reducible repeat (first | apply Kd.S_alloc | apply Kd.S_drewN | apply Kd.S_drew)); exact HO147.out) (Kd.R_base ho17) hb); have n1_ := Aside0.mk (Kd.R_lower ho17 (below_size (by repeat (first | (with_reducible first | exact HB.out | apply below_alloc | apply pw_below_drewN | apply below_drew1 | refine below_set ?_ GE142.out) | exact HB.out)))); have n2_ := Aside0.mk (blk_below (g := gb142) (o := .cells #[.slice A0_0 l0_0.length c0_0] 24 (0, 0)) (by (with_reducible repeat (first | refine blk_drewN ?_ _ | refine blk_drew ?_ | refine blk_alloc ?_ _)); exact BK142.out) hb); have n3_ := Aside0.mk (below_step (by repeat (first | (with_reducible first | exact HB.out | apply below_alloc | apply pw_below_drewN | apply below_drew1 | refine below_set ?_ GE142.out) | exact HB.out)) hb); clear HO147; clear BK142; clear HB; have HO147 := n0_; have HO150 := n1_; have BK142 := n2_; have HB := n3_; clear n0_ n1_ n2_ n3_; clear hb ho17))
 go_loopg [5, 6] k (fun kq v5 v6 w' => ∃ (x4_1 : List Int) (x5_1 : Int) (x6_1 : Int), v5 = .int .i64 x5_1 ∧ v6 = .int .i64 x6_1 ∧ Aside0 (davitlaw11_CallsGroups.l0 kq t145 x4_1 x5_1 x6_1 l0_0 = some r) ∧ Aside0 (kq ≤ k) ∧ Aside0 (Kd.S (Kd.slice 3 (Kd.int .i64)) 29 w' w.heap.size (fun k_ => some k_ ≠ (v149 : Value).ownBlock) v146 t145) ∧ Aside0 (Kd.R (Kd.int .i64) 3 w' w.heap.size (fun _ => True) v149 x4_1) ∧ Aside0 (w'.heap[gb142]? = some (.cells #[(.slice A0_0 l0_0.length c0_0)] 24 (0, 0))) ∧ Aside0 (Below w.heap.size w w'))
 case atStart => exact ⟨(y148), (0), (0), (by first | rfl | (simp; done) | (simp [*]; done)), (by first | rfl | (simp; done) | (simp [*]; done)), H', ⟨Nat.le_refl _⟩, ⟨by (with_reducible repeat (first | apply Kd.S_alloc | apply Kd.S_drewN | apply Kd.S_drew)); exact Kd.S_mono HO147.out (fun _ hk => hk.2)⟩, ⟨by (with_reducible repeat (first | apply Kd.R_alloc | apply Kd.R_drewN | apply Kd.R_drew)); exact HO150.out⟩, ⟨by (with_reducible repeat (first | refine blk_drewN ?_ _ | refine blk_drew ?_ | refine blk_alloc ?_ _)); exact BK142.out⟩, ⟨by repeat (first | (with_reducible first | exact HB.out | apply below_alloc | apply pw_below_drewN | apply below_drew1 | refine below_set ?_ GE142.out) | exact HB.out)⟩⟩
 case round =>
  clear H'
  try clear p2
  try clear c3
  try clear c5
  try clear c6
  try clear c7
  try clear c7b0
  try clear c7b1
  try clear c8
  try clear c8b0
  try clear c8b1
  try clear hcz11_0
  try clear hcz13_0
  try clear hcz15_0
  try clear hfz11_0
  try clear hfz13_0
  try clear hfz15_0
  obtain ⟨x4_1, x5_1, x6_1, rfl, rfl, HA, HK1, HO_3, HO_4, BK142, HB⟩ := hrel
  cases gk with
  | zero => exact absurd HA.out (by simp [davitlaw11_CallsGroups.l0])
  | succ k1 =>
   have H := HA.out
   clear HA
   simp only [davitlaw11_CallsGroups.l0] at H
   by_cases c18 : x6_1 < (t145.length : Int)
   ·rw [if_pos c18] at H
    have c18b0 : decide (x6_1 < (t145.length : Int)) = true := decide_eq_true c18
    clear c18
    have H' := Aside0.mk H
    clear H
    obtain ⟨Ao19, co19, eo19⟩ := Kd.S_slice HO_3.out
    subst eo19
    go_wp2
    go_loopg [5, 7] k1 (fun kq v5 v7 w' => ∃ (x4_2 : List Int) (x5_2 : Int) (x7_2 : Int), v5 = .int .i64 x5_2 ∧ v7 = .int .i64 x7_2 ∧ Aside0 (davitlaw11_CallsGroups.l1 kq t145 x4_2 x5_2 x6_1 x7_2 l0_0 = some r) ∧ Aside0 (kq ≤ k1) ∧ Aside0 (Kd.S (Kd.slice 3 (Kd.int .i64)) 29 w' w.heap.size (fun k_ => some k_ ≠ (v149 : Value).ownBlock) (.slice Ao19 t145.length co19) t145) ∧ Aside0 (Kd.R (Kd.int .i64) 3 w' w.heap.size (fun _ => True) v149 x4_2) ∧ Aside0 (w'.heap[gb142]? = some (.cells #[(.slice A0_0 l0_0.length c0_0)] 24 (0, 0))) ∧ Aside0 (Below w.heap.size w w'))
    case atStart => exact ⟨(x4_1), (x5_1), (0), (by first | rfl | (simp; done) | (simp [*]; done)), (by first | rfl | (simp; done) | (simp [*]; done)), H', ⟨Nat.le_refl _⟩, ⟨by (with_reducible repeat (first | apply Kd.S_alloc | apply Kd.S_drewN | apply Kd.S_drew)); exact HO_3.out⟩, ⟨by (with_reducible repeat (first | apply Kd.R_alloc | apply Kd.R_drewN | apply Kd.R_drew)); exact HO_4.out⟩, ⟨by (with_reducible repeat (first | refine blk_drewN ?_ _ | refine blk_drew ?_ | refine blk_alloc ?_ _)); exact BK142.out⟩, ⟨by repeat (first | (with_reducible first | exact HB.out | apply below_alloc | apply pw_below_drewN | apply below_drew1 | refine below_set ?_ GE142.out) | exact HB.out)⟩⟩
    case round =>
     clear H'
     try clear c1
     try clear p2
     try clear c3
     try clear c5
     try clear c6
     try clear c7
     try clear c7b0
     try clear c7b1
     try clear c8
     try clear c8b0
     try clear c8b1
     try clear c18
     try clear c18b0
     try clear hcz11_0
     try clear hcz13_0
     try clear hcz15_0
     try clear hfz11_0
     try clear hfz13_0
     try clear hfz15_0
     try clear p2
     obtain ⟨x4_2, x5_2, x7_2, rfl, rfl, HA, HK2, HO_3, HO_4, BK142, HB⟩ := hrel
     cases gk with
     | zero => exact absurd HA.out (by simp [davitlaw11_CallsGroups.l1])
     | succ k2 =>
      have H := HA.out
      clear HA
      simp only [davitlaw11_CallsGroups.l1] at H
      by_cases c20 : 0 ≤ x6_1
      ·rw [if_pos c20] at H
       have c20b0 : decide (0 ≤ x6_1) = true := decide_eq_true c20
       clear c20
       by_cases c21 : x6_1 < (t145.length : Int)
       ·rw [if_pos c21] at H
        have c21b0 : decide (x6_1 < (t145.length : Int)) = true := decide_eq_true c21
        clear c21
        by_cases c22 : x7_2 < ((rd_L5 t145 x6_1).length : Int)
        ·rw [if_pos c22] at H
         have c22b0 : decide (x7_2 < ((rd_L5 t145 x6_1).length : Int)) = true := decide_eq_true c22
         clear c22
         have HC23 := Aside0.mk H
         clear H
         have p151 : 0 ≤ (x6_1 : Int) := of_decide_eq_true (by first | (with_reducible assumption) | assumption)
         have q151 : x6_1 < (t145.length : Int) := of_decide_eq_true (by first | (with_reducible assumption) | assumption)
         obtain ⟨ad151, A151_0, c151_0, e151, hx151_0, hl151_0, hi151_0⟩ := at_L5 (Kd.S_reads' HO_3.out).2.2 x6_1 p151 q151
         cases e151
         obtain ⟨ce151, hce151, hMe151, hcc151⟩ := Kd.S_get HO_3.out [] x6_1 p151 (by first | exact q151 | exact of_decide_eq_true (by first | (with_reducible assumption) | assumption) | (have e_ := (Kd.S_reads' HO_3.out).1; omega))
         obtain ⟨ve151_0, rfl, ge151_0⟩ := hMe151
         have hv151_0 := hcc151 0 _ rfl
         rw [Nat.add_zero, show ((Kd.slice 3 (Kd.int .i64))).sz = 1 from rfl, Nat.mul_one] at hv151_0
         replace hv151_0 := Option.some.inj (hv151_0.symm.trans hx151_0)
         rw [hv151_0] at ge151_0
         have HL151_0 := Aside0.mk (show Kd.R (Kd.int .i64) 3 _ _ _ _ (rd_L5 t145 x6_1) from ge151_0)
         clear hv151_0 ge151_0
         clear hcc151 hce151
         have HR151_0 := Aside0.mk hi151_0
         have HC151_0 := Aside0.mk hl151_0
         clear hi151_0 hl151_0
         replace p151 := eq_true p151
         replace q151 := eq_true q151
         go_upto_region 14 with (fail)
         go_cut [78] (fun v78 wc => ∃ (kq : Nat) (x78_22 : Bool), v78 = .bool x78_22 ∧ Aside0 (davitlaw11_CallsGroups.j2 kq t145 x4_2 x5_2 x6_1 x7_2 x78_22 l0_0 = some r) ∧ Aside0 (kq ≤ k2) ∧ Aside0 (Kd.S (Kd.slice 3 (Kd.int .i64)) 29 wc w.heap.size (fun k_ => some k_ ≠ (v149 : Value).ownBlock) (.slice (some ad151) t145.length co19) t145) ∧ Aside0 (Kd.R (Kd.int .i64) 3 wc w.heap.size (fun _ => True) v149 x4_2) ∧ Aside0 (wc.heap[gb142]? = some (.cells #[(.slice A0_0 l0_0.length c0_0)] 24 (0, 0))) ∧ Aside0 (Kd.C (Kd.int .i64) wc A151_0 (rd_L5 t145 x6_1).length (rd_L5 t145 x6_1)) ∧ Aside0 (Below w.heap.size w wc))
         case first =>
          have H := HC23.out
          clear HC23
          by_cases c24 : 0 ≤ x7_2
          ·rw [if_pos c24] at H
           have c24b0 : decide (0 ≤ x7_2) = true := decide_eq_true c24
           clear c24
           (first | rw [c24b0] | (simp only [i64_w, i32_w]; rw [c24b0]) | skip)
           by_cases c25 : (rd (rd_L5 t145 x6_1) x7_2) < 0
           ·rw [if_pos c25] at H
            have c25b0 : decide ((rd (rd_L5 t145 x6_1) x7_2) < 0) = true := decide_eq_true c25
            clear c25
            have H' := Aside0.mk H
            clear H
            try go_wp2
            have n0_ := Aside0.mk (Kd.S_drew HO_3.out)
            have n1_ := Aside0.mk (Kd.R_drew HO_4.out)
            have n2_ := Aside0.mk (Kd.R_drew HL151_0.out)
            have n3_ := Aside0.mk (blk_drew BK142.out)
            have n4_ := Aside0.mk (Kd.C_drew HR151_0.out)
            have n5_ := Aside0.mk (below_drew1 HB.out)
            clear HO_3
            clear HO_4
            clear HL151_0
            clear BK142
            clear HR151_0
            clear HB
            have HO_3 := n0_
            have HO_4 := n1_
            have HL151_0 := n2_
            have BK142 := n3_
            have HR151_0 := n4_
            have HB := n5_
            clear n0_ n1_ n2_ n3_ n4_ n5_
            have p152 : 0 ≤ (x6_1 : Int) := of_decide_eq_true (by first | (with_reducible assumption) | assumption)
            have q152 : x6_1 < (t145.length : Int) := of_decide_eq_true (by first | (with_reducible assumption) | assumption)
            obtain ⟨ad152, A152_0, c152_0, e152, hx152_0, hl152_0, hi152_0⟩ := at_L5 (Kd.S_reads' HO_3.out).2.2 x6_1 p152 q152
            obtain rfl : ad151 = ad152 := (by injection e152)
            obtain ⟨ce152, hce152, hMe152, hcc152⟩ := Kd.S_get HO_3.out [] x6_1 p152 (by first | exact q152 | exact of_decide_eq_true (by first | (with_reducible assumption) | assumption) | (have e_ := (Kd.S_reads' HO_3.out).1; omega))
            obtain ⟨ve152_0, rfl, ge152_0⟩ := hMe152
            have hv152_0 := hcc152 0 _ rfl
            rw [Nat.add_zero, show ((Kd.slice 3 (Kd.int .i64))).sz = 1 from rfl, Nat.mul_one] at hv152_0
            replace hv152_0 := Option.some.inj (hv152_0.symm.trans hx152_0)
            rw [hv152_0] at ge152_0
            have HL152_0 := Aside0.mk (show Kd.R (Kd.int .i64) 3 _ _ _ _ (rd_L5 t145 x6_1) from ge152_0)
            clear hv152_0 ge152_0
            clear hcc152 hce152
            have HR152_0 := Aside0.mk hi152_0
            have HC152_0 := Aside0.mk hl152_0
            clear hi152_0 hl152_0
            replace p152 := eq_true p152
            replace q152 := eq_true q152
            have p153 : 0 ≤ (x7_2 : Int) := of_decide_eq_true (by first | (with_reducible assumption) | assumption)
            have q153 : x7_2 < ((rd_L5 t145 x6_1).length : Int) := of_decide_eq_true (by first | (with_reducible assumption) | assumption)
            obtain ⟨ad153, e153, hx153_0⟩ := Kd.at_int (by repeat (first | (with_reducible exact HR152_0.out) | (with_reducible refine Kd.C_alloc ?_ _) | (with_reducible refine Kd.C_drewN ?_ _) | (with_reducible refine Kd.C_drew ?_) | exact HR152_0.out)) x7_2 p153 q153
            cases e153
            replace p153 := eq_true p153
            replace q153 := eq_true q153
            refine start_ (n := 42) (S := fun w' => w'.cell? (ad151.add (x6_1).toNat) = some (.slice (some ad153) (rd_L5 t145 x6_1).length c152_0) ∧ w'.cell? (ad153.add (x7_2).toNat) = some (.int .i64 (rd (rd_L5 t145 x6_1) x7_2))) (ds := []) (bA 42 0) (by kernel_rfl) rfl rfl ⟨hx152_0, hx153_0⟩ (fun hHeld => ?_); refine with_tabW davitlaw11_CallsGroups.tab14 davitlaw11_CallsGroups.bits14 (fun HT_ HW_ => ?_)
            generalize wr.drew = w26 at HO_3 HO_4 HL151_0 BK142 HR151_0 HB HL152_0 HR152_0 hx152_0 hx153_0 hHeld ⊢
            refine pure_ (i := 0) (N := some 37) (v := ?_) (a' := ?_) (bA 42 1) rfl rfl (any_of HT_.out (by kernel_rfl)) (fun _ _ _ h => h) (Or.inl ⟨by rfl, ?_⟩) ?_ ?_; rotate_left; (focus intro w'; go_simp; with_reducible rfl); rotate_left; (focus simp only [Act.put, sA, sB, sC, i64_w, i32_w]; rfl)
            refine pure_ (i := 1) (N := some 38) (v := ?_) (a' := ?_) (bA 42 3) rfl rfl (any_of HT_.out (by kernel_rfl)) (fun _ _ _ h => h) (Or.inl ⟨by rfl, ?_⟩) ?_ ?_; rotate_left; (focus intro w'; go_simp; with_reducible rfl); rotate_left; (focus simp only [Act.put, sA, sB, sC, i64_w, i32_w]; rfl)
            refine pure_ (i := 2) (N := some 39) (v := ?_) (a' := ?_) (bA 42 7) rfl rfl (any_of HT_.out (by kernel_rfl)) (fun _ _ _ h => h) (Or.inl ⟨by rfl, ?_⟩) ?_ ?_; rotate_left; (focus intro w'; go_simp; with_reducible rfl); rotate_left; (focus simp only [Act.put, sA, sB, sC, i64_w, i32_w]; rfl)
            refine pure_ (i := 4) (N := some 41) (v := ?_) (a' := ?_) (bA 42 23) rfl rfl (any_of HT_.out (by kernel_rfl)) (fun _ _ _ h => h) (Or.inl ⟨by rfl, ?_⟩) ?_ ?_; rotate_left; (focus intro w'; go_simp; with_reducible rfl); rotate_left; (focus simp only [Act.put, sA, sB, sC, i64_w, i32_w]; rfl)
            refine take_ (i := 3) (N := some 40) (v := ?_) (a' := ?_) (bA 42 31) rfl rfl (take_ofW HT_.out HW_.out (by kernel_rfl)) (fun _ _ _ h => h) (Or.inl ⟨by rfl, ?_⟩) hHeld ?_ ?_; rotate_left; (focus rintro w' ⟨s0, s1⟩; go_simp; with_reducible rfl); rotate_left; (focus simp only [Act.put, sA, sB, sC, i64_w, i32_w]; rfl)
            refine pure_ (i := 5) (N := some 42) (v := ?_) (a' := ?_) (bA 42 63) rfl rfl (any_of HT_.out (by kernel_rfl)) (fun _ _ _ h => h) (Or.inl ⟨by rfl, ?_⟩) ?_ ?_; rotate_left; (focus intro w'; go_simp; with_reducible rfl); rotate_left; (focus simp only [Act.put, sA, sB, sC, i64_w, i32_w]; rfl)
            refine take_ (i := 6) (N := some 43) (v := ?_) (a' := ?_) (bA 42 127) rfl rfl (take_ofW HT_.out HW_.out (by kernel_rfl)) (fun _ _ _ h => h) (Or.inl ⟨by rfl, ?_⟩) hHeld ?_ ?_; rotate_left; (focus rintro w' ⟨s0, s1⟩; go_simp; with_reducible rfl); rotate_left; (focus simp only [Act.put, sA, sB, sC, i64_w, i32_w]; rfl)
            refine pure_ (i := 7) (N := some 44) (v := ?_) (a' := ?_) (bA 42 255) rfl rfl (any_of HT_.out (by kernel_rfl)) (fun _ _ _ h => h) (Or.inl ⟨by rfl, ?_⟩) ?_ ?_; rotate_left; (focus intro w'; go_simp; with_reducible rfl); rotate_left; (focus simp only [Act.put, sA, sB, sC, i64_w, i32_w]; rfl)
            refine pure_ (i := 8) (N := some 45) (v := ?_) (a' := ?_) (bA 42 511) rfl rfl (any_of HT_.out (by kernel_rfl)) (fun _ _ _ h => h) (Or.inl ⟨by rfl, ?_⟩) ?_ ?_; rotate_left; (focus intro w'; go_simp; with_reducible rfl); rotate_left; (focus simp only [Act.put, sA, sB, sC, i64_w, i32_w]; rfl)
            refine pure_ (i := 9) (N := some 46) (v := undef) (a' := ?_) (bA 42 1023) rfl rfl (any_of HT_.out (by kernel_rfl)) (fun _ _ _ h => h) (Or.inr ⟨by rfl, rfl⟩) ?_ ?_; rotate_left; (focus simp only [Act.put, sA, sB, sC, i64_w, i32_w]; rfl)
            refine pure_ (i := 10) (N := some 47) (v := undef) (a' := ?_) (bA 42 2047) rfl rfl (any_of HT_.out (by kernel_rfl)) (fun _ _ _ h => h) (Or.inr ⟨by rfl, rfl⟩) ?_ ?_; rotate_left; (focus simp only [Act.put, sA, sB, sC, i64_w, i32_w]; rfl)
            refine pure_ (i := 11) (N := some 48) (v := undef) (a' := ?_) (bA 42 4095) rfl rfl (any_of HT_.out (by kernel_rfl)) (fun _ _ _ h => h) (Or.inr ⟨by rfl, rfl⟩) ?_ ?_; rotate_left; (focus simp only [Act.put, sA, sB, sC, i64_w, i32_w]; rfl)
            refine pure_ (i := 12) (N := some 49) (v := undef) (a' := ?_) (bA 42 8191) rfl rfl (any_of HT_.out (by kernel_rfl)) (fun _ _ _ h => h) (Or.inr ⟨by rfl, rfl⟩) ?_ ?_; rotate_left; (focus simp only [Act.put, sA, sB, sC, i64_w, i32_w]; rfl)
            refine pure_ (i := 13) (N := some 50) (v := undef) (a' := ?_) (bA 42 16383) rfl rfl (any_of HT_.out (by kernel_rfl)) (fun _ _ _ h => h) (Or.inr ⟨by rfl, rfl⟩) ?_ ?_; rotate_left; (focus simp only [Act.put, sA, sB, sC, i64_w, i32_w]; rfl)
            refine pure_ (i := 14) (N := some 51) (v := undef) (a' := ?_) (bA 42 32767) rfl rfl (any_of HT_.out (by kernel_rfl)) (fun _ _ _ h => h) (Or.inr ⟨by rfl, rfl⟩) ?_ ?_; rotate_left; (focus simp only [Act.put, sA, sB, sC, i64_w, i32_w]; rfl)
            refine pure_ (i := 15) (N := some 52) (v := undef) (a' := ?_) (bA 42 65535) rfl rfl (any_of HT_.out (by kernel_rfl)) (fun _ _ _ h => h) (Or.inr ⟨by rfl, rfl⟩) ?_ ?_; rotate_left; (focus simp only [Act.put, sA, sB, sC, i64_w, i32_w]; rfl)
            refine pure_ (i := 16) (N := some 53) (v := undef) (a' := ?_) (bA 42 131071) rfl rfl (any_of HT_.out (by kernel_rfl)) (fun _ _ _ h => h) (Or.inr ⟨by rfl, rfl⟩) ?_ ?_; rotate_left; (focus simp only [Act.put, sA, sB, sC, i64_w, i32_w]; rfl)
            refine pure_ (i := 17) (N := some 54) (v := undef) (a' := ?_) (bA 42 262143) rfl rfl (any_of HT_.out (by kernel_rfl)) (fun _ _ _ h => h) (Or.inr ⟨by rfl, rfl⟩) ?_ ?_; rotate_left; (focus simp only [Act.put, sA, sB, sC, i64_w, i32_w]; rfl)
            refine pure_ (i := 18) (N := some 55) (v := undef) (a' := ?_) (bA 42 524287) rfl rfl (any_of HT_.out (by kernel_rfl)) (fun _ _ _ h => h) (Or.inr ⟨by rfl, rfl⟩) ?_ ?_; rotate_left; (focus simp only [Act.put, sA, sB, sC, i64_w, i32_w]; rfl)
            refine pure_ (i := 19) (N := some 56) (v := ?_) (a' := ?_) (bA 42 1048575) rfl rfl (any_of HT_.out (by kernel_rfl)) (fun _ _ _ h => h) (Or.inl ⟨by rfl, ?_⟩) ?_ ?_; rotate_left; (focus intro w'; go_simp; with_reducible rfl); rotate_left; (focus simp only [Act.put, sA, sB, sC, i64_w, i32_w]; rfl)
            refine pure_ (i := 20) (N := some 57) (v := ?_) (a' := ?_) (bA 42 2097151) rfl rfl (any_of HT_.out (by kernel_rfl)) (fun _ _ _ h => h) (Or.inl ⟨by rfl, ?_⟩) ?_ ?_; rotate_left; (focus intro w'; go_simp; with_reducible rfl); rotate_left; (focus simp only [Act.put, sA, sB, sC, i64_w, i32_w]; rfl)
            refine pure_ (i := 21) (N := some 58) (v := undef) (a' := ?_) (bA 42 4194303) rfl rfl (any_of HT_.out (by kernel_rfl)) (fun _ _ _ h => h) (Or.inr ⟨by rfl, rfl⟩) ?_ ?_; rotate_left; (focus simp only [Act.put, sA, sB, sC, i64_w, i32_w]; rfl)
            refine pure_ (i := 22) (N := some 59) (v := undef) (a' := ?_) (bA 42 8388607) rfl rfl (any_of HT_.out (by kernel_rfl)) (fun _ _ _ h => h) (Or.inr ⟨by rfl, rfl⟩) ?_ ?_; rotate_left; (focus simp only [Act.put, sA, sB, sC, i64_w, i32_w]; rfl)
            refine pure_ (i := 23) (N := some 60) (v := undef) (a' := ?_) (bA 42 16777215) rfl rfl (any_of HT_.out (by kernel_rfl)) (fun _ _ _ h => h) (Or.inr ⟨by rfl, rfl⟩) ?_ ?_; rotate_left; (focus simp only [Act.put, sA, sB, sC, i64_w, i32_w]; rfl)
            refine pure_ (i := 24) (N := some 61) (v := undef) (a' := ?_) (bA 42 33554431) rfl rfl (any_of HT_.out (by kernel_rfl)) (fun _ _ _ h => h) (Or.inr ⟨by rfl, rfl⟩) ?_ ?_; rotate_left; (focus simp only [Act.put, sA, sB, sC, i64_w, i32_w]; rfl)
            refine pure_ (i := 25) (N := some 62) (v := undef) (a' := ?_) (bA 42 67108863) rfl rfl (any_of HT_.out (by kernel_rfl)) (fun _ _ _ h => h) (Or.inr ⟨by rfl, rfl⟩) ?_ ?_; rotate_left; (focus simp only [Act.put, sA, sB, sC, i64_w, i32_w]; rfl)
            refine pure_ (i := 26) (N := some 63) (v := undef) (a' := ?_) (bA 42 134217727) rfl rfl (any_of HT_.out (by kernel_rfl)) (fun _ _ _ h => h) (Or.inr ⟨by rfl, rfl⟩) ?_ ?_; rotate_left; (focus simp only [Act.put, sA, sB, sC, i64_w, i32_w]; rfl)
            refine pure_ (i := 27) (N := some 64) (v := undef) (a' := ?_) (bA 42 268435455) rfl rfl (any_of HT_.out (by kernel_rfl)) (fun _ _ _ h => h) (Or.inr ⟨by rfl, rfl⟩) ?_ ?_; rotate_left; (focus simp only [Act.put, sA, sB, sC, i64_w, i32_w]; rfl)
            refine pure_ (i := 28) (N := some 65) (v := undef) (a' := ?_) (bA 42 536870911) rfl rfl (any_of HT_.out (by kernel_rfl)) (fun _ _ _ h => h) (Or.inr ⟨by rfl, rfl⟩) ?_ ?_; rotate_left; (focus simp only [Act.put, sA, sB, sC, i64_w, i32_w]; rfl)
            refine pure_ (i := 29) (N := some 66) (v := undef) (a' := ?_) (bA 42 1073741823) rfl rfl (any_of HT_.out (by kernel_rfl)) (fun _ _ _ h => h) (Or.inr ⟨by rfl, rfl⟩) ?_ ?_; rotate_left; (focus simp only [Act.put, sA, sB, sC, i64_w, i32_w]; rfl)
            refine pure_ (i := 30) (N := some 67) (v := undef) (a' := ?_) (bA 42 2147483647) rfl rfl (any_of HT_.out (by kernel_rfl)) (fun _ _ _ h => h) (Or.inr ⟨by rfl, rfl⟩) ?_ ?_; rotate_left; (focus simp only [Act.put, sA, sB, sC, i64_w, i32_w]; rfl)
            refine pure_ (i := 31) (N := some 68) (v := undef) (a' := ?_) (bA 42 4294967295) rfl rfl (any_of HT_.out (by kernel_rfl)) (fun _ _ _ h => h) (Or.inr ⟨by rfl, rfl⟩) ?_ ?_; rotate_left; (focus simp only [Act.put, sA, sB, sC, i64_w, i32_w]; rfl)
            refine pure_ (i := 32) (N := some 69) (v := undef) (a' := ?_) (bA 42 8589934591) rfl rfl (any_of HT_.out (by kernel_rfl)) (fun _ _ _ h => h) (Or.inr ⟨by rfl, rfl⟩) ?_ ?_; rotate_left; (focus simp only [Act.put, sA, sB, sC, i64_w, i32_w]; rfl)
            refine pure_ (i := 33) (N := some 70) (v := undef) (a' := ?_) (bA 42 17179869183) rfl rfl (any_of HT_.out (by kernel_rfl)) (fun _ _ _ h => h) (Or.inr ⟨by rfl, rfl⟩) ?_ ?_; rotate_left; (focus simp only [Act.put, sA, sB, sC, i64_w, i32_w]; rfl)
            refine pure_ (i := 34) (N := some 71) (v := undef) (a' := ?_) (bA 42 34359738367) rfl rfl (any_of HT_.out (by kernel_rfl)) (fun _ _ _ h => h) (Or.inr ⟨by rfl, rfl⟩) ?_ ?_; rotate_left; (focus simp only [Act.put, sA, sB, sC, i64_w, i32_w]; rfl)
            refine pure_ (i := 35) (N := some 72) (v := undef) (a' := ?_) (bA 42 68719476735) rfl rfl (any_of HT_.out (by kernel_rfl)) (fun _ _ _ h => h) (Or.inr ⟨by rfl, rfl⟩) ?_ ?_; rotate_left; (focus simp only [Act.put, sA, sB, sC, i64_w, i32_w]; rfl)
            refine pure_ (i := 36) (N := some 73) (v := undef) (a' := ?_) (bA 42 137438953471) rfl rfl (any_of HT_.out (by kernel_rfl)) (fun _ _ _ h => h) (Or.inr ⟨by rfl, rfl⟩) ?_ ?_; rotate_left; (focus simp only [Act.put, sA, sB, sC, i64_w, i32_w]; rfl)
            refine pure_ (i := 37) (N := some 74) (v := undef) (a' := ?_) (bA 42 274877906943) rfl rfl (any_of HT_.out (by kernel_rfl)) (fun _ _ _ h => h) (Or.inr ⟨by rfl, rfl⟩) ?_ ?_; rotate_left; (focus simp only [Act.put, sA, sB, sC, i64_w, i32_w]; rfl)
            refine pure_ (i := 38) (N := some 75) (v := undef) (a' := ?_) (bA 42 549755813887) rfl rfl (any_of HT_.out (by kernel_rfl)) (fun _ _ _ h => h) (Or.inr ⟨by rfl, rfl⟩) ?_ ?_; rotate_left; (focus simp only [Act.put, sA, sB, sC, i64_w, i32_w]; rfl)
            refine pure_ (i := 39) (N := some 76) (v := undef) (a' := ?_) (bA 42 1099511627775) rfl rfl (any_of HT_.out (by kernel_rfl)) (fun _ _ _ h => h) (Or.inr ⟨by rfl, rfl⟩) ?_ ?_; rotate_left; (focus simp only [Act.put, sA, sB, sC, i64_w, i32_w]; rfl)
            refine pure_ (i := 40) (N := some 77) (v := undef) (a' := ?_) (bA 42 2199023255551) rfl rfl (any_of HT_.out (by kernel_rfl)) (fun _ _ _ h => h) (Or.inr ⟨by rfl, rfl⟩) ?_ ?_; rotate_left; (focus simp only [Act.put, sA, sB, sC, i64_w, i32_w]; rfl)
            refine pure_ (i := 41) (N := some 78) (v := ?_) (a' := ?_) (bA 42 4398046511103) rfl rfl (any_of HT_.out (by kernel_rfl)) (fun _ _ _ h => h) (Or.inl ⟨by rfl, ?_⟩) ?_ ?_; rotate_left; (focus intro w'; go_simp; with_reducible rfl); rotate_left; (focus simp only [Act.put, sA, sB, sC, i64_w, i32_w]; rfl)
            refine done_ (done_of HT_.out (by kernel_rfl)) ?_
            try go_wp2
            go_meet
            case rel => exact ⟨_, (true), (by first | rfl | (simp; done) | (simp [*]; done)), H', ⟨by have := HK1.out; have := HK2.out; first | omega | exact Nat.le_refl _⟩, ⟨by (with_reducible repeat (first | apply Kd.S_alloc | apply Kd.S_drewN | apply Kd.S_drew)); exact HO_3.out⟩, ⟨by (with_reducible repeat (first | apply Kd.R_alloc | apply Kd.R_drewN | apply Kd.R_drew)); exact HO_4.out⟩, ⟨by (with_reducible repeat (first | refine blk_drewN ?_ _ | refine blk_drew ?_ | refine blk_alloc ?_ _)); exact BK142.out⟩, ⟨by repeat (first | (with_reducible exact HR151_0.out) | (with_reducible refine Kd.C_alloc ?_ _) | (with_reducible refine Kd.C_drewN ?_ _) | (with_reducible refine Kd.C_drew ?_) | exact HR151_0.out)⟩, ⟨by repeat (first | (with_reducible first | exact HB.out | apply below_alloc | apply pw_below_drewN | apply below_drew1 | refine below_set ?_ GE142.out) | exact HB.out)⟩⟩
           ·rw [if_neg c25] at H
            have c25b0 : decide ((rd (rd_L5 t145 x6_1) x7_2) < 0) = false := decide_eq_false c25
            clear c25
            by_cases c27 : (rd (rd_L5 t145 x6_1) x7_2) ≥ (x4_2.length : Int)
            ·rw [if_pos c27] at H
             have c27b0 : decide ((x4_2.length : Int) ≤ (rd (rd_L5 t145 x6_1) x7_2)) = true := decide_eq_true c27
             clear c27
             have H' := Aside0.mk H
             clear H
             try go_wp2
             have n0_ := Aside0.mk (Kd.S_drew HO_3.out)
             have n1_ := Aside0.mk (Kd.R_drew HO_4.out)
             have n2_ := Aside0.mk (Kd.R_drew HL151_0.out)
             have n3_ := Aside0.mk (blk_drew BK142.out)
             have n4_ := Aside0.mk (Kd.C_drew HR151_0.out)
             have n5_ := Aside0.mk (below_drew1 HB.out)
             clear HO_3
             clear HO_4
             clear HL151_0
             clear BK142
             clear HR151_0
             clear HB
             have HO_3 := n0_
             have HO_4 := n1_
             have HL151_0 := n2_
             have BK142 := n3_
             have HR151_0 := n4_
             have HB := n5_
             clear n0_ n1_ n2_ n3_ n4_ n5_
             have p152 : 0 ≤ (x6_1 : Int) := of_decide_eq_true (by first | (with_reducible assumption) | assumption)
             have q152 : x6_1 < (t145.length : Int) := of_decide_eq_true (by first | (with_reducible assumption) | assumption)
             obtain ⟨ad152, A152_0, c152_0, e152, hx152_0, hl152_0, hi152_0⟩ := at_L5 (Kd.S_reads' HO_3.out).2.2 x6_1 p152 q152
             obtain rfl : ad151 = ad152 := (by injection e152)
             obtain ⟨ce152, hce152, hMe152, hcc152⟩ := Kd.S_get HO_3.out [] x6_1 p152 (by first | exact q152 | exact of_decide_eq_true (by first | (with_reducible assumption) | assumption) | (have e_ := (Kd.S_reads' HO_3.out).1; omega))
             obtain ⟨ve152_0, rfl, ge152_0⟩ := hMe152
             have hv152_0 := hcc152 0 _ rfl
             rw [Nat.add_zero, show ((Kd.slice 3 (Kd.int .i64))).sz = 1 from rfl, Nat.mul_one] at hv152_0
             replace hv152_0 := Option.some.inj (hv152_0.symm.trans hx152_0)
             rw [hv152_0] at ge152_0
             have HL152_0 := Aside0.mk (show Kd.R (Kd.int .i64) 3 _ _ _ _ (rd_L5 t145 x6_1) from ge152_0)
             clear hv152_0 ge152_0
             clear hcc152 hce152
             have HR152_0 := Aside0.mk hi152_0
             have HC152_0 := Aside0.mk hl152_0
             clear hi152_0 hl152_0
             replace p152 := eq_true p152
             replace q152 := eq_true q152
             have p153 : 0 ≤ (x7_2 : Int) := of_decide_eq_true (by first | (with_reducible assumption) | assumption)
             have q153 : x7_2 < ((rd_L5 t145 x6_1).length : Int) := of_decide_eq_true (by first | (with_reducible assumption) | assumption)
             obtain ⟨ad153, e153, hx153_0⟩ := Kd.at_int (by repeat (first | (with_reducible exact HR152_0.out) | (with_reducible refine Kd.C_alloc ?_ _) | (with_reducible refine Kd.C_drewN ?_ _) | (with_reducible refine Kd.C_drew ?_) | exact HR152_0.out)) x7_2 p153 q153
             cases e153
             replace p153 := eq_true p153
             replace q153 := eq_true q153
             have p154 : 0 ≤ (x6_1 : Int) := of_decide_eq_true (by first | (with_reducible assumption) | assumption)
             have q154 : x6_1 < (t145.length : Int) := of_decide_eq_true (by first | (with_reducible assumption) | assumption)
             obtain ⟨ad154, A154_0, c154_0, e154, hx154_0, hl154_0, hi154_0⟩ := at_L5 (Kd.S_reads' HO_3.out).2.2 x6_1 p154 q154
             obtain rfl : ad151 = ad154 := (by injection e154)
             obtain ⟨ce154, hce154, hMe154, hcc154⟩ := Kd.S_get HO_3.out [] x6_1 p154 (by first | exact q154 | exact of_decide_eq_true (by first | (with_reducible assumption) | assumption) | (have e_ := (Kd.S_reads' HO_3.out).1; omega))
             obtain ⟨ve154_0, rfl, ge154_0⟩ := hMe154
             have hv154_0 := hcc154 0 _ rfl
             rw [Nat.add_zero, show ((Kd.slice 3 (Kd.int .i64))).sz = 1 from rfl, Nat.mul_one] at hv154_0
             replace hv154_0 := Option.some.inj (hv154_0.symm.trans hx154_0)
             rw [hv154_0] at ge154_0
             have HL154_0 := Aside0.mk (show Kd.R (Kd.int .i64) 3 _ _ _ _ (rd_L5 t145 x6_1) from ge154_0)
             clear hv154_0 ge154_0
             clear hcc154 hce154
             have HR154_0 := Aside0.mk hi154_0
             have HC154_0 := Aside0.mk hl154_0
             clear hi154_0 hl154_0
             replace p154 := eq_true p154
             replace q154 := eq_true q154
             have ea_ := Option.some.inj (hx152_0.symm.trans hx154_0)
             injection ea_ with ea_ en_ ec_
             subst ea_
             subst ec_
             clear en_
             have p155 : 0 ≤ (x7_2 : Int) := of_decide_eq_true (by first | (with_reducible assumption) | assumption)
             have q155 : x7_2 < ((rd_L5 t145 x6_1).length : Int) := of_decide_eq_true (by first | (with_reducible assumption) | assumption)
             obtain ⟨ad155, e155, hx155_0⟩ := Kd.at_int (by repeat (first | (with_reducible exact HR154_0.out) | (with_reducible refine Kd.C_alloc ?_ _) | (with_reducible refine Kd.C_drewN ?_ _) | (with_reducible refine Kd.C_drew ?_) | exact HR154_0.out)) x7_2 p155 q155
             cases e155
             replace p155 := eq_true p155
             replace q155 := eq_true q155
             obtain ⟨Ao29, co29, eo29⟩ := Kd.R_slice HO_4.out
             (first | subst eo29 | (injection eo29 with f1_ f2_ f3_; have f4_ := f1_.symm; have f5_ := f3_.symm; clear f1_ f2_ f3_; subst f4_; subst f5_))
             refine start_ (n := 42) (S := fun w' => w'.cell? (ad151.add (x6_1).toNat) = some (.slice (some ad153) (rd_L5 t145 x6_1).length c152_0) ∧ w'.cell? (ad153.add (x7_2).toNat) = some (.int .i64 (rd (rd_L5 t145 x6_1) x7_2)) ∧ w'.cell? (ad151.add (x6_1).toNat) = some (.slice (some ad153) (rd_L5 t145 x6_1).length c152_0) ∧ w'.cell? (ad153.add (x7_2).toNat) = some (.int .i64 (rd (rd_L5 t145 x6_1) x7_2))) (ds := []) (bA 42 0) (by kernel_rfl) rfl rfl ⟨hx152_0, hx153_0, hx154_0, hx155_0⟩ (fun hHeld => ?_); refine with_tabW davitlaw11_CallsGroups.tab14 davitlaw11_CallsGroups.bits14 (fun HT_ HW_ => ?_)
             generalize wr.drew = w28 at HO_3 HO_4 HL151_0 BK142 HR151_0 HB HL152_0 HL154_0 HR152_0 HR154_0 hx152_0 hx153_0 hx154_0 hx155_0 hHeld ⊢
             refine pure_ (i := 0) (N := some 37) (v := ?_) (a' := ?_) (bA 42 1) rfl rfl (any_of HT_.out (by kernel_rfl)) (fun _ _ _ h => h) (Or.inl ⟨by rfl, ?_⟩) ?_ ?_; rotate_left; (focus intro w'; go_simp; with_reducible rfl); rotate_left; (focus simp only [Act.put, sA, sB, sC, i64_w, i32_w]; rfl)
             refine pure_ (i := 1) (N := some 38) (v := ?_) (a' := ?_) (bA 42 3) rfl rfl (any_of HT_.out (by kernel_rfl)) (fun _ _ _ h => h) (Or.inl ⟨by rfl, ?_⟩) ?_ ?_; rotate_left; (focus intro w'; go_simp; with_reducible rfl); rotate_left; (focus simp only [Act.put, sA, sB, sC, i64_w, i32_w]; rfl)
             refine pure_ (i := 2) (N := some 39) (v := ?_) (a' := ?_) (bA 42 7) rfl rfl (any_of HT_.out (by kernel_rfl)) (fun _ _ _ h => h) (Or.inl ⟨by rfl, ?_⟩) ?_ ?_; rotate_left; (focus intro w'; go_simp; with_reducible rfl); rotate_left; (focus simp only [Act.put, sA, sB, sC, i64_w, i32_w]; rfl)
             refine pure_ (i := 4) (N := some 41) (v := ?_) (a' := ?_) (bA 42 23) rfl rfl (any_of HT_.out (by kernel_rfl)) (fun _ _ _ h => h) (Or.inl ⟨by rfl, ?_⟩) ?_ ?_; rotate_left; (focus intro w'; go_simp; with_reducible rfl); rotate_left; (focus simp only [Act.put, sA, sB, sC, i64_w, i32_w]; rfl)
             refine take_ (i := 3) (N := some 40) (v := ?_) (a' := ?_) (bA 42 31) rfl rfl (take_ofW HT_.out HW_.out (by kernel_rfl)) (fun _ _ _ h => h) (Or.inl ⟨by rfl, ?_⟩) hHeld ?_ ?_; rotate_left; (focus rintro w' ⟨s0, s1, s2, s3⟩; go_simp; with_reducible rfl); rotate_left; (focus simp only [Act.put, sA, sB, sC, i64_w, i32_w]; rfl)
             refine pure_ (i := 5) (N := some 42) (v := ?_) (a' := ?_) (bA 42 63) rfl rfl (any_of HT_.out (by kernel_rfl)) (fun _ _ _ h => h) (Or.inl ⟨by rfl, ?_⟩) ?_ ?_; rotate_left; (focus intro w'; go_simp; with_reducible rfl); rotate_left; (focus simp only [Act.put, sA, sB, sC, i64_w, i32_w]; rfl)
             refine take_ (i := 6) (N := some 43) (v := ?_) (a' := ?_) (bA 42 127) rfl rfl (take_ofW HT_.out HW_.out (by kernel_rfl)) (fun _ _ _ h => h) (Or.inl ⟨by rfl, ?_⟩) hHeld ?_ ?_; rotate_left; (focus rintro w' ⟨s0, s1, s2, s3⟩; go_simp; with_reducible rfl); rotate_left; (focus simp only [Act.put, sA, sB, sC, i64_w, i32_w]; rfl)
             refine pure_ (i := 7) (N := some 44) (v := ?_) (a' := ?_) (bA 42 255) rfl rfl (any_of HT_.out (by kernel_rfl)) (fun _ _ _ h => h) (Or.inl ⟨by rfl, ?_⟩) ?_ ?_; rotate_left; (focus intro w'; go_simp; with_reducible rfl); rotate_left; (focus simp only [Act.put, sA, sB, sC, i64_w, i32_w]; rfl)
             refine pure_ (i := 8) (N := some 45) (v := ?_) (a' := ?_) (bA 42 511) rfl rfl (any_of HT_.out (by kernel_rfl)) (fun _ _ _ h => h) (Or.inl ⟨by rfl, ?_⟩) ?_ ?_; rotate_left; (focus intro w'; go_simp; with_reducible rfl); rotate_left; (focus simp only [Act.put, sA, sB, sC, i64_w, i32_w]; rfl)
             refine pure_ (i := 9) (N := some 46) (v := ?_) (a' := ?_) (bA 42 1023) rfl rfl (any_of HT_.out (by kernel_rfl)) (fun _ _ _ h => h) (Or.inl ⟨by rfl, ?_⟩) ?_ ?_; rotate_left; (focus intro w'; go_simp; with_reducible rfl); rotate_left; (focus simp only [Act.put, sA, sB, sC, i64_w, i32_w]; rfl)
             refine pure_ (i := 10) (N := some 47) (v := ?_) (a' := ?_) (bA 42 2047) rfl rfl (any_of HT_.out (by kernel_rfl)) (fun _ _ _ h => h) (Or.inl ⟨by rfl, ?_⟩) ?_ ?_; rotate_left; (focus intro w'; go_simp; with_reducible rfl); rotate_left; (focus simp only [Act.put, sA, sB, sC, i64_w, i32_w]; rfl)
             refine pure_ (i := 11) (N := some 48) (v := ?_) (a' := ?_) (bA 42 4095) rfl rfl (any_of HT_.out (by kernel_rfl)) (fun _ _ _ h => h) (Or.inl ⟨by rfl, ?_⟩) ?_ ?_; rotate_left; (focus intro w'; go_simp; with_reducible rfl); rotate_left; (focus simp only [Act.put, sA, sB, sC, i64_w, i32_w]; rfl)
             refine pure_ (i := 13) (N := some 50) (v := ?_) (a' := ?_) (bA 42 12287) rfl rfl (any_of HT_.out (by kernel_rfl)) (fun _ _ _ h => h) (Or.inl ⟨by rfl, ?_⟩) ?_ ?_; rotate_left; (focus intro w'; go_simp; with_reducible rfl); rotate_left; (focus simp only [Act.put, sA, sB, sC, i64_w, i32_w]; rfl)
             refine pure_ (i := 16) (N := some 53) (v := ?_) (a' := ?_) (bA 42 77823) rfl rfl (any_of HT_.out (by kernel_rfl)) (fun _ _ _ h => h) (Or.inl ⟨by rfl, ?_⟩) ?_ ?_; rotate_left; (focus intro w'; go_simp; with_reducible rfl); rotate_left; (focus simp only [Act.put, sA, sB, sC, i64_w, i32_w]; rfl)
             refine pure_ (i := 17) (N := some 54) (v := ?_) (a' := ?_) (bA 42 208895) rfl rfl (any_of HT_.out (by kernel_rfl)) (fun _ _ _ h => h) (Or.inl ⟨by rfl, ?_⟩) ?_ ?_; rotate_left; (focus intro w'; go_simp; with_reducible rfl); rotate_left; (focus simp only [Act.put, sA, sB, sC, i64_w, i32_w]; rfl)
             refine take_ (i := 12) (N := some 49) (v := ?_) (a' := ?_) (bA 42 212991) rfl rfl (take_ofW HT_.out HW_.out (by kernel_rfl)) (fun _ _ _ h => h) (Or.inl ⟨by rfl, ?_⟩) hHeld ?_ ?_; rotate_left; (focus rintro w' ⟨s0, s1, s2, s3⟩; go_simp; with_reducible rfl); rotate_left; (focus simp only [Act.put, sA, sB, sC, i64_w, i32_w]; rfl)
             refine pure_ (i := 14) (N := some 51) (v := ?_) (a' := ?_) (bA 42 229375) rfl rfl (any_of HT_.out (by kernel_rfl)) (fun _ _ _ h => h) (Or.inl ⟨by rfl, ?_⟩) ?_ ?_; rotate_left; (focus intro w'; go_simp; with_reducible rfl); rotate_left; (focus simp only [Act.put, sA, sB, sC, i64_w, i32_w]; rfl)
             refine take_ (i := 15) (N := some 52) (v := ?_) (a' := ?_) (bA 42 262143) rfl rfl (take_ofW HT_.out HW_.out (by kernel_rfl)) (fun _ _ _ h => h) (Or.inl ⟨by rfl, ?_⟩) hHeld ?_ ?_; rotate_left; (focus rintro w' ⟨s0, s1, s2, s3⟩; go_simp; with_reducible rfl); rotate_left; (focus simp only [Act.put, sA, sB, sC, i64_w, i32_w]; rfl)
             refine pure_ (i := 18) (N := some 55) (v := ?_) (a' := ?_) (bA 42 524287) rfl rfl (any_of HT_.out (by kernel_rfl)) (fun _ _ _ h => h) (Or.inl ⟨by rfl, ?_⟩) ?_ ?_; rotate_left; (focus intro w'; go_simp; with_reducible rfl); rotate_left; (focus simp only [Act.put, sA, sB, sC, i64_w, i32_w]; rfl)
             refine pure_ (i := 19) (N := some 56) (v := ?_) (a' := ?_) (bA 42 1048575) rfl rfl (any_of HT_.out (by kernel_rfl)) (fun _ _ _ h => h) (Or.inl ⟨by rfl, ?_⟩) ?_ ?_; rotate_left; (focus intro w'; go_simp; with_reducible rfl); rotate_left; (focus simp only [Act.put, sA, sB, sC, i64_w, i32_w]; rfl)
             refine pure_ (i := 20) (N := some 57) (v := ?_) (a' := ?_) (bA 42 2097151) rfl rfl (any_of HT_.out (by kernel_rfl)) (fun _ _ _ h => h) (Or.inl ⟨by rfl, ?_⟩) ?_ ?_; rotate_left; (focus intro w'; go_simp; with_reducible rfl); rotate_left; (focus simp only [Act.put, sA, sB, sC, i64_w, i32_w]; rfl)
             refine pure_ (i := 21) (N := some 58) (v := undef) (a' := ?_) (bA 42 4194303) rfl rfl (any_of HT_.out (by kernel_rfl)) (fun _ _ _ h => h) (Or.inr ⟨by rfl, rfl⟩) ?_ ?_; rotate_left; (focus simp only [Act.put, sA, sB, sC, i64_w, i32_w]; rfl)
             refine pure_ (i := 22) (N := some 59) (v := undef) (a' := ?_) (bA 42 8388607) rfl rfl (any_of HT_.out (by kernel_rfl)) (fun _ _ _ h => h) (Or.inr ⟨by rfl, rfl⟩) ?_ ?_; rotate_left; (focus simp only [Act.put, sA, sB, sC, i64_w, i32_w]; rfl)
             refine pure_ (i := 23) (N := some 60) (v := undef) (a' := ?_) (bA 42 16777215) rfl rfl (any_of HT_.out (by kernel_rfl)) (fun _ _ _ h => h) (Or.inr ⟨by rfl, rfl⟩) ?_ ?_; rotate_left; (focus simp only [Act.put, sA, sB, sC, i64_w, i32_w]; rfl)
             refine pure_ (i := 24) (N := some 61) (v := undef) (a' := ?_) (bA 42 33554431) rfl rfl (any_of HT_.out (by kernel_rfl)) (fun _ _ _ h => h) (Or.inr ⟨by rfl, rfl⟩) ?_ ?_; rotate_left; (focus simp only [Act.put, sA, sB, sC, i64_w, i32_w]; rfl)
             refine pure_ (i := 25) (N := some 62) (v := undef) (a' := ?_) (bA 42 67108863) rfl rfl (any_of HT_.out (by kernel_rfl)) (fun _ _ _ h => h) (Or.inr ⟨by rfl, rfl⟩) ?_ ?_; rotate_left; (focus simp only [Act.put, sA, sB, sC, i64_w, i32_w]; rfl)
             refine pure_ (i := 26) (N := some 63) (v := undef) (a' := ?_) (bA 42 134217727) rfl rfl (any_of HT_.out (by kernel_rfl)) (fun _ _ _ h => h) (Or.inr ⟨by rfl, rfl⟩) ?_ ?_; rotate_left; (focus simp only [Act.put, sA, sB, sC, i64_w, i32_w]; rfl)
             refine pure_ (i := 27) (N := some 64) (v := undef) (a' := ?_) (bA 42 268435455) rfl rfl (any_of HT_.out (by kernel_rfl)) (fun _ _ _ h => h) (Or.inr ⟨by rfl, rfl⟩) ?_ ?_; rotate_left; (focus simp only [Act.put, sA, sB, sC, i64_w, i32_w]; rfl)
             refine pure_ (i := 28) (N := some 65) (v := undef) (a' := ?_) (bA 42 536870911) rfl rfl (any_of HT_.out (by kernel_rfl)) (fun _ _ _ h => h) (Or.inr ⟨by rfl, rfl⟩) ?_ ?_; rotate_left; (focus simp only [Act.put, sA, sB, sC, i64_w, i32_w]; rfl)
             refine pure_ (i := 29) (N := some 66) (v := undef) (a' := ?_) (bA 42 1073741823) rfl rfl (any_of HT_.out (by kernel_rfl)) (fun _ _ _ h => h) (Or.inr ⟨by rfl, rfl⟩) ?_ ?_; rotate_left; (focus simp only [Act.put, sA, sB, sC, i64_w, i32_w]; rfl)
             refine pure_ (i := 30) (N := some 67) (v := undef) (a' := ?_) (bA 42 2147483647) rfl rfl (any_of HT_.out (by kernel_rfl)) (fun _ _ _ h => h) (Or.inr ⟨by rfl, rfl⟩) ?_ ?_; rotate_left; (focus simp only [Act.put, sA, sB, sC, i64_w, i32_w]; rfl)
             refine pure_ (i := 31) (N := some 68) (v := undef) (a' := ?_) (bA 42 4294967295) rfl rfl (any_of HT_.out (by kernel_rfl)) (fun _ _ _ h => h) (Or.inr ⟨by rfl, rfl⟩) ?_ ?_; rotate_left; (focus simp only [Act.put, sA, sB, sC, i64_w, i32_w]; rfl)
             refine pure_ (i := 32) (N := some 69) (v := undef) (a' := ?_) (bA 42 8589934591) rfl rfl (any_of HT_.out (by kernel_rfl)) (fun _ _ _ h => h) (Or.inr ⟨by rfl, rfl⟩) ?_ ?_; rotate_left; (focus simp only [Act.put, sA, sB, sC, i64_w, i32_w]; rfl)
             refine pure_ (i := 33) (N := some 70) (v := undef) (a' := ?_) (bA 42 17179869183) rfl rfl (any_of HT_.out (by kernel_rfl)) (fun _ _ _ h => h) (Or.inr ⟨by rfl, rfl⟩) ?_ ?_; rotate_left; (focus simp only [Act.put, sA, sB, sC, i64_w, i32_w]; rfl)
             refine pure_ (i := 34) (N := some 71) (v := undef) (a' := ?_) (bA 42 34359738367) rfl rfl (any_of HT_.out (by kernel_rfl)) (fun _ _ _ h => h) (Or.inr ⟨by rfl, rfl⟩) ?_ ?_; rotate_left; (focus simp only [Act.put, sA, sB, sC, i64_w, i32_w]; rfl)
             refine pure_ (i := 35) (N := some 72) (v := undef) (a' := ?_) (bA 42 68719476735) rfl rfl (any_of HT_.out (by kernel_rfl)) (fun _ _ _ h => h) (Or.inr ⟨by rfl, rfl⟩) ?_ ?_; rotate_left; (focus simp only [Act.put, sA, sB, sC, i64_w, i32_w]; rfl)
             refine pure_ (i := 36) (N := some 73) (v := undef) (a' := ?_) (bA 42 137438953471) rfl rfl (any_of HT_.out (by kernel_rfl)) (fun _ _ _ h => h) (Or.inr ⟨by rfl, rfl⟩) ?_ ?_; rotate_left; (focus simp only [Act.put, sA, sB, sC, i64_w, i32_w]; rfl)
             refine pure_ (i := 37) (N := some 74) (v := undef) (a' := ?_) (bA 42 274877906943) rfl rfl (any_of HT_.out (by kernel_rfl)) (fun _ _ _ h => h) (Or.inr ⟨by rfl, rfl⟩) ?_ ?_; rotate_left; (focus simp only [Act.put, sA, sB, sC, i64_w, i32_w]; rfl)
             refine pure_ (i := 38) (N := some 75) (v := undef) (a' := ?_) (bA 42 549755813887) rfl rfl (any_of HT_.out (by kernel_rfl)) (fun _ _ _ h => h) (Or.inr ⟨by rfl, rfl⟩) ?_ ?_; rotate_left; (focus simp only [Act.put, sA, sB, sC, i64_w, i32_w]; rfl)
             refine pure_ (i := 39) (N := some 76) (v := undef) (a' := ?_) (bA 42 1099511627775) rfl rfl (any_of HT_.out (by kernel_rfl)) (fun _ _ _ h => h) (Or.inr ⟨by rfl, rfl⟩) ?_ ?_; rotate_left; (focus simp only [Act.put, sA, sB, sC, i64_w, i32_w]; rfl)
             refine pure_ (i := 40) (N := some 77) (v := undef) (a' := ?_) (bA 42 2199023255551) rfl rfl (any_of HT_.out (by kernel_rfl)) (fun _ _ _ h => h) (Or.inr ⟨by rfl, rfl⟩) ?_ ?_; rotate_left; (focus simp only [Act.put, sA, sB, sC, i64_w, i32_w]; rfl)
             refine pure_ (i := 41) (N := some 78) (v := ?_) (a' := ?_) (bA 42 4398046511103) rfl rfl (any_of HT_.out (by kernel_rfl)) (fun _ _ _ h => h) (Or.inl ⟨by rfl, ?_⟩) ?_ ?_; rotate_left; (focus intro w'; go_simp; with_reducible rfl); rotate_left; (focus simp only [Act.put, sA, sB, sC, i64_w, i32_w]; rfl)
             refine done_ (done_of HT_.out (by kernel_rfl)) ?_
             try go_wp2
             go_meet
             case rel => exact ⟨_, (true), (by first | rfl | (simp; done) | (simp [*]; done)), H', ⟨by have := HK1.out; have := HK2.out; first | omega | exact Nat.le_refl _⟩, ⟨by (with_reducible repeat (first | apply Kd.S_alloc | apply Kd.S_drewN | apply Kd.S_drew)); exact HO_3.out⟩, ⟨by (with_reducible repeat (first | apply Kd.R_alloc | apply Kd.R_drewN | apply Kd.R_drew)); exact HO_4.out⟩, ⟨by (with_reducible repeat (first | refine blk_drewN ?_ _ | refine blk_drew ?_ | refine blk_alloc ?_ _)); exact BK142.out⟩, ⟨by repeat (first | (with_reducible exact HR151_0.out) | (with_reducible refine Kd.C_alloc ?_ _) | (with_reducible refine Kd.C_drewN ?_ _) | (with_reducible refine Kd.C_drew ?_) | exact HR151_0.out)⟩, ⟨by repeat (first | (with_reducible first | exact HB.out | apply below_alloc | apply pw_below_drewN | apply below_drew1 | refine below_set ?_ GE142.out) | exact HB.out)⟩⟩
            ·rw [if_neg c27] at H
             have c27b0 : decide ((x4_2.length : Int) ≤ (rd (rd_L5 t145 x6_1) x7_2)) = false := decide_eq_false c27
             clear c27
             by_cases c30 : x7_2 > 0
             ·rw [if_pos c30] at H
              have c30b0 : decide (0 < x7_2) = true := decide_eq_true c30
              clear c30
              obtain ⟨ji31, hji31⟩ : ∃ j_ : Int, (wrap64 (x7_2 - 1)) = j_ := ⟨_, rfl⟩
              replace H : (if 0 ≤ (ji31) then (if (ji31) < ((rd_L5 t145 x6_1).length : Int) then (davitlaw11_CallsGroups.j2 k2 t145 x4_2 x5_2 x6_1 x7_2 (decide ((rd (rd_L5 t145 x6_1) x7_2) ≤ (rd (rd_L5 t145 x6_1) (ji31)))) l0_0) else (none)) else (none)) = some r := by first | (rw [hji31] at H; exact H) | (simp only [hji31] at H ⊢; exact H)
              have hji31w : (IntKind.i64.wrap (x7_2 - 1)) = ji31 := (i64_w _).trans hji31
              by_cases c32 : 0 ≤ (ji31)
              ·rw [if_pos c32] at H
               have c32b0 : decide (0 ≤ (ji31)) = true := decide_eq_true c32
               clear c32
               by_cases c33 : (ji31) < ((rd_L5 t145 x6_1).length : Int)
               ·rw [if_pos c33] at H
                have c33b0 : decide ((ji31) < ((rd_L5 t145 x6_1).length : Int)) = true := decide_eq_true c33
                clear c33
                have H' := Aside0.mk H
                clear H
                try go_wp2
                have n0_ := Aside0.mk (Kd.S_drew HO_3.out)
                have n1_ := Aside0.mk (Kd.R_drew HO_4.out)
                have n2_ := Aside0.mk (Kd.R_drew HL151_0.out)
                have n3_ := Aside0.mk (blk_drew BK142.out)
                have n4_ := Aside0.mk (Kd.C_drew HR151_0.out)
                have n5_ := Aside0.mk (below_drew1 HB.out)
                clear HO_3
                clear HO_4
                clear HL151_0
                clear BK142
                clear HR151_0
                clear HB
                have HO_3 := n0_
                have HO_4 := n1_
                have HL151_0 := n2_
                have BK142 := n3_
                have HR151_0 := n4_
                have HB := n5_
                clear n0_ n1_ n2_ n3_ n4_ n5_
                have p152 : 0 ≤ (x6_1 : Int) := of_decide_eq_true (by first | (with_reducible assumption) | assumption)
                have q152 : x6_1 < (t145.length : Int) := of_decide_eq_true (by first | (with_reducible assumption) | assumption)
                obtain ⟨ad152, A152_0, c152_0, e152, hx152_0, hl152_0, hi152_0⟩ := at_L5 (Kd.S_reads' HO_3.out).2.2 x6_1 p152 q152
                obtain rfl : ad151 = ad152 := (by injection e152)
                obtain ⟨ce152, hce152, hMe152, hcc152⟩ := Kd.S_get HO_3.out [] x6_1 p152 (by first | exact q152 | exact of_decide_eq_true (by first | (with_reducible assumption) | assumption) | (have e_ := (Kd.S_reads' HO_3.out).1; omega))
                obtain ⟨ve152_0, rfl, ge152_0⟩ := hMe152
                have hv152_0 := hcc152 0 _ rfl
                rw [Nat.add_zero, show ((Kd.slice 3 (Kd.int .i64))).sz = 1 from rfl, Nat.mul_one] at hv152_0
                replace hv152_0 := Option.some.inj (hv152_0.symm.trans hx152_0)
                rw [hv152_0] at ge152_0
                have HL152_0 := Aside0.mk (show Kd.R (Kd.int .i64) 3 _ _ _ _ (rd_L5 t145 x6_1) from ge152_0)
                clear hv152_0 ge152_0
                clear hcc152 hce152
                have HR152_0 := Aside0.mk hi152_0
                have HC152_0 := Aside0.mk hl152_0
                clear hi152_0 hl152_0
                replace p152 := eq_true p152
                replace q152 := eq_true q152
                have p153 : 0 ≤ (x7_2 : Int) := of_decide_eq_true (by first | (with_reducible assumption) | assumption)
                have q153 : x7_2 < ((rd_L5 t145 x6_1).length : Int) := of_decide_eq_true (by first | (with_reducible assumption) | assumption)
                obtain ⟨ad153, e153, hx153_0⟩ := Kd.at_int (by repeat (first | (with_reducible exact HR152_0.out) | (with_reducible refine Kd.C_alloc ?_ _) | (with_reducible refine Kd.C_drewN ?_ _) | (with_reducible refine Kd.C_drew ?_) | exact HR152_0.out)) x7_2 p153 q153
                cases e153
                replace p153 := eq_true p153
                replace q153 := eq_true q153
                have p154 : 0 ≤ (x6_1 : Int) := of_decide_eq_true (by first | (with_reducible assumption) | assumption)
                have q154 : x6_1 < (t145.length : Int) := of_decide_eq_true (by first | (with_reducible assumption) | assumption)
                obtain ⟨ad154, A154_0, c154_0, e154, hx154_0, hl154_0, hi154_0⟩ := at_L5 (Kd.S_reads' HO_3.out).2.2 x6_1 p154 q154
                obtain rfl : ad151 = ad154 := (by injection e154)
                obtain ⟨ce154, hce154, hMe154, hcc154⟩ := Kd.S_get HO_3.out [] x6_1 p154 (by first | exact q154 | exact of_decide_eq_true (by first | (with_reducible assumption) | assumption) | (have e_ := (Kd.S_reads' HO_3.out).1; omega))
                obtain ⟨ve154_0, rfl, ge154_0⟩ := hMe154
                have hv154_0 := hcc154 0 _ rfl
                rw [Nat.add_zero, show ((Kd.slice 3 (Kd.int .i64))).sz = 1 from rfl, Nat.mul_one] at hv154_0
                replace hv154_0 := Option.some.inj (hv154_0.symm.trans hx154_0)
                rw [hv154_0] at ge154_0
                have HL154_0 := Aside0.mk (show Kd.R (Kd.int .i64) 3 _ _ _ _ (rd_L5 t145 x6_1) from ge154_0)
                clear hv154_0 ge154_0
                clear hcc154 hce154
                have HR154_0 := Aside0.mk hi154_0
                have HC154_0 := Aside0.mk hl154_0
                clear hi154_0 hl154_0
                replace p154 := eq_true p154
                replace q154 := eq_true q154
                have ea_ := Option.some.inj (hx152_0.symm.trans hx154_0)
                injection ea_ with ea_ en_ ec_
                subst ea_
                subst ec_
                clear en_
                have p155 : 0 ≤ (x7_2 : Int) := of_decide_eq_true (by first | (with_reducible assumption) | assumption)
                have q155 : x7_2 < ((rd_L5 t145 x6_1).length : Int) := of_decide_eq_true (by first | (with_reducible assumption) | assumption)
                obtain ⟨ad155, e155, hx155_0⟩ := Kd.at_int (by repeat (first | (with_reducible exact HR154_0.out) | (with_reducible refine Kd.C_alloc ?_ _) | (with_reducible refine Kd.C_drewN ?_ _) | (with_reducible refine Kd.C_drew ?_) | exact HR154_0.out)) x7_2 p155 q155
                cases e155
                replace p155 := eq_true p155
                replace q155 := eq_true q155
                obtain ⟨Ao35, co35, eo35⟩ := Kd.R_slice HO_4.out
                (first | subst eo35 | (injection eo35 with f1_ f2_ f3_; have f4_ := f1_.symm; have f5_ := f3_.symm; clear f1_ f2_ f3_; subst f4_; subst f5_))
                have p156 : 0 ≤ (x6_1 : Int) := of_decide_eq_true (by first | (with_reducible assumption) | assumption)
                have q156 : x6_1 < (t145.length : Int) := of_decide_eq_true (by first | (with_reducible assumption) | assumption)
                obtain ⟨ad156, A156_0, c156_0, e156, hx156_0, hl156_0, hi156_0⟩ := at_L5 (Kd.S_reads' HO_3.out).2.2 x6_1 p156 q156
                obtain rfl : ad151 = ad156 := (by injection e156)
                obtain ⟨ce156, hce156, hMe156, hcc156⟩ := Kd.S_get HO_3.out [] x6_1 p156 (by first | exact q156 | exact of_decide_eq_true (by first | (with_reducible assumption) | assumption) | (have e_ := (Kd.S_reads' HO_3.out).1; omega))
                obtain ⟨ve156_0, rfl, ge156_0⟩ := hMe156
                have hv156_0 := hcc156 0 _ rfl
                rw [Nat.add_zero, show ((Kd.slice 3 (Kd.int .i64))).sz = 1 from rfl, Nat.mul_one] at hv156_0
                replace hv156_0 := Option.some.inj (hv156_0.symm.trans hx156_0)
                rw [hv156_0] at ge156_0
                have HL156_0 := Aside0.mk (show Kd.R (Kd.int .i64) 3 _ _ _ _ (rd_L5 t145 x6_1) from ge156_0)
                clear hv156_0 ge156_0
                clear hcc156 hce156
                have HR156_0 := Aside0.mk hi156_0
                have HC156_0 := Aside0.mk hl156_0
                clear hi156_0 hl156_0
                replace p156 := eq_true p156
                replace q156 := eq_true q156
                have ea_ := Option.some.inj (hx152_0.symm.trans hx156_0)
                injection ea_ with ea_ en_ ec_
                subst ea_
                subst ec_
                clear en_
                have p157 : 0 ≤ (x7_2 : Int) := of_decide_eq_true (by first | (with_reducible assumption) | assumption)
                have q157 : x7_2 < ((rd_L5 t145 x6_1).length : Int) := of_decide_eq_true (by first | (with_reducible assumption) | assumption)
                obtain ⟨ad157, e157, hx157_0⟩ := Kd.at_int (by repeat (first | (with_reducible exact HR156_0.out) | (with_reducible refine Kd.C_alloc ?_ _) | (with_reducible refine Kd.C_drewN ?_ _) | (with_reducible refine Kd.C_drew ?_) | exact HR156_0.out)) x7_2 p157 q157
                cases e157
                replace p157 := eq_true p157
                replace q157 := eq_true q157
                have p158 : 0 ≤ (x6_1 : Int) := of_decide_eq_true (by first | (with_reducible assumption) | assumption)
                have q158 : x6_1 < (t145.length : Int) := of_decide_eq_true (by first | (with_reducible assumption) | assumption)
                obtain ⟨ad158, A158_0, c158_0, e158, hx158_0, hl158_0, hi158_0⟩ := at_L5 (Kd.S_reads' HO_3.out).2.2 x6_1 p158 q158
                obtain rfl : ad151 = ad158 := (by injection e158)
                obtain ⟨ce158, hce158, hMe158, hcc158⟩ := Kd.S_get HO_3.out [] x6_1 p158 (by first | exact q158 | exact of_decide_eq_true (by first | (with_reducible assumption) | assumption) | (have e_ := (Kd.S_reads' HO_3.out).1; omega))
                obtain ⟨ve158_0, rfl, ge158_0⟩ := hMe158
                have hv158_0 := hcc158 0 _ rfl
                rw [Nat.add_zero, show ((Kd.slice 3 (Kd.int .i64))).sz = 1 from rfl, Nat.mul_one] at hv158_0
                replace hv158_0 := Option.some.inj (hv158_0.symm.trans hx158_0)
                rw [hv158_0] at ge158_0
                have HL158_0 := Aside0.mk (show Kd.R (Kd.int .i64) 3 _ _ _ _ (rd_L5 t145 x6_1) from ge158_0)
                clear hv158_0 ge158_0
                clear hcc158 hce158
                have HR158_0 := Aside0.mk hi158_0
                have HC158_0 := Aside0.mk hl158_0
                clear hi158_0 hl158_0
                replace p158 := eq_true p158
                replace q158 := eq_true q158
                have ea_ := Option.some.inj (hx152_0.symm.trans hx158_0)
                injection ea_ with ea_ en_ ec_
                subst ea_
                subst ec_
                clear en_
                have p159 : 0 ≤ ((ji31) : Int) := of_decide_eq_true (by first | (with_reducible assumption) | assumption)
                have q159 : (ji31) < ((rd_L5 t145 x6_1).length : Int) := of_decide_eq_true (by first | (with_reducible assumption) | assumption)
                obtain ⟨ad159, e159, hx159_0⟩ := Kd.at_int (by repeat (first | (with_reducible exact HR158_0.out) | (with_reducible refine Kd.C_alloc ?_ _) | (with_reducible refine Kd.C_drewN ?_ _) | (with_reducible refine Kd.C_drew ?_) | exact HR158_0.out)) (ji31) p159 q159
                cases e159
                replace p159 := eq_true p159
                replace q159 := eq_true q159
                refine start_ (n := 42) (S := fun w' => w'.cell? (ad151.add (x6_1).toNat) = some (.slice (some ad153) (rd_L5 t145 x6_1).length c152_0) ∧ w'.cell? (ad153.add (x7_2).toNat) = some (.int .i64 (rd (rd_L5 t145 x6_1) x7_2)) ∧ w'.cell? (ad151.add (x6_1).toNat) = some (.slice (some ad153) (rd_L5 t145 x6_1).length c152_0) ∧ w'.cell? (ad153.add (x7_2).toNat) = some (.int .i64 (rd (rd_L5 t145 x6_1) x7_2)) ∧ w'.cell? (ad151.add (x6_1).toNat) = some (.slice (some ad153) (rd_L5 t145 x6_1).length c152_0) ∧ w'.cell? (ad153.add (x7_2).toNat) = some (.int .i64 (rd (rd_L5 t145 x6_1) x7_2)) ∧ w'.cell? (ad151.add (x6_1).toNat) = some (.slice (some ad153) (rd_L5 t145 x6_1).length c152_0) ∧ w'.cell? (ad153.add ((ji31)).toNat) = some (.int .i64 (rd (rd_L5 t145 x6_1) (ji31)))) (ds := []) (bA 42 0) (by kernel_rfl) rfl rfl ⟨hx152_0, hx153_0, hx154_0, hx155_0, hx156_0, hx157_0, hx158_0, hx159_0⟩ (fun hHeld => ?_); refine with_tabW davitlaw11_CallsGroups.tab14 davitlaw11_CallsGroups.bits14 (fun HT_ HW_ => ?_)
                generalize wr.drew = w34 at HO_3 HO_4 HL151_0 BK142 HR151_0 HB HL152_0 HL154_0 HL156_0 HL158_0 HR152_0 HR154_0 HR156_0 HR158_0 hx152_0 hx153_0 hx154_0 hx155_0 hx156_0 hx157_0 hx158_0 hx159_0 hHeld ⊢
                refine pure_ (i := 0) (N := some 37) (v := ?_) (a' := ?_) (bA 42 1) rfl rfl (any_of HT_.out (by kernel_rfl)) (fun _ _ _ h => h) (Or.inl ⟨by rfl, ?_⟩) ?_ ?_; rotate_left; (focus intro w'; go_simp; with_reducible rfl); rotate_left; (focus simp only [Act.put, sA, sB, sC, i64_w, i32_w]; rfl)
                refine pure_ (i := 1) (N := some 38) (v := ?_) (a' := ?_) (bA 42 3) rfl rfl (any_of HT_.out (by kernel_rfl)) (fun _ _ _ h => h) (Or.inl ⟨by rfl, ?_⟩) ?_ ?_; rotate_left; (focus intro w'; go_simp; with_reducible rfl); rotate_left; (focus simp only [Act.put, sA, sB, sC, i64_w, i32_w]; rfl)
                refine pure_ (i := 2) (N := some 39) (v := ?_) (a' := ?_) (bA 42 7) rfl rfl (any_of HT_.out (by kernel_rfl)) (fun _ _ _ h => h) (Or.inl ⟨by rfl, ?_⟩) ?_ ?_; rotate_left; (focus intro w'; go_simp; with_reducible rfl); rotate_left; (focus simp only [Act.put, sA, sB, sC, i64_w, i32_w]; rfl)
                refine pure_ (i := 4) (N := some 41) (v := ?_) (a' := ?_) (bA 42 23) rfl rfl (any_of HT_.out (by kernel_rfl)) (fun _ _ _ h => h) (Or.inl ⟨by rfl, ?_⟩) ?_ ?_; rotate_left; (focus intro w'; go_simp; with_reducible rfl); rotate_left; (focus simp only [Act.put, sA, sB, sC, i64_w, i32_w]; rfl)
                refine take_ (i := 3) (N := some 40) (v := ?_) (a' := ?_) (bA 42 31) rfl rfl (take_ofW HT_.out HW_.out (by kernel_rfl)) (fun _ _ _ h => h) (Or.inl ⟨by rfl, ?_⟩) hHeld ?_ ?_; rotate_left; (focus rintro w' ⟨s0, s1, s2, s3, s4, s5, s6, s7⟩; go_simp; with_reducible rfl); rotate_left; (focus simp only [Act.put, sA, sB, sC, i64_w, i32_w]; rfl)
                refine pure_ (i := 5) (N := some 42) (v := ?_) (a' := ?_) (bA 42 63) rfl rfl (any_of HT_.out (by kernel_rfl)) (fun _ _ _ h => h) (Or.inl ⟨by rfl, ?_⟩) ?_ ?_; rotate_left; (focus intro w'; go_simp; with_reducible rfl); rotate_left; (focus simp only [Act.put, sA, sB, sC, i64_w, i32_w]; rfl)
                refine take_ (i := 6) (N := some 43) (v := ?_) (a' := ?_) (bA 42 127) rfl rfl (take_ofW HT_.out HW_.out (by kernel_rfl)) (fun _ _ _ h => h) (Or.inl ⟨by rfl, ?_⟩) hHeld ?_ ?_; rotate_left; (focus rintro w' ⟨s0, s1, s2, s3, s4, s5, s6, s7⟩; go_simp; with_reducible rfl); rotate_left; (focus simp only [Act.put, sA, sB, sC, i64_w, i32_w]; rfl)
                refine pure_ (i := 7) (N := some 44) (v := ?_) (a' := ?_) (bA 42 255) rfl rfl (any_of HT_.out (by kernel_rfl)) (fun _ _ _ h => h) (Or.inl ⟨by rfl, ?_⟩) ?_ ?_; rotate_left; (focus intro w'; go_simp; with_reducible rfl); rotate_left; (focus simp only [Act.put, sA, sB, sC, i64_w, i32_w]; rfl)
                refine pure_ (i := 8) (N := some 45) (v := ?_) (a' := ?_) (bA 42 511) rfl rfl (any_of HT_.out (by kernel_rfl)) (fun _ _ _ h => h) (Or.inl ⟨by rfl, ?_⟩) ?_ ?_; rotate_left; (focus intro w'; go_simp; with_reducible rfl); rotate_left; (focus simp only [Act.put, sA, sB, sC, i64_w, i32_w]; rfl)
                refine pure_ (i := 9) (N := some 46) (v := ?_) (a' := ?_) (bA 42 1023) rfl rfl (any_of HT_.out (by kernel_rfl)) (fun _ _ _ h => h) (Or.inl ⟨by rfl, ?_⟩) ?_ ?_; rotate_left; (focus intro w'; go_simp; with_reducible rfl); rotate_left; (focus simp only [Act.put, sA, sB, sC, i64_w, i32_w]; rfl)
                refine pure_ (i := 10) (N := some 47) (v := ?_) (a' := ?_) (bA 42 2047) rfl rfl (any_of HT_.out (by kernel_rfl)) (fun _ _ _ h => h) (Or.inl ⟨by rfl, ?_⟩) ?_ ?_; rotate_left; (focus intro w'; go_simp; with_reducible rfl); rotate_left; (focus simp only [Act.put, sA, sB, sC, i64_w, i32_w]; rfl)
                refine pure_ (i := 11) (N := some 48) (v := ?_) (a' := ?_) (bA 42 4095) rfl rfl (any_of HT_.out (by kernel_rfl)) (fun _ _ _ h => h) (Or.inl ⟨by rfl, ?_⟩) ?_ ?_; rotate_left; (focus intro w'; go_simp; with_reducible rfl); rotate_left; (focus simp only [Act.put, sA, sB, sC, i64_w, i32_w]; rfl)
                refine pure_ (i := 13) (N := some 50) (v := ?_) (a' := ?_) (bA 42 12287) rfl rfl (any_of HT_.out (by kernel_rfl)) (fun _ _ _ h => h) (Or.inl ⟨by rfl, ?_⟩) ?_ ?_; rotate_left; (focus intro w'; go_simp; with_reducible rfl); rotate_left; (focus simp only [Act.put, sA, sB, sC, i64_w, i32_w]; rfl)
                refine pure_ (i := 16) (N := some 53) (v := ?_) (a' := ?_) (bA 42 77823) rfl rfl (any_of HT_.out (by kernel_rfl)) (fun _ _ _ h => h) (Or.inl ⟨by rfl, ?_⟩) ?_ ?_; rotate_left; (focus intro w'; go_simp; with_reducible rfl); rotate_left; (focus simp only [Act.put, sA, sB, sC, i64_w, i32_w]; rfl)
                refine pure_ (i := 17) (N := some 54) (v := ?_) (a' := ?_) (bA 42 208895) rfl rfl (any_of HT_.out (by kernel_rfl)) (fun _ _ _ h => h) (Or.inl ⟨by rfl, ?_⟩) ?_ ?_; rotate_left; (focus intro w'; go_simp; with_reducible rfl); rotate_left; (focus simp only [Act.put, sA, sB, sC, i64_w, i32_w]; rfl)
                refine take_ (i := 12) (N := some 49) (v := ?_) (a' := ?_) (bA 42 212991) rfl rfl (take_ofW HT_.out HW_.out (by kernel_rfl)) (fun _ _ _ h => h) (Or.inl ⟨by rfl, ?_⟩) hHeld ?_ ?_; rotate_left; (focus rintro w' ⟨s0, s1, s2, s3, s4, s5, s6, s7⟩; go_simp; with_reducible rfl); rotate_left; (focus simp only [Act.put, sA, sB, sC, i64_w, i32_w]; rfl)
                refine pure_ (i := 14) (N := some 51) (v := ?_) (a' := ?_) (bA 42 229375) rfl rfl (any_of HT_.out (by kernel_rfl)) (fun _ _ _ h => h) (Or.inl ⟨by rfl, ?_⟩) ?_ ?_; rotate_left; (focus intro w'; go_simp; with_reducible rfl); rotate_left; (focus simp only [Act.put, sA, sB, sC, i64_w, i32_w]; rfl)
                refine take_ (i := 15) (N := some 52) (v := ?_) (a' := ?_) (bA 42 262143) rfl rfl (take_ofW HT_.out HW_.out (by kernel_rfl)) (fun _ _ _ h => h) (Or.inl ⟨by rfl, ?_⟩) hHeld ?_ ?_; rotate_left; (focus rintro w' ⟨s0, s1, s2, s3, s4, s5, s6, s7⟩; go_simp; with_reducible rfl); rotate_left; (focus simp only [Act.put, sA, sB, sC, i64_w, i32_w]; rfl)
                refine pure_ (i := 18) (N := some 55) (v := ?_) (a' := ?_) (bA 42 524287) rfl rfl (any_of HT_.out (by kernel_rfl)) (fun _ _ _ h => h) (Or.inl ⟨by rfl, ?_⟩) ?_ ?_; rotate_left; (focus intro w'; go_simp; with_reducible rfl); rotate_left; (focus simp only [Act.put, sA, sB, sC, i64_w, i32_w]; rfl)
                refine pure_ (i := 19) (N := some 56) (v := ?_) (a' := ?_) (bA 42 1048575) rfl rfl (any_of HT_.out (by kernel_rfl)) (fun _ _ _ h => h) (Or.inl ⟨by rfl, ?_⟩) ?_ ?_; rotate_left; (focus intro w'; go_simp; with_reducible rfl); rotate_left; (focus simp only [Act.put, sA, sB, sC, i64_w, i32_w]; rfl)
                refine pure_ (i := 20) (N := some 57) (v := ?_) (a' := ?_) (bA 42 2097151) rfl rfl (any_of HT_.out (by kernel_rfl)) (fun _ _ _ h => h) (Or.inl ⟨by rfl, ?_⟩) ?_ ?_; rotate_left; (focus intro w'; go_simp; with_reducible rfl); rotate_left; (focus simp only [Act.put, sA, sB, sC, i64_w, i32_w]; rfl)
                refine pure_ (i := 21) (N := some 58) (v := ?_) (a' := ?_) (bA 42 4194303) rfl rfl (any_of HT_.out (by kernel_rfl)) (fun _ _ _ h => h) (Or.inl ⟨by rfl, ?_⟩) ?_ ?_; rotate_left; (focus intro w'; go_simp; with_reducible rfl); rotate_left; (focus simp only [Act.put, sA, sB, sC, i64_w, i32_w]; rfl)
                refine pure_ (i := 22) (N := some 59) (v := ?_) (a' := ?_) (bA 42 8388607) rfl rfl (any_of HT_.out (by kernel_rfl)) (fun _ _ _ h => h) (Or.inl ⟨by rfl, ?_⟩) ?_ ?_; rotate_left; (focus intro w'; go_simp; with_reducible rfl); rotate_left; (focus simp only [Act.put, sA, sB, sC, i64_w, i32_w]; rfl)
                refine pure_ (i := 23) (N := some 60) (v := ?_) (a' := ?_) (bA 42 16777215) rfl rfl (any_of HT_.out (by kernel_rfl)) (fun _ _ _ h => h) (Or.inl ⟨by rfl, ?_⟩) ?_ ?_; rotate_left; (focus intro w'; go_simp; with_reducible rfl); rotate_left; (focus simp only [Act.put, sA, sB, sC, i64_w, i32_w]; rfl)
                refine pure_ (i := 24) (N := some 61) (v := ?_) (a' := ?_) (bA 42 33554431) rfl rfl (any_of HT_.out (by kernel_rfl)) (fun _ _ _ h => h) (Or.inl ⟨by rfl, ?_⟩) ?_ ?_; rotate_left; (focus intro w'; go_simp; with_reducible rfl); rotate_left; (focus simp only [Act.put, sA, sB, sC, i64_w, i32_w]; rfl)
                refine pure_ (i := 25) (N := some 62) (v := ?_) (a' := ?_) (bA 42 67108863) rfl rfl (any_of HT_.out (by kernel_rfl)) (fun _ _ _ h => h) (Or.inl ⟨by rfl, ?_⟩) ?_ ?_; rotate_left; (focus intro w'; go_simp; with_reducible rfl); rotate_left; (focus simp only [Act.put, sA, sB, sC, i64_w, i32_w]; rfl)
                refine pure_ (i := 26) (N := some 63) (v := ?_) (a' := ?_) (bA 42 134217727) rfl rfl (any_of HT_.out (by kernel_rfl)) (fun _ _ _ h => h) (Or.inl ⟨by rfl, ?_⟩) ?_ ?_; rotate_left; (focus intro w'; go_simp; with_reducible rfl); rotate_left; (focus simp only [Act.put, sA, sB, sC, i64_w, i32_w]; rfl)
                refine pure_ (i := 28) (N := some 65) (v := ?_) (a' := ?_) (bA 42 402653183) rfl rfl (any_of HT_.out (by kernel_rfl)) (fun _ _ _ h => h) (Or.inl ⟨by rfl, ?_⟩) ?_ ?_; rotate_left; (focus intro w'; go_simp; with_reducible rfl); rotate_left; (focus simp only [Act.put, sA, sB, sC, i64_w, i32_w]; rfl)
                refine pure_ (i := 31) (N := some 68) (v := ?_) (a' := ?_) (bA 42 2550136831) rfl rfl (any_of HT_.out (by kernel_rfl)) (fun _ _ _ h => h) (Or.inl ⟨by rfl, ?_⟩) ?_ ?_; rotate_left; (focus intro w'; go_simp; with_reducible rfl); rotate_left; (focus simp only [Act.put, sA, sB, sC, i64_w, i32_w]; rfl)
                refine pure_ (i := 32) (N := some 69) (v := ?_) (a' := ?_) (bA 42 6845104127) rfl rfl (any_of HT_.out (by kernel_rfl)) (fun _ _ _ h => h) (Or.inl ⟨by rfl, ?_⟩) ?_ ?_; rotate_left; (focus intro w'; go_simp; with_reducible rfl); rotate_left; (focus simp only [Act.put, sA, sB, sC, i64_w, i32_w]; rfl)
                refine pure_ (i := 33) (N := some 70) (v := ?_) (a' := ?_) (bA 42 15435038719) rfl rfl (any_of HT_.out (by kernel_rfl)) (fun _ _ _ h => h) (Or.inl ⟨by rfl, ?_⟩) ?_ ?_; rotate_left; (focus intro w'; go_simp; with_reducible rfl); rotate_left; (focus simp only [Act.put, sA, sB, sC, i64_w, i32_w]; rfl)
                refine pure_ (i := 35) (N := some 72) (v := ?_) (a' := ?_) (bA 42 49794777087) rfl rfl (any_of HT_.out (by kernel_rfl)) (fun _ _ _ h => h) (Or.inl ⟨by rfl, ?_⟩) ?_ ?_; rotate_left; (focus intro w'; go_simp; with_reducible rfl); rotate_left; (focus simp only [Act.put, sA, sB, sC, i64_w, i32_w]; rfl)
                refine pure_ (i := 36) (N := some 73) (v := ?_) (a' := ?_) (bA 42 118514253823) rfl rfl (any_of HT_.out (by kernel_rfl)) (fun _ _ _ h => h) (Or.inl ⟨by rfl, ?_⟩) ?_ ?_; rotate_left; (focus intro w'; go_simp; with_reducible rfl); rotate_left; (focus simp only [Act.put, sA, sB, sC, i64_w, i32_w]; rfl)
                refine take_ (i := 27) (N := some 64) (v := ?_) (a' := ?_) (bA 42 118648471551) rfl rfl (take_ofW HT_.out HW_.out (by kernel_rfl)) (fun _ _ _ h => h) (Or.inl ⟨by rfl, ?_⟩) hHeld ?_ ?_; rotate_left; (focus rintro w' ⟨s0, s1, s2, s3, s4, s5, s6, s7⟩; go_simp; with_reducible rfl); rotate_left; (focus simp only [Act.put, sA, sB, sC, i64_w, i32_w]; rfl)
                refine pure_ (i := 29) (N := some 66) (v := ?_) (a' := ?_) (bA 42 119185342463) rfl rfl (any_of HT_.out (by kernel_rfl)) (fun _ _ _ h => h) (Or.inl ⟨by rfl, ?_⟩) ?_ ?_; rotate_left; (focus intro w'; go_simp; with_reducible rfl); rotate_left; (focus simp only [Act.put, sA, sB, sC, i64_w, i32_w]; rfl)
                refine take_ (i := 30) (N := some 67) (v := ?_) (a' := ?_) (bA 42 120259084287) rfl rfl (take_ofW HT_.out HW_.out (by kernel_rfl)) (fun _ _ _ h => h) (Or.inl ⟨by rfl, ?_⟩) hHeld ?_ ?_; rotate_left; (focus rintro w' ⟨s0, s1, s2, s3, s4, s5, s6, s7⟩; go_simp; with_reducible rfl); rotate_left; (focus simp only [Act.put, sA, sB, sC, i64_w, i32_w]; rfl)
                refine take_ (i := 34) (N := some 71) (v := ?_) (a' := ?_) (bA 42 137438953471) rfl rfl (take_ofW HT_.out HW_.out (by kernel_rfl)) (fun _ _ _ h => h) (Or.inl ⟨by rfl, ?_⟩) hHeld ?_ ?_; rotate_left; (focus rintro w' ⟨s0, s1, s2, s3, s4, s5, s6, s7⟩; go_simp; with_reducible rfl); rotate_left; (focus simp only [Act.put, sA, sB, sC, i64_w, i32_w]; rfl)
                refine pure_ (i := 37) (N := some 74) (v := ?_) (a' := ?_) (bA 42 274877906943) rfl rfl (any_of HT_.out (by kernel_rfl)) (fun _ _ _ h => h) (Or.inl ⟨by rfl, ?_⟩) ?_ ?_; rotate_left; (focus intro w'; go_simp; with_reducible rfl); rotate_left; (focus simp only [Act.put, sA, sB, sC, i64_w, i32_w]; rfl)
                refine take_ (i := 38) (N := some 75) (v := ?_) (a' := ?_) (bA 42 549755813887) rfl rfl (take_ofW HT_.out HW_.out (by kernel_rfl)) (fun _ _ _ h => h) (Or.inl ⟨by rfl, ?_⟩) hHeld ?_ ?_; rotate_left; (focus rintro w' ⟨s0, s1, s2, s3, s4, s5, s6, s7⟩; go_simp; with_reducible rfl); rotate_left; (focus simp only [Act.put, sA, sB, sC, i64_w, i32_w]; rfl)
                refine pure_ (i := 39) (N := some 76) (v := ?_) (a' := ?_) (bA 42 1099511627775) rfl rfl (any_of HT_.out (by kernel_rfl)) (fun _ _ _ h => h) (Or.inl ⟨by rfl, ?_⟩) ?_ ?_; rotate_left; (focus intro w'; go_simp; with_reducible rfl); rotate_left; (focus simp only [Act.put, sA, sB, sC, i64_w, i32_w]; rfl)
                refine pure_ (i := 40) (N := some 77) (v := ?_) (a' := ?_) (bA 42 2199023255551) rfl rfl (any_of HT_.out (by kernel_rfl)) (fun _ _ _ h => h) (Or.inl ⟨by rfl, ?_⟩) ?_ ?_; rotate_left; (focus intro w'; go_simp; with_reducible rfl); rotate_left; (focus simp only [Act.put, sA, sB, sC, i64_w, i32_w]; rfl)
                refine pure_ (i := 41) (N := some 78) (v := ?_) (a' := ?_) (bA 42 4398046511103) rfl rfl (any_of HT_.out (by kernel_rfl)) (fun _ _ _ h => h) (Or.inl ⟨by rfl, ?_⟩) ?_ ?_; rotate_left; (focus intro w'; go_simp; with_reducible rfl); rotate_left; (focus simp only [Act.put, sA, sB, sC, i64_w, i32_w]; rfl)
                refine done_ (done_of HT_.out (by kernel_rfl)) ?_
                try go_wp2
                go_meet
                case rel => exact ⟨_, (decide ((rd (rd_L5 t145 x6_1) x7_2) ≤ (rd (rd_L5 t145 x6_1) (ji31)))), (by first | rfl | (simp; done) | (simp only [← hji31] <;> (first | rfl | simp)) | (simp [*]; done)), H', ⟨by have := HK1.out; have := HK2.out; first | omega | exact Nat.le_refl _⟩, ⟨by (with_reducible repeat (first | apply Kd.S_alloc | apply Kd.S_drewN | apply Kd.S_drew)); exact HO_3.out⟩, ⟨by (with_reducible repeat (first | apply Kd.R_alloc | apply Kd.R_drewN | apply Kd.R_drew)); exact HO_4.out⟩, ⟨by (with_reducible repeat (first | refine blk_drewN ?_ _ | refine blk_drew ?_ | refine blk_alloc ?_ _)); exact BK142.out⟩, ⟨by repeat (first | (with_reducible exact HR151_0.out) | (with_reducible refine Kd.C_alloc ?_ _) | (with_reducible refine Kd.C_drewN ?_ _) | (with_reducible refine Kd.C_drew ?_) | exact HR151_0.out)⟩, ⟨by repeat (first | (with_reducible first | exact HB.out | apply below_alloc | apply pw_below_drewN | apply below_drew1 | refine below_set ?_ GE142.out) | exact HB.out)⟩⟩
               ·rw [if_neg c33] at H
                exact absurd H (by simp)
              ·rw [if_neg c32] at H
               exact absurd H (by simp)
             ·rw [if_neg c30] at H
              have c30b0 : decide (0 < x7_2) = false := decide_eq_false c30
              clear c30
              have H' := Aside0.mk H
              clear H
              try go_wp2
              have n0_ := Aside0.mk (Kd.S_drew HO_3.out)
              have n1_ := Aside0.mk (Kd.R_drew HO_4.out)
              have n2_ := Aside0.mk (Kd.R_drew HL151_0.out)
              have n3_ := Aside0.mk (blk_drew BK142.out)
              have n4_ := Aside0.mk (Kd.C_drew HR151_0.out)
              have n5_ := Aside0.mk (below_drew1 HB.out)
              clear HO_3
              clear HO_4
              clear HL151_0
              clear BK142
              clear HR151_0
              clear HB
              have HO_3 := n0_
              have HO_4 := n1_
              have HL151_0 := n2_
              have BK142 := n3_
              have HR151_0 := n4_
              have HB := n5_
              clear n0_ n1_ n2_ n3_ n4_ n5_
              have p152 : 0 ≤ (x6_1 : Int) := of_decide_eq_true (by first | (with_reducible assumption) | assumption)
              have q152 : x6_1 < (t145.length : Int) := of_decide_eq_true (by first | (with_reducible assumption) | assumption)
              obtain ⟨ad152, A152_0, c152_0, e152, hx152_0, hl152_0, hi152_0⟩ := at_L5 (Kd.S_reads' HO_3.out).2.2 x6_1 p152 q152
              obtain rfl : ad151 = ad152 := (by injection e152)
              obtain ⟨ce152, hce152, hMe152, hcc152⟩ := Kd.S_get HO_3.out [] x6_1 p152 (by first | exact q152 | exact of_decide_eq_true (by first | (with_reducible assumption) | assumption) | (have e_ := (Kd.S_reads' HO_3.out).1; omega))
              obtain ⟨ve152_0, rfl, ge152_0⟩ := hMe152
              have hv152_0 := hcc152 0 _ rfl
              rw [Nat.add_zero, show ((Kd.slice 3 (Kd.int .i64))).sz = 1 from rfl, Nat.mul_one] at hv152_0
              replace hv152_0 := Option.some.inj (hv152_0.symm.trans hx152_0)
              rw [hv152_0] at ge152_0
              have HL152_0 := Aside0.mk (show Kd.R (Kd.int .i64) 3 _ _ _ _ (rd_L5 t145 x6_1) from ge152_0)
              clear hv152_0 ge152_0
              clear hcc152 hce152
              have HR152_0 := Aside0.mk hi152_0
              have HC152_0 := Aside0.mk hl152_0
              clear hi152_0 hl152_0
              replace p152 := eq_true p152
              replace q152 := eq_true q152
              have p153 : 0 ≤ (x7_2 : Int) := of_decide_eq_true (by first | (with_reducible assumption) | assumption)
              have q153 : x7_2 < ((rd_L5 t145 x6_1).length : Int) := of_decide_eq_true (by first | (with_reducible assumption) | assumption)
              obtain ⟨ad153, e153, hx153_0⟩ := Kd.at_int (by repeat (first | (with_reducible exact HR152_0.out) | (with_reducible refine Kd.C_alloc ?_ _) | (with_reducible refine Kd.C_drewN ?_ _) | (with_reducible refine Kd.C_drew ?_) | exact HR152_0.out)) x7_2 p153 q153
              cases e153
              replace p153 := eq_true p153
              replace q153 := eq_true q153
              have p154 : 0 ≤ (x6_1 : Int) := of_decide_eq_true (by first | (with_reducible assumption) | assumption)
              have q154 : x6_1 < (t145.length : Int) := of_decide_eq_true (by first | (with_reducible assumption) | assumption)
              obtain ⟨ad154, A154_0, c154_0, e154, hx154_0, hl154_0, hi154_0⟩ := at_L5 (Kd.S_reads' HO_3.out).2.2 x6_1 p154 q154
              obtain rfl : ad151 = ad154 := (by injection e154)
              obtain ⟨ce154, hce154, hMe154, hcc154⟩ := Kd.S_get HO_3.out [] x6_1 p154 (by first | exact q154 | exact of_decide_eq_true (by first | (with_reducible assumption) | assumption) | (have e_ := (Kd.S_reads' HO_3.out).1; omega))
              obtain ⟨ve154_0, rfl, ge154_0⟩ := hMe154
              have hv154_0 := hcc154 0 _ rfl
              rw [Nat.add_zero, show ((Kd.slice 3 (Kd.int .i64))).sz = 1 from rfl, Nat.mul_one] at hv154_0
              replace hv154_0 := Option.some.inj (hv154_0.symm.trans hx154_0)
              rw [hv154_0] at ge154_0
              have HL154_0 := Aside0.mk (show Kd.R (Kd.int .i64) 3 _ _ _ _ (rd_L5 t145 x6_1) from ge154_0)
              clear hv154_0 ge154_0
              clear hcc154 hce154
              have HR154_0 := Aside0.mk hi154_0
              have HC154_0 := Aside0.mk hl154_0
              clear hi154_0 hl154_0
              replace p154 := eq_true p154
              replace q154 := eq_true q154
              have ea_ := Option.some.inj (hx152_0.symm.trans hx154_0)
              injection ea_ with ea_ en_ ec_
              subst ea_
              subst ec_
              clear en_
              have p155 : 0 ≤ (x7_2 : Int) := of_decide_eq_true (by first | (with_reducible assumption) | assumption)
              have q155 : x7_2 < ((rd_L5 t145 x6_1).length : Int) := of_decide_eq_true (by first | (with_reducible assumption) | assumption)
              obtain ⟨ad155, e155, hx155_0⟩ := Kd.at_int (by repeat (first | (with_reducible exact HR154_0.out) | (with_reducible refine Kd.C_alloc ?_ _) | (with_reducible refine Kd.C_drewN ?_ _) | (with_reducible refine Kd.C_drew ?_) | exact HR154_0.out)) x7_2 p155 q155
              cases e155
              replace p155 := eq_true p155
              replace q155 := eq_true q155
              obtain ⟨Ao37, co37, eo37⟩ := Kd.R_slice HO_4.out
              (first | subst eo37 | (injection eo37 with f1_ f2_ f3_; have f4_ := f1_.symm; have f5_ := f3_.symm; clear f1_ f2_ f3_; subst f4_; subst f5_))
              refine start_ (n := 42) (S := fun w' => w'.cell? (ad151.add (x6_1).toNat) = some (.slice (some ad153) (rd_L5 t145 x6_1).length c152_0) ∧ w'.cell? (ad153.add (x7_2).toNat) = some (.int .i64 (rd (rd_L5 t145 x6_1) x7_2)) ∧ w'.cell? (ad151.add (x6_1).toNat) = some (.slice (some ad153) (rd_L5 t145 x6_1).length c152_0) ∧ w'.cell? (ad153.add (x7_2).toNat) = some (.int .i64 (rd (rd_L5 t145 x6_1) x7_2))) (ds := []) (bA 42 0) (by kernel_rfl) rfl rfl ⟨hx152_0, hx153_0, hx154_0, hx155_0⟩ (fun hHeld => ?_); refine with_tabW davitlaw11_CallsGroups.tab14 davitlaw11_CallsGroups.bits14 (fun HT_ HW_ => ?_)
              generalize wr.drew = w36 at HO_3 HO_4 HL151_0 BK142 HR151_0 HB HL152_0 HL154_0 HR152_0 HR154_0 hx152_0 hx153_0 hx154_0 hx155_0 hHeld ⊢
              refine pure_ (i := 0) (N := some 37) (v := ?_) (a' := ?_) (bA 42 1) rfl rfl (any_of HT_.out (by kernel_rfl)) (fun _ _ _ h => h) (Or.inl ⟨by rfl, ?_⟩) ?_ ?_; rotate_left; (focus intro w'; go_simp; with_reducible rfl); rotate_left; (focus simp only [Act.put, sA, sB, sC, i64_w, i32_w]; rfl)
              refine pure_ (i := 1) (N := some 38) (v := ?_) (a' := ?_) (bA 42 3) rfl rfl (any_of HT_.out (by kernel_rfl)) (fun _ _ _ h => h) (Or.inl ⟨by rfl, ?_⟩) ?_ ?_; rotate_left; (focus intro w'; go_simp; with_reducible rfl); rotate_left; (focus simp only [Act.put, sA, sB, sC, i64_w, i32_w]; rfl)
              refine pure_ (i := 2) (N := some 39) (v := ?_) (a' := ?_) (bA 42 7) rfl rfl (any_of HT_.out (by kernel_rfl)) (fun _ _ _ h => h) (Or.inl ⟨by rfl, ?_⟩) ?_ ?_; rotate_left; (focus intro w'; go_simp; with_reducible rfl); rotate_left; (focus simp only [Act.put, sA, sB, sC, i64_w, i32_w]; rfl)
              refine pure_ (i := 4) (N := some 41) (v := ?_) (a' := ?_) (bA 42 23) rfl rfl (any_of HT_.out (by kernel_rfl)) (fun _ _ _ h => h) (Or.inl ⟨by rfl, ?_⟩) ?_ ?_; rotate_left; (focus intro w'; go_simp; with_reducible rfl); rotate_left; (focus simp only [Act.put, sA, sB, sC, i64_w, i32_w]; rfl)
              refine take_ (i := 3) (N := some 40) (v := ?_) (a' := ?_) (bA 42 31) rfl rfl (take_ofW HT_.out HW_.out (by kernel_rfl)) (fun _ _ _ h => h) (Or.inl ⟨by rfl, ?_⟩) hHeld ?_ ?_; rotate_left; (focus rintro w' ⟨s0, s1, s2, s3⟩; go_simp; with_reducible rfl); rotate_left; (focus simp only [Act.put, sA, sB, sC, i64_w, i32_w]; rfl)
              refine pure_ (i := 5) (N := some 42) (v := ?_) (a' := ?_) (bA 42 63) rfl rfl (any_of HT_.out (by kernel_rfl)) (fun _ _ _ h => h) (Or.inl ⟨by rfl, ?_⟩) ?_ ?_; rotate_left; (focus intro w'; go_simp; with_reducible rfl); rotate_left; (focus simp only [Act.put, sA, sB, sC, i64_w, i32_w]; rfl)
              refine take_ (i := 6) (N := some 43) (v := ?_) (a' := ?_) (bA 42 127) rfl rfl (take_ofW HT_.out HW_.out (by kernel_rfl)) (fun _ _ _ h => h) (Or.inl ⟨by rfl, ?_⟩) hHeld ?_ ?_; rotate_left; (focus rintro w' ⟨s0, s1, s2, s3⟩; go_simp; with_reducible rfl); rotate_left; (focus simp only [Act.put, sA, sB, sC, i64_w, i32_w]; rfl)
              refine pure_ (i := 7) (N := some 44) (v := ?_) (a' := ?_) (bA 42 255) rfl rfl (any_of HT_.out (by kernel_rfl)) (fun _ _ _ h => h) (Or.inl ⟨by rfl, ?_⟩) ?_ ?_; rotate_left; (focus intro w'; go_simp; with_reducible rfl); rotate_left; (focus simp only [Act.put, sA, sB, sC, i64_w, i32_w]; rfl)
              refine pure_ (i := 8) (N := some 45) (v := ?_) (a' := ?_) (bA 42 511) rfl rfl (any_of HT_.out (by kernel_rfl)) (fun _ _ _ h => h) (Or.inl ⟨by rfl, ?_⟩) ?_ ?_; rotate_left; (focus intro w'; go_simp; with_reducible rfl); rotate_left; (focus simp only [Act.put, sA, sB, sC, i64_w, i32_w]; rfl)
              refine pure_ (i := 9) (N := some 46) (v := ?_) (a' := ?_) (bA 42 1023) rfl rfl (any_of HT_.out (by kernel_rfl)) (fun _ _ _ h => h) (Or.inl ⟨by rfl, ?_⟩) ?_ ?_; rotate_left; (focus intro w'; go_simp; with_reducible rfl); rotate_left; (focus simp only [Act.put, sA, sB, sC, i64_w, i32_w]; rfl)
              refine pure_ (i := 10) (N := some 47) (v := ?_) (a' := ?_) (bA 42 2047) rfl rfl (any_of HT_.out (by kernel_rfl)) (fun _ _ _ h => h) (Or.inl ⟨by rfl, ?_⟩) ?_ ?_; rotate_left; (focus intro w'; go_simp; with_reducible rfl); rotate_left; (focus simp only [Act.put, sA, sB, sC, i64_w, i32_w]; rfl)
              refine pure_ (i := 11) (N := some 48) (v := ?_) (a' := ?_) (bA 42 4095) rfl rfl (any_of HT_.out (by kernel_rfl)) (fun _ _ _ h => h) (Or.inl ⟨by rfl, ?_⟩) ?_ ?_; rotate_left; (focus intro w'; go_simp; with_reducible rfl); rotate_left; (focus simp only [Act.put, sA, sB, sC, i64_w, i32_w]; rfl)
              refine pure_ (i := 13) (N := some 50) (v := ?_) (a' := ?_) (bA 42 12287) rfl rfl (any_of HT_.out (by kernel_rfl)) (fun _ _ _ h => h) (Or.inl ⟨by rfl, ?_⟩) ?_ ?_; rotate_left; (focus intro w'; go_simp; with_reducible rfl); rotate_left; (focus simp only [Act.put, sA, sB, sC, i64_w, i32_w]; rfl)
              refine pure_ (i := 16) (N := some 53) (v := ?_) (a' := ?_) (bA 42 77823) rfl rfl (any_of HT_.out (by kernel_rfl)) (fun _ _ _ h => h) (Or.inl ⟨by rfl, ?_⟩) ?_ ?_; rotate_left; (focus intro w'; go_simp; with_reducible rfl); rotate_left; (focus simp only [Act.put, sA, sB, sC, i64_w, i32_w]; rfl)
              refine pure_ (i := 17) (N := some 54) (v := ?_) (a' := ?_) (bA 42 208895) rfl rfl (any_of HT_.out (by kernel_rfl)) (fun _ _ _ h => h) (Or.inl ⟨by rfl, ?_⟩) ?_ ?_; rotate_left; (focus intro w'; go_simp; with_reducible rfl); rotate_left; (focus simp only [Act.put, sA, sB, sC, i64_w, i32_w]; rfl)
              refine take_ (i := 12) (N := some 49) (v := ?_) (a' := ?_) (bA 42 212991) rfl rfl (take_ofW HT_.out HW_.out (by kernel_rfl)) (fun _ _ _ h => h) (Or.inl ⟨by rfl, ?_⟩) hHeld ?_ ?_; rotate_left; (focus rintro w' ⟨s0, s1, s2, s3⟩; go_simp; with_reducible rfl); rotate_left; (focus simp only [Act.put, sA, sB, sC, i64_w, i32_w]; rfl)
              refine pure_ (i := 14) (N := some 51) (v := ?_) (a' := ?_) (bA 42 229375) rfl rfl (any_of HT_.out (by kernel_rfl)) (fun _ _ _ h => h) (Or.inl ⟨by rfl, ?_⟩) ?_ ?_; rotate_left; (focus intro w'; go_simp; with_reducible rfl); rotate_left; (focus simp only [Act.put, sA, sB, sC, i64_w, i32_w]; rfl)
              refine take_ (i := 15) (N := some 52) (v := ?_) (a' := ?_) (bA 42 262143) rfl rfl (take_ofW HT_.out HW_.out (by kernel_rfl)) (fun _ _ _ h => h) (Or.inl ⟨by rfl, ?_⟩) hHeld ?_ ?_; rotate_left; (focus rintro w' ⟨s0, s1, s2, s3⟩; go_simp; with_reducible rfl); rotate_left; (focus simp only [Act.put, sA, sB, sC, i64_w, i32_w]; rfl)
              refine pure_ (i := 18) (N := some 55) (v := ?_) (a' := ?_) (bA 42 524287) rfl rfl (any_of HT_.out (by kernel_rfl)) (fun _ _ _ h => h) (Or.inl ⟨by rfl, ?_⟩) ?_ ?_; rotate_left; (focus intro w'; go_simp; with_reducible rfl); rotate_left; (focus simp only [Act.put, sA, sB, sC, i64_w, i32_w]; rfl)
              refine pure_ (i := 19) (N := some 56) (v := ?_) (a' := ?_) (bA 42 1048575) rfl rfl (any_of HT_.out (by kernel_rfl)) (fun _ _ _ h => h) (Or.inl ⟨by rfl, ?_⟩) ?_ ?_; rotate_left; (focus intro w'; go_simp; with_reducible rfl); rotate_left; (focus simp only [Act.put, sA, sB, sC, i64_w, i32_w]; rfl)
              refine pure_ (i := 20) (N := some 57) (v := ?_) (a' := ?_) (bA 42 2097151) rfl rfl (any_of HT_.out (by kernel_rfl)) (fun _ _ _ h => h) (Or.inl ⟨by rfl, ?_⟩) ?_ ?_; rotate_left; (focus intro w'; go_simp; with_reducible rfl); rotate_left; (focus simp only [Act.put, sA, sB, sC, i64_w, i32_w]; rfl)
              refine pure_ (i := 21) (N := some 58) (v := ?_) (a' := ?_) (bA 42 4194303) rfl rfl (any_of HT_.out (by kernel_rfl)) (fun _ _ _ h => h) (Or.inl ⟨by rfl, ?_⟩) ?_ ?_; rotate_left; (focus intro w'; go_simp; with_reducible rfl); rotate_left; (focus simp only [Act.put, sA, sB, sC, i64_w, i32_w]; rfl)
              refine pure_ (i := 22) (N := some 59) (v := ?_) (a' := ?_) (bA 42 8388607) rfl rfl (any_of HT_.out (by kernel_rfl)) (fun _ _ _ h => h) (Or.inl ⟨by rfl, ?_⟩) ?_ ?_; rotate_left; (focus intro w'; go_simp; with_reducible rfl); rotate_left; (focus simp only [Act.put, sA, sB, sC, i64_w, i32_w]; rfl)
              refine pure_ (i := 23) (N := some 60) (v := ?_) (a' := ?_) (bA 42 16777215) rfl rfl (any_of HT_.out (by kernel_rfl)) (fun _ _ _ h => h) (Or.inl ⟨by rfl, ?_⟩) ?_ ?_; rotate_left; (focus intro w'; go_simp; with_reducible rfl); rotate_left; (focus simp only [Act.put, sA, sB, sC, i64_w, i32_w]; rfl)
              refine pure_ (i := 24) (N := some 61) (v := undef) (a' := ?_) (bA 42 33554431) rfl rfl (any_of HT_.out (by kernel_rfl)) (fun _ _ _ h => h) (Or.inr ⟨by rfl, rfl⟩) ?_ ?_; rotate_left; (focus simp only [Act.put, sA, sB, sC, i64_w, i32_w]; rfl)
              refine pure_ (i := 25) (N := some 62) (v := undef) (a' := ?_) (bA 42 67108863) rfl rfl (any_of HT_.out (by kernel_rfl)) (fun _ _ _ h => h) (Or.inr ⟨by rfl, rfl⟩) ?_ ?_; rotate_left; (focus simp only [Act.put, sA, sB, sC, i64_w, i32_w]; rfl)
              refine pure_ (i := 26) (N := some 63) (v := undef) (a' := ?_) (bA 42 134217727) rfl rfl (any_of HT_.out (by kernel_rfl)) (fun _ _ _ h => h) (Or.inr ⟨by rfl, rfl⟩) ?_ ?_; rotate_left; (focus simp only [Act.put, sA, sB, sC, i64_w, i32_w]; rfl)
              refine pure_ (i := 27) (N := some 64) (v := undef) (a' := ?_) (bA 42 268435455) rfl rfl (any_of HT_.out (by kernel_rfl)) (fun _ _ _ h => h) (Or.inr ⟨by rfl, rfl⟩) ?_ ?_; rotate_left; (focus simp only [Act.put, sA, sB, sC, i64_w, i32_w]; rfl)
              refine pure_ (i := 28) (N := some 65) (v := undef) (a' := ?_) (bA 42 536870911) rfl rfl (any_of HT_.out (by kernel_rfl)) (fun _ _ _ h => h) (Or.inr ⟨by rfl, rfl⟩) ?_ ?_; rotate_left; (focus simp only [Act.put, sA, sB, sC, i64_w, i32_w]; rfl)
              refine pure_ (i := 29) (N := some 66) (v := undef) (a' := ?_) (bA 42 1073741823) rfl rfl (any_of HT_.out (by kernel_rfl)) (fun _ _ _ h => h) (Or.inr ⟨by rfl, rfl⟩) ?_ ?_; rotate_left; (focus simp only [Act.put, sA, sB, sC, i64_w, i32_w]; rfl)
              refine pure_ (i := 30) (N := some 67) (v := undef) (a' := ?_) (bA 42 2147483647) rfl rfl (any_of HT_.out (by kernel_rfl)) (fun _ _ _ h => h) (Or.inr ⟨by rfl, rfl⟩) ?_ ?_; rotate_left; (focus simp only [Act.put, sA, sB, sC, i64_w, i32_w]; rfl)
              refine pure_ (i := 31) (N := some 68) (v := undef) (a' := ?_) (bA 42 4294967295) rfl rfl (any_of HT_.out (by kernel_rfl)) (fun _ _ _ h => h) (Or.inr ⟨by rfl, rfl⟩) ?_ ?_; rotate_left; (focus simp only [Act.put, sA, sB, sC, i64_w, i32_w]; rfl)
              refine pure_ (i := 32) (N := some 69) (v := undef) (a' := ?_) (bA 42 8589934591) rfl rfl (any_of HT_.out (by kernel_rfl)) (fun _ _ _ h => h) (Or.inr ⟨by rfl, rfl⟩) ?_ ?_; rotate_left; (focus simp only [Act.put, sA, sB, sC, i64_w, i32_w]; rfl)
              refine pure_ (i := 33) (N := some 70) (v := undef) (a' := ?_) (bA 42 17179869183) rfl rfl (any_of HT_.out (by kernel_rfl)) (fun _ _ _ h => h) (Or.inr ⟨by rfl, rfl⟩) ?_ ?_; rotate_left; (focus simp only [Act.put, sA, sB, sC, i64_w, i32_w]; rfl)
              refine pure_ (i := 34) (N := some 71) (v := undef) (a' := ?_) (bA 42 34359738367) rfl rfl (any_of HT_.out (by kernel_rfl)) (fun _ _ _ h => h) (Or.inr ⟨by rfl, rfl⟩) ?_ ?_; rotate_left; (focus simp only [Act.put, sA, sB, sC, i64_w, i32_w]; rfl)
              refine pure_ (i := 35) (N := some 72) (v := undef) (a' := ?_) (bA 42 68719476735) rfl rfl (any_of HT_.out (by kernel_rfl)) (fun _ _ _ h => h) (Or.inr ⟨by rfl, rfl⟩) ?_ ?_; rotate_left; (focus simp only [Act.put, sA, sB, sC, i64_w, i32_w]; rfl)
              refine pure_ (i := 36) (N := some 73) (v := undef) (a' := ?_) (bA 42 137438953471) rfl rfl (any_of HT_.out (by kernel_rfl)) (fun _ _ _ h => h) (Or.inr ⟨by rfl, rfl⟩) ?_ ?_; rotate_left; (focus simp only [Act.put, sA, sB, sC, i64_w, i32_w]; rfl)
              refine pure_ (i := 37) (N := some 74) (v := undef) (a' := ?_) (bA 42 274877906943) rfl rfl (any_of HT_.out (by kernel_rfl)) (fun _ _ _ h => h) (Or.inr ⟨by rfl, rfl⟩) ?_ ?_; rotate_left; (focus simp only [Act.put, sA, sB, sC, i64_w, i32_w]; rfl)
              refine pure_ (i := 38) (N := some 75) (v := undef) (a' := ?_) (bA 42 549755813887) rfl rfl (any_of HT_.out (by kernel_rfl)) (fun _ _ _ h => h) (Or.inr ⟨by rfl, rfl⟩) ?_ ?_; rotate_left; (focus simp only [Act.put, sA, sB, sC, i64_w, i32_w]; rfl)
              refine pure_ (i := 39) (N := some 76) (v := undef) (a' := ?_) (bA 42 1099511627775) rfl rfl (any_of HT_.out (by kernel_rfl)) (fun _ _ _ h => h) (Or.inr ⟨by rfl, rfl⟩) ?_ ?_; rotate_left; (focus simp only [Act.put, sA, sB, sC, i64_w, i32_w]; rfl)
              refine pure_ (i := 40) (N := some 77) (v := ?_) (a' := ?_) (bA 42 2199023255551) rfl rfl (any_of HT_.out (by kernel_rfl)) (fun _ _ _ h => h) (Or.inl ⟨by rfl, ?_⟩) ?_ ?_; rotate_left; (focus intro w'; go_simp; with_reducible rfl); rotate_left; (focus simp only [Act.put, sA, sB, sC, i64_w, i32_w]; rfl)
              refine pure_ (i := 41) (N := some 78) (v := ?_) (a' := ?_) (bA 42 4398046511103) rfl rfl (any_of HT_.out (by kernel_rfl)) (fun _ _ _ h => h) (Or.inl ⟨by rfl, ?_⟩) ?_ ?_; rotate_left; (focus intro w'; go_simp; with_reducible rfl); rotate_left; (focus simp only [Act.put, sA, sB, sC, i64_w, i32_w]; rfl)
              refine done_ (done_of HT_.out (by kernel_rfl)) ?_
              try go_wp2
              go_meet
              case rel => exact ⟨_, (false), (by first | rfl | (simp; done) | (simp [*]; done)), H', ⟨by have := HK1.out; have := HK2.out; first | omega | exact Nat.le_refl _⟩, ⟨by (with_reducible repeat (first | apply Kd.S_alloc | apply Kd.S_drewN | apply Kd.S_drew)); exact HO_3.out⟩, ⟨by (with_reducible repeat (first | apply Kd.R_alloc | apply Kd.R_drewN | apply Kd.R_drew)); exact HO_4.out⟩, ⟨by (with_reducible repeat (first | refine blk_drewN ?_ _ | refine blk_drew ?_ | refine blk_alloc ?_ _)); exact BK142.out⟩, ⟨by repeat (first | (with_reducible exact HR151_0.out) | (with_reducible refine Kd.C_alloc ?_ _) | (with_reducible refine Kd.C_drewN ?_ _) | (with_reducible refine Kd.C_drew ?_) | exact HR151_0.out)⟩, ⟨by repeat (first | (with_reducible first | exact HB.out | apply below_alloc | apply pw_below_drewN | apply below_drew1 | refine below_set ?_ GE142.out) | exact HB.out)⟩⟩
          ·rw [if_neg c24] at H
           exact absurd H (by simp)
         case rest =>
          clear HC23
          try clear c1
          try clear p1
          try clear q1
          try clear hx1
          try clear c2
          try clear p2
          try clear c3
          try clear c15
          try clear p15
          try clear q15
          try clear hx15
          try clear c24
          try clear c30
          try clear c30b0
          try clear c32
          try clear c33
          try clear hx152_0
          try clear hx153_0
          try clear hx154_0
          try clear hx155_0
          try clear p152
          try clear p153
          try clear p154
          try clear p155
          try clear q152
          try clear q153
          try clear q154
          try clear q155
          obtain ⟨kq, x78_22, rfl, HA, HJ22, HO_3, HO_4, BK142, HR151_0, HB⟩ := hcut
          cases kq with
          | zero => exact absurd HA.out (by simp [davitlaw11_CallsGroups.j2])
          | succ kj22 =>
           have H := HA.out
           clear HA
           simp only [davitlaw11_CallsGroups.j2] at H
           by_cases c38 : x78_22 = true
           ·subst c38
            have H1 : (some false) = some r := by rw [if_pos rfl] at H; exact H
            clear H
            have H := H1
            clear H1
            obtain rfl := Option.some.inj H
            go_wp2
            go_ret
            exact ⟨by first | rfl | (simp [errW_none, errW_some] <;> rfl) | (simp [*, errW_none, errW_some] <;> rfl), by repeat (first | (with_reducible first | exact HB.out | apply below_alloc | apply pw_below_drewN | apply below_drew1 | refine below_set ?_ GE142.out) | exact HB.out)⟩
           ·replace c38 := Bool.eq_false_iff.mpr c38
            subst c38
            have H1 : (if 0 ≤ x6_1 then (if x6_1 < (t145.length : Int) then (if 0 ≤ x7_2 then (if x7_2 < ((rd_L5 t145 x6_1).length : Int) then (if 0 ≤ (rd (rd_L5 t145 x6_1) x7_2) then (if (rd (rd_L5 t145 x6_1) x7_2) < (x4_2.length : Int) then (davitlaw11_CallsGroups.l1 kj22 t145 (x4_2.set ((rd (rd_L5 t145 x6_1) x7_2) : Int).toNat x6_1) (wrap64 (x5_2 + 1)) x6_1 (wrap64 (x7_2 + 1)) l0_0) else (none)) else (none)) else (none)) else (none)) else (none)) else (none)) = some r := by rw [if_neg (show ¬ (false = true) by decide)] at H; exact H
            clear H
            have H := H1
            clear H1
            by_cases c39 : 0 ≤ x6_1
            ·rw [if_pos c39] at H
             have c39b0 : decide (0 ≤ x6_1) = true := decide_eq_true c39
             clear c39
             by_cases c40 : x6_1 < (t145.length : Int)
             ·rw [if_pos c40] at H
              have c40b0 : decide (x6_1 < (t145.length : Int)) = true := decide_eq_true c40
              clear c40
              by_cases c41 : 0 ≤ x7_2
              ·rw [if_pos c41] at H
               have c41b0 : decide (0 ≤ x7_2) = true := decide_eq_true c41
               clear c41
               by_cases c42 : x7_2 < ((rd_L5 t145 x6_1).length : Int)
               ·rw [if_pos c42] at H
                have c42b0 : decide (x7_2 < ((rd_L5 t145 x6_1).length : Int)) = true := decide_eq_true c42
                clear c42
                by_cases c43 : 0 ≤ (rd (rd_L5 t145 x6_1) x7_2)
                ·rw [if_pos c43] at H
                 have c43b0 : decide (0 ≤ (rd (rd_L5 t145 x6_1) x7_2)) = true := decide_eq_true c43
                 clear c43
                 by_cases c44 : (rd (rd_L5 t145 x6_1) x7_2) < (x4_2.length : Int)
                 ·rw [if_pos c44] at H
                  have c44b0 : decide ((rd (rd_L5 t145 x6_1) x7_2) < (x4_2.length : Int)) = true := decide_eq_true c44
                  clear c44
                  obtain ⟨y162, hy162⟩ : ∃ y_ : List Int, y_ = (x4_2.set ((rd (rd_L5 t145 x6_1) x7_2) : Int).toNat x6_1) := ⟨_, rfl⟩
                  replace H : (davitlaw11_CallsGroups.l1 kj22 t145 y162 (wrap64 (x5_2 + 1)) x6_1 (wrap64 (x7_2 + 1)) l0_0) = some r := by first | (rw [hy162]; with_reducible exact H) | (have H2_ := (Option.bind_some _ _).symm.trans H; rw [hy162]; with_reducible exact H2_) | (have H2_ := (Option.bind_some _ _).symm.trans H; with_reducible exact H2_) | with_reducible exact H | (rw [hy162]; exact H) | exact H
                  have Ny162 := Aside0.mk hy162
                  clear hy162
                  have H' := Aside0.mk H
                  clear H
                  have p160 : 0 ≤ (x6_1 : Int) := of_decide_eq_true (by first | (with_reducible assumption) | assumption)
                  have q160 : x6_1 < (t145.length : Int) := of_decide_eq_true (by first | (with_reducible assumption) | assumption)
                  obtain ⟨ad160, A160_0, c160_0, e160, hx160_0, hl160_0, hi160_0⟩ := at_L5 (Kd.S_reads' HO_3.out).2.2 x6_1 p160 q160
                  obtain rfl : ad151 = ad160 := (by injection e160)
                  obtain ⟨ce160, hce160, hMe160, hcc160⟩ := Kd.S_get HO_3.out [] x6_1 p160 (by first | exact q160 | exact of_decide_eq_true (by first | (with_reducible assumption) | assumption) | (have e_ := (Kd.S_reads' HO_3.out).1; omega))
                  obtain ⟨ve160_0, rfl, ge160_0⟩ := hMe160
                  have hv160_0 := hcc160 0 _ rfl
                  rw [Nat.add_zero, show ((Kd.slice 3 (Kd.int .i64))).sz = 1 from rfl, Nat.mul_one] at hv160_0
                  replace hv160_0 := Option.some.inj (hv160_0.symm.trans hx160_0)
                  rw [hv160_0] at ge160_0
                  have HL160_0 := Aside0.mk (show Kd.R (Kd.int .i64) 3 _ _ _ _ (rd_L5 t145 x6_1) from ge160_0)
                  clear hv160_0 ge160_0
                  clear hcc160 hce160
                  have HR160_0 := Aside0.mk hi160_0
                  have HC160_0 := Aside0.mk hl160_0
                  clear hi160_0 hl160_0
                  replace p160 := eq_true p160
                  replace q160 := eq_true q160
                  have p161 : 0 ≤ (x7_2 : Int) := of_decide_eq_true (by first | (with_reducible assumption) | assumption)
                  have q161 : x7_2 < ((rd_L5 t145 x6_1).length : Int) := of_decide_eq_true (by first | (with_reducible assumption) | assumption)
                  obtain ⟨ad161, e161, hx161_0⟩ := Kd.at_int (by repeat (first | (with_reducible exact HR160_0.out) | (with_reducible refine Kd.C_alloc ?_ _) | (with_reducible refine Kd.C_drewN ?_ _) | (with_reducible refine Kd.C_drew ?_) | exact HR160_0.out)) x7_2 p161 q161
                  cases e161
                  replace p161 := eq_true p161
                  replace q161 := eq_true q161
                  have p45 : 0 ≤ ((rd (rd_L5 t145 x6_1) x7_2) : Int) := of_decide_eq_true (by first | (with_reducible assumption) | assumption)
                  have q45 : ((rd (rd_L5 t145 x6_1) x7_2) : Int) < ((x4_2.length : Int) : Int) := of_decide_eq_true (by first | (with_reducible assumption) | assumption)
                  obtain ⟨go45, co45, eo45, gb45, gl45, cl45, HG45⟩ := Kd.R_form HO_4.out (by omega)
                  (first | cases eo45 | (injection eo45 with ea_ en_ ec_; (first | subst ea_ | (injection ea_ with ea_; subst ea_)); subst ec_; clear en_))
                  have GB45 := Aside0.mk gb45
                  have GG45 := Aside0.mk HG45
                  clear gb45 gl45 HG45
                  obtain ⟨hx45_0, hf45_0⟩ := Kd.R_celln 0 HO_4.out ((rd (rd_L5 t145 x6_1) x7_2) : Int) p45 q45
                  replace p45 := eq_true p45
                  replace q45 := eq_true q45
                  have HP46 := Kd.R_putg HO_4.out ((rd (rd_L5 t145 x6_1) x7_2) : Int) x6_1
                  go_wp2_with (first | ((with_reducible refine gate_store (t := 3) (p := 88) rfl ?_); refine store_event (t := 3) (p := 88) (v := ?vo_w47) (w1 := (wc.setCell ⟨go45, ((rd (rd_L5 t145 x6_1) x7_2) : Int).toNat, none⟩ (.int .i64 x6_1))) ?hg ?ho ?hn ?hr ?_; (case ho => rfl); (case hg => rfl); (case hn => rfl); (case hr => first | (go_simp; done) | (go_simp; rfl)); intro w47 hw; have hg : wc.grownBy w47 (some go45) := (by rw [hw]; exact HP46.2); have hp_ : Kd.R (Kd.int .i64) 3 w47 w.heap.size (fun _ => True) (.slice (some ⟨go45, 0, none⟩) x4_2.length co45) y162 := (by rw [hw, Ny162.out]; exact HP46.1); clear HP46; have n0_ := Aside0.mk (Kd.S_after (v := (.slice (some ⟨go45, 0, none⟩) x4_2.length co45)) (v1 := (.slice (some ⟨go45, 0, none⟩) x4_2.length co45)) (ok := (fun _ => True)) (by (with_reducible repeat (first | apply Kd.S_alloc | apply Kd.S_drewN | apply Kd.S_drew)); exact Kd.S_mono HO_3.out (fun _ hk => ⟨trivial, hk⟩)) hg (.inl rfl)); have n1_ := Aside0.mk (hp_); have n2_ := Aside0.mk (blk_grown (g := gb142) (o := .cells #[.slice A0_0 l0_0.length c0_0] 24 (0, 0)) (by (with_reducible repeat (first | refine blk_drewN ?_ _ | refine blk_drew ?_ | refine blk_alloc ?_ _)); exact BK142.out) hg (Kd.R_ne HO_4.out BK142.out (by decide))); have n3_ := Aside0.mk (Kd.R_after (v := (.slice (some ⟨go45, 0, none⟩) x4_2.length co45)) (v1 := (.slice (some ⟨go45, 0, none⟩) x4_2.length co45)) (ok := (fun k_ => some k_ ≠ (.slice (some ad151) t145.length co19 : Value).ownBlock)) (by (with_reducible repeat (first | apply Kd.R_alloc | apply Kd.R_drewN | apply Kd.R_drew)); exact Kd.R_mono HL160_0.out (fun _ hk => ⟨hk.2, hk.1⟩)) hg (.inl rfl)); have n4_ := Aside0.mk ((by rw [hw]; exact below_set (HB.out) GB45.out : Below w.heap.size w w47)); clear HO_3; clear HO_4; clear BK142; clear HL160_0; clear HB; have HO_3 := n0_; have HO_4 := n1_; have BK142 := n2_; have HL160_0 := n3_; have HB := n4_; clear n0_ n1_ n2_ n3_ n4_; clear hg hw hp_))
                  go_roundg kj22
                  case measure => have := HK1.out; have := HK2.out; have := HJ22.out; omega
                  case rel => exact ⟨(y162), (wrap64 (x5_2 + 1)), (wrap64 (x7_2 + 1)), (by first | rfl | (simp; done) | (simp [*]; done)), (by first | rfl | (simp; done) | (simp [*]; done)), H', ⟨by have := HK1.out; have := HK2.out; have := HJ22.out; omega⟩, ⟨by (with_reducible repeat (first | apply Kd.S_alloc | apply Kd.S_drewN | apply Kd.S_drew)); exact Kd.S_mono HO_3.out (fun _ hk => hk.2)⟩, ⟨by (with_reducible repeat (first | apply Kd.R_alloc | apply Kd.R_drewN | apply Kd.R_drew)); exact HO_4.out⟩, ⟨by (with_reducible repeat (first | refine blk_drewN ?_ _ | refine blk_drew ?_ | refine blk_alloc ?_ _)); exact BK142.out⟩, ⟨by repeat (first | (with_reducible first | exact HB.out | apply below_alloc | apply pw_below_drewN | apply below_drew1 | refine below_set ?_ GE142.out) | exact HB.out)⟩⟩
                 ·rw [if_neg c44] at H
                  exact absurd H (by simp)
                ·rw [if_neg c43] at H
                 exact absurd H (by simp)
               ·rw [if_neg c42] at H
                exact absurd H (by simp)
              ·rw [if_neg c41] at H
               exact absurd H (by simp)
             ·rw [if_neg c40] at H
              exact absurd H (by simp)
            ·rw [if_neg c39] at H
             exact absurd H (by simp)
        ·rw [if_neg c22] at H
         have c22b0 : decide (x7_2 < ((rd_L5 t145 x6_1).length : Int)) = false := decide_eq_false c22
         clear c22
         have H' := Aside0.mk H
         clear H
         have p151 : 0 ≤ (x6_1 : Int) := of_decide_eq_true (by first | (with_reducible assumption) | assumption)
         have q151 : x6_1 < (t145.length : Int) := of_decide_eq_true (by first | (with_reducible assumption) | assumption)
         obtain ⟨ad151, A151_0, c151_0, e151, hx151_0, hl151_0, hi151_0⟩ := at_L5 (Kd.S_reads' HO_3.out).2.2 x6_1 p151 q151
         cases e151
         obtain ⟨ce151, hce151, hMe151, hcc151⟩ := Kd.S_get HO_3.out [] x6_1 p151 (by first | exact q151 | exact of_decide_eq_true (by first | (with_reducible assumption) | assumption) | (have e_ := (Kd.S_reads' HO_3.out).1; omega))
         obtain ⟨ve151_0, rfl, ge151_0⟩ := hMe151
         have hv151_0 := hcc151 0 _ rfl
         rw [Nat.add_zero, show ((Kd.slice 3 (Kd.int .i64))).sz = 1 from rfl, Nat.mul_one] at hv151_0
         replace hv151_0 := Option.some.inj (hv151_0.symm.trans hx151_0)
         rw [hv151_0] at ge151_0
         have HL151_0 := Aside0.mk (show Kd.R (Kd.int .i64) 3 _ _ _ _ (rd_L5 t145 x6_1) from ge151_0)
         clear hv151_0 ge151_0
         clear hcc151 hce151
         have HR151_0 := Aside0.mk hi151_0
         have HC151_0 := Aside0.mk hl151_0
         clear hi151_0 hl151_0
         replace p151 := eq_true p151
         replace q151 := eq_true q151
         go_wp2
         go_roundg k2
         case measure => have := HK1.out; have := HK2.out; omega
         case rel => exact ⟨(x4_2), (x5_2), (wrap64 (x6_1 + 1)), (by first | rfl | (simp; done) | (simp [*]; done)), (by first | rfl | (simp; done) | (simp [*]; done)), H', ⟨by have := HK1.out; have := HK2.out; omega⟩, ⟨by (with_reducible repeat (first | apply Kd.S_alloc | apply Kd.S_drewN | apply Kd.S_drew)); exact HO_3.out⟩, ⟨by (with_reducible repeat (first | apply Kd.R_alloc | apply Kd.R_drewN | apply Kd.R_drew)); exact HO_4.out⟩, ⟨by (with_reducible repeat (first | refine blk_drewN ?_ _ | refine blk_drew ?_ | refine blk_alloc ?_ _)); exact BK142.out⟩, ⟨by repeat (first | (with_reducible first | exact HB.out | apply below_alloc | apply pw_below_drewN | apply below_drew1 | refine below_set ?_ GE142.out) | exact HB.out)⟩⟩
       ·rw [if_neg c21] at H
        exact absurd H (by simp)
      ·rw [if_neg c20] at H
       exact absurd H (by simp)
   ·rw [if_neg c18] at H
    have c18b0 : decide (x6_1 < (t145.length : Int)) = false := decide_eq_false c18
    clear c18
    by_cases c48 : x5_1 = (x4_1.length : Int)
    ·rw [if_pos c48] at H
     have c48b0 : (x5_1 == (x4_1.length : Int)) = true := beq_iff_eq.mpr c48
     have c48b1 : (x5_1 != (x4_1.length : Int)) = false := bne_eq_false_iff_eq.mpr c48
     clear c48
     have H' := Aside0.mk H
     clear H
     obtain ⟨Ao49, co49, eo49⟩ := Kd.S_slice HO_3.out
     subst eo49
     obtain ⟨Ao50, co50, eo50⟩ := Kd.R_slice HO_4.out
     subst eo50
     go_wp2
     go_loopg [8] k1 (fun kq v8 w' => ∃ (x8_2 : Int), v8 = .int .i64 x8_2 ∧ Aside0 (davitlaw11_CallsGroups.l2 kq x4_1 x8_2 l0_0 = some r) ∧ Aside0 (kq ≤ k1) ∧ Aside0 (Kd.R (Kd.int .i64) 3 w' w.heap.size (fun _ => True) (.slice Ao50 x4_1.length co50) x4_1) ∧ Aside0 (w'.heap[gb142]? = some (.cells #[(.slice A0_0 l0_0.length c0_0)] 24 (0, 0))) ∧ Aside0 (Below w.heap.size w w'))
     case atStart => exact ⟨(0), (by first | rfl | (simp; done) | (simp [*]; done)), H', ⟨Nat.le_refl _⟩, ⟨by (with_reducible repeat (first | apply Kd.R_alloc | apply Kd.R_drewN | apply Kd.R_drew)); exact HO_4.out⟩, ⟨by (with_reducible repeat (first | refine blk_drewN ?_ _ | refine blk_drew ?_ | refine blk_alloc ?_ _)); exact BK142.out⟩, ⟨by repeat (first | (with_reducible first | exact HB.out | apply below_alloc | apply pw_below_drewN | apply below_drew1 | refine below_set ?_ GE142.out) | exact HB.out)⟩⟩
     case round =>
      clear H'
      try clear c1
      try clear p1
      try clear q1
      try clear hx1
      try clear c2
      try clear p2
      try clear c3
      try clear c4
      try clear p4
      try clear q4
      try clear hx4
      try clear hf4
      try clear p6
      try clear c15
      try clear p15
      try clear q15
      try clear hx15
      try clear c16
      try clear p16
      try clear q16
      try clear hx16
      try clear c18
      try clear c18b0
      try clear c20
      try clear c21
      try clear c22
      try clear c22b0
      try clear c24
      try clear c30
      try clear c30b0
      try clear c32
      try clear c33
      try clear c38
      try clear c39
      try clear c39b0
      try clear c40
      try clear c40b0
      try clear c41
      try clear c41b0
      try clear c42
      try clear c42b0
      try clear c43
      try clear c43b0
      try clear c44
      try clear c44b0
      try clear p45
      try clear q45
      try clear hx45
      try clear hf45
      try clear c48
      try clear c48b0
      try clear c48b1
      try clear hx151_0
      try clear hx152_0
      try clear hx153_0
      try clear hx154_0
      try clear hx155_0
      try clear hx160_0
      try clear hx161_0
      try clear hx45_0
      try clear p1
      try clear p15
      try clear p151
      try clear p152
      try clear p153
      try clear p154
      try clear p155
      try clear p160
      try clear p161
      try clear p2
      try clear p45
      try clear q1
      try clear q15
      try clear q151
      try clear q152
      try clear q153
      try clear q154
      try clear q155
      try clear q160
      try clear q161
      try clear q45
      obtain ⟨x8_2, rfl, HA, HK2, HO_4, BK142, HB⟩ := hrel
      cases gk with
      | zero => exact absurd HA.out (by simp [davitlaw11_CallsGroups.l2])
      | succ k2 =>
       have H := HA.out
       clear HA
       simp only [davitlaw11_CallsGroups.l2] at H
       by_cases c51 : x8_2 < (x4_1.length : Int)
       ·rw [if_pos c51] at H
        have c51b0 : decide (x8_2 < (x4_1.length : Int)) = true := decide_eq_true c51
        clear c51
        have H' := Aside0.mk H
        clear H
        go_wp2
        go_loopg [9] k2 (fun kq v9 w' => ∃ (x9_3 : Int), v9 = .int .i64 x9_3 ∧ Aside0 (davitlaw11_CallsGroups.l3 kq x4_1 x8_2 x9_3 l0_0 = some r) ∧ Aside0 (kq ≤ k2) ∧ Aside0 (Kd.R (Kd.int .i64) 3 w' w.heap.size (fun _ => True) (.slice Ao50 x4_1.length co50) x4_1) ∧ Aside0 (w'.heap[gb142]? = some (.cells #[(.slice A0_0 l0_0.length c0_0)] 24 (0, 0))) ∧ Aside0 (Below w.heap.size w w'))
        case atStart => exact ⟨(0), (by first | rfl | (simp; done) | (simp [*]; done)), H', ⟨Nat.le_refl _⟩, ⟨by (with_reducible repeat (first | apply Kd.R_alloc | apply Kd.R_drewN | apply Kd.R_drew)); exact HO_4.out⟩, ⟨by (with_reducible repeat (first | refine blk_drewN ?_ _ | refine blk_drew ?_ | refine blk_alloc ?_ _)); exact BK142.out⟩, ⟨by repeat (first | (with_reducible first | exact HB.out | apply below_alloc | apply pw_below_drewN | apply below_drew1 | refine below_set ?_ GE142.out) | exact HB.out)⟩⟩
        case round =>
         clear H'
         try clear c1
         try clear p1
         try clear q1
         try clear hx1
         try clear c2
         try clear p2
         try clear c3
         try clear c4
         try clear p4
         try clear q4
         try clear hx4
         try clear hf4
         try clear c5
         try clear p6
         try clear c15
         try clear p15
         try clear q15
         try clear hx15
         try clear c16
         try clear p16
         try clear q16
         try clear hx16
         try clear c18
         try clear c18b0
         try clear c20
         try clear c21
         try clear c22
         try clear c22b0
         try clear c24
         try clear c30
         try clear c30b0
         try clear c32
         try clear c33
         try clear c38
         try clear c39
         try clear c39b0
         try clear c40
         try clear c40b0
         try clear c41
         try clear c41b0
         try clear c42
         try clear c42b0
         try clear c43
         try clear c43b0
         try clear c44
         try clear c44b0
         try clear p45
         try clear q45
         try clear hx45
         try clear hf45
         try clear c48
         try clear c48b0
         try clear c48b1
         try clear c51
         try clear c51b0
         try clear hx151_0
         try clear hx152_0
         try clear hx153_0
         try clear hx154_0
         try clear hx155_0
         try clear hx160_0
         try clear hx161_0
         try clear hx45_0
         try clear p1
         try clear p15
         try clear p151
         try clear p152
         try clear p153
         try clear p154
         try clear p155
         try clear p16
         try clear p160
         try clear p161
         try clear p2
         try clear p4
         try clear p45
         try clear p6
         try clear q1
         try clear q15
         try clear q151
         try clear q152
         try clear q153
         try clear q154
         try clear q155
         try clear q16
         try clear q160
         try clear q161
         try clear q4
         try clear q45
         obtain ⟨x9_3, rfl, HA, HK3, HO_4, BK142, HB⟩ := hrel
         cases gk with
         | zero => exact absurd HA.out (by simp [davitlaw11_CallsGroups.l3])
         | succ k3 =>
          have H := HA.out
          clear HA
          simp only [davitlaw11_CallsGroups.l3] at H
          by_cases c52 : x9_3 < (x4_1.length : Int)
          ·rw [if_pos c52] at H
           have c52b0 : decide (x9_3 < (x4_1.length : Int)) = true := decide_eq_true c52
           clear c52
           have HC53 := Aside0.mk H
           clear H
           go_upto_region 26 with (fail)
           go_cut [10] (fun v10 wc => ∃ (kq : Nat) (x10_52 : Bool), v10 = .bool x10_52 ∧ Aside0 (davitlaw11_CallsGroups.j5 kq x4_1 x8_2 x9_3 x10_52 l0_0 = some r) ∧ Aside0 (kq ≤ k3) ∧ Aside0 (Kd.R (Kd.int .i64) 3 wc w.heap.size (fun _ => True) (.slice Ao50 x4_1.length co50) x4_1) ∧ Aside0 (wc.heap[gb142]? = some (.cells #[(.slice A0_0 l0_0.length c0_0)] 24 (0, 0))) ∧ Aside0 (Below w.heap.size w wc))
           case first =>
            have H := HC53.out
            clear HC53
            by_cases c54 : x8_2 = x9_3
            ·rw [if_pos c54] at H
             have c54b0 : (x8_2 == x9_3) = true := beq_iff_eq.mpr c54
             have c54b1 : (x8_2 != x9_3) = false := bne_eq_false_iff_eq.mpr c54
             clear c54
             (first | rw [c54b0] | (simp only [i64_w, i32_w]; rw [c54b0]) | skip)
             have H' := Aside0.mk H
             clear H
             go_wp2
             go_meet
             case rel => exact ⟨_, (true), (by first | rfl | (simp; done) | (simp [*]; done)), H', ⟨by have := HK1.out; have := HK2.out; have := HK3.out; first | omega | exact Nat.le_refl _⟩, ⟨by (with_reducible repeat (first | apply Kd.R_alloc | apply Kd.R_drewN | apply Kd.R_drew)); exact HO_4.out⟩, ⟨by (with_reducible repeat (first | refine blk_drewN ?_ _ | refine blk_drew ?_ | refine blk_alloc ?_ _)); exact BK142.out⟩, ⟨by repeat (first | (with_reducible first | exact HB.out | apply below_alloc | apply pw_below_drewN | apply below_drew1 | refine below_set ?_ GE142.out) | exact HB.out)⟩⟩
            ·rw [if_neg c54] at H
             have c54b0 : (x8_2 == x9_3) = false := beq_eq_false_iff_ne.mpr c54
             have c54b1 : (x8_2 != x9_3) = true := bne_iff_ne.mpr c54
             (first | rw [c54b0] | (simp only [i64_w, i32_w]; rw [c54b0]) | skip)
             replace H := Option.bind_eq_some_iff.mp H
             obtain ⟨t163, A550, H⟩ := H
             replace H : (if t163 = true then ((calls_Comes.f k3 l0_0 x9_3 x8_2).bind fun t164 => (davitlaw11_CallsGroups.j5 k3 x4_1 x8_2 x9_3 t164 l0_0)) else (davitlaw11_CallsGroups.j5 k3 x4_1 x8_2 x9_3 false l0_0)) = some r := H
             have A55 := Aside0.mk A550
             clear A550
             by_cases c56 : t163 = true
             ·subst c56
              have H1 : ((calls_Comes.f k3 l0_0 x9_3 x8_2).bind fun t164 => (davitlaw11_CallsGroups.j5 k3 x4_1 x8_2 x9_3 t164 l0_0)) = some r := by rw [if_pos rfl] at H; exact H
              clear H
              have H := H1
              clear H1
              replace H := Option.bind_eq_some_iff.mp H
              obtain ⟨t164, A570, H⟩ := H
              replace H : (davitlaw11_CallsGroups.j5 k3 x4_1 x8_2 x9_3 t164 l0_0) = some r := H
              have A57 := Aside0.mk A570
              clear A570
              have H' := Aside0.mk H
              clear H
              have hcz58_0 : wr.cell? ⟨gb142, 0, none⟩ = some (.slice A0_0 l0_0.length c0_0) := (blk_cell BK142.out 0).trans rfl
              have hfz58_0 := blk_frozen BK142.out 0
              go_wp2_with (first | (go_at_call 9; (with_reducible refine (calls_Comes.calls k3 _ _ l0_0 x8_2 x9_3 true _ ?side1 ?side2 A55.out).mono ?_); (case side1 => repeat (first | exact (Kd.C_below HR0_0.out HB.out) | (with_reducible refine Kd.C_alloc ?_ _) | (with_reducible refine Kd.C_drewN ?_ _) | (with_reducible refine Kd.C_drew ?_))); (case side2 => exact HC0_0.out); rintro e w59 ⟨rfl, hb⟩; have n0_ := Aside0.mk (Kd.R_below (by (with_reducible repeat (first | apply Kd.R_alloc | apply Kd.R_drewN | apply Kd.R_drew)); exact HO_4.out) hb); have n1_ := Aside0.mk (blk_below (g := gb142) (o := .cells #[.slice A0_0 l0_0.length c0_0] 24 (0, 0)) (by (with_reducible repeat (first | refine blk_drewN ?_ _ | refine blk_drew ?_ | refine blk_alloc ?_ _)); exact BK142.out) hb); have n2_ := Aside0.mk (below_step (by repeat (first | (with_reducible first | exact HB.out | apply below_alloc | apply pw_below_drewN | apply below_drew1 | refine below_set ?_ GE142.out) | exact HB.out)) hb); clear HO_4; clear BK142; clear HB; have HO_4 := n0_; have BK142 := n1_; have HB := n2_; clear n0_ n1_ n2_; (try clear hb); (try clear hb2); (try clear hk); (try clear hi); have hcz60_0 : w59.cell? ⟨gb142, 0, none⟩ = some (.slice A0_0 l0_0.length c0_0) := (blk_cell BK142.out 0).trans rfl; have hfz60_0 := blk_frozen BK142.out 0) | (go_at_call 9; (with_reducible refine (calls_Comes.calls k3 _ _ l0_0 x9_3 x8_2 t164 _ ?side1 ?side2 A57.out).mono ?_); (case side1 => repeat (first | exact (Kd.C_below HR0_0.out HB.out) | (with_reducible refine Kd.C_alloc ?_ _) | (with_reducible refine Kd.C_drewN ?_ _) | (with_reducible refine Kd.C_drew ?_))); (case side2 => exact HC0_0.out); rintro e w61 ⟨rfl, hb⟩; have n0_ := Aside0.mk (Kd.R_below (by (with_reducible repeat (first | apply Kd.R_alloc | apply Kd.R_drewN | apply Kd.R_drew)); exact HO_4.out) hb); have n1_ := Aside0.mk (blk_below (g := gb142) (o := .cells #[.slice A0_0 l0_0.length c0_0] 24 (0, 0)) (by (with_reducible repeat (first | refine blk_drewN ?_ _ | refine blk_drew ?_ | refine blk_alloc ?_ _)); exact BK142.out) hb); have n2_ := Aside0.mk (below_step (by repeat (first | (with_reducible first | exact HB.out | apply below_alloc | apply pw_below_drewN | apply below_drew1 | refine below_set ?_ GE142.out) | exact HB.out)) hb); clear HO_4; clear BK142; clear HB; have HO_4 := n0_; have BK142 := n1_; have HB := n2_; clear n0_ n1_ n2_; (try clear hb); (try clear hb2); (try clear hk); (try clear hi)))
              go_meet
              case rel => exact ⟨_, (t164), (by first | rfl | (simp; done) | (simp [*]; done)), H', ⟨by have := HK1.out; have := HK2.out; have := HK3.out; first | omega | exact Nat.le_refl _⟩, ⟨by (with_reducible repeat (first | apply Kd.R_alloc | apply Kd.R_drewN | apply Kd.R_drew)); exact HO_4.out⟩, ⟨by (with_reducible repeat (first | refine blk_drewN ?_ _ | refine blk_drew ?_ | refine blk_alloc ?_ _)); exact BK142.out⟩, ⟨by repeat (first | (with_reducible first | exact HB.out | apply below_alloc | apply pw_below_drewN | apply below_drew1 | refine below_set ?_ GE142.out) | exact HB.out)⟩⟩
             ·replace c56 := Bool.eq_false_iff.mpr c56
              subst c56
              have H1 : (davitlaw11_CallsGroups.j5 k3 x4_1 x8_2 x9_3 false l0_0) = some r := by rw [if_neg (show ¬ (false = true) by decide)] at H; exact H
              clear H
              have H := H1
              clear H1
              have H' := Aside0.mk H
              clear H
              have hcz62_0 : wr.cell? ⟨gb142, 0, none⟩ = some (.slice A0_0 l0_0.length c0_0) := (blk_cell BK142.out 0).trans rfl
              have hfz62_0 := blk_frozen BK142.out 0
              go_wp2_with (first | (go_at_call 9; (with_reducible refine (calls_Comes.calls k3 _ _ l0_0 x8_2 x9_3 false _ ?side1 ?side2 A55.out).mono ?_); (case side1 => repeat (first | exact (Kd.C_below HR0_0.out HB.out) | (with_reducible refine Kd.C_alloc ?_ _) | (with_reducible refine Kd.C_drewN ?_ _) | (with_reducible refine Kd.C_drew ?_))); (case side2 => exact HC0_0.out); rintro e w63 ⟨rfl, hb⟩; have n0_ := Aside0.mk (Kd.R_below (by (with_reducible repeat (first | apply Kd.R_alloc | apply Kd.R_drewN | apply Kd.R_drew)); exact HO_4.out) hb); have n1_ := Aside0.mk (blk_below (g := gb142) (o := .cells #[.slice A0_0 l0_0.length c0_0] 24 (0, 0)) (by (with_reducible repeat (first | refine blk_drewN ?_ _ | refine blk_drew ?_ | refine blk_alloc ?_ _)); exact BK142.out) hb); have n2_ := Aside0.mk (below_step (by repeat (first | (with_reducible first | exact HB.out | apply below_alloc | apply pw_below_drewN | apply below_drew1 | refine below_set ?_ GE142.out) | exact HB.out)) hb); clear HO_4; clear BK142; clear HB; have HO_4 := n0_; have BK142 := n1_; have HB := n2_; clear n0_ n1_ n2_; (try clear hb); (try clear hb2); (try clear hk); (try clear hi)))
              go_meet
              case rel => exact ⟨_, (false), (by first | rfl | (simp; done) | (simp [*]; done)), H', ⟨by have := HK1.out; have := HK2.out; have := HK3.out; first | omega | exact Nat.le_refl _⟩, ⟨by (with_reducible repeat (first | apply Kd.R_alloc | apply Kd.R_drewN | apply Kd.R_drew)); exact HO_4.out⟩, ⟨by (with_reducible repeat (first | refine blk_drewN ?_ _ | refine blk_drew ?_ | refine blk_alloc ?_ _)); exact BK142.out⟩, ⟨by repeat (first | (with_reducible first | exact HB.out | apply below_alloc | apply pw_below_drewN | apply below_drew1 | refine below_set ?_ GE142.out) | exact HB.out)⟩⟩
           case rest =>
            clear HC53
            try clear c1
            try clear p1
            try clear q1
            try clear hx1
            try clear c2
            try clear p2
            try clear c3
            try clear c4
            try clear p4
            try clear q4
            try clear hx4
            try clear hf4
            try clear c5
            try clear p6
            try clear c15
            try clear p15
            try clear q15
            try clear hx15
            try clear c16
            try clear p16
            try clear q16
            try clear hx16
            try clear c18
            try clear c18b0
            try clear c20
            try clear c21
            try clear c22
            try clear c22b0
            try clear c24
            try clear c30
            try clear c30b0
            try clear c32
            try clear c33
            try clear c38
            try clear c39
            try clear c39b0
            try clear c40
            try clear c40b0
            try clear c41
            try clear c41b0
            try clear c42
            try clear c42b0
            try clear c43
            try clear c43b0
            try clear c44
            try clear c44b0
            try clear p45
            try clear q45
            try clear hx45
            try clear hf45
            try clear c48
            try clear c48b0
            try clear c48b1
            try clear c51
            try clear c51b0
            try clear c52
            try clear c52b0
            try clear c54
            try clear c54b0
            try clear c54b1
            try clear c56
            try clear hcz58_0
            try clear hcz60_0
            try clear hcz62_0
            try clear hfz58_0
            try clear hfz60_0
            try clear hfz62_0
            try clear hx151_0
            try clear hx152_0
            try clear hx153_0
            try clear hx154_0
            try clear hx155_0
            try clear hx160_0
            try clear hx161_0
            try clear hx45_0
            try clear p1
            try clear p15
            try clear p151
            try clear p152
            try clear p153
            try clear p154
            try clear p155
            try clear p16
            try clear p160
            try clear p161
            try clear p2
            try clear p4
            try clear p45
            try clear p6
            try clear q1
            try clear q15
            try clear q151
            try clear q152
            try clear q153
            try clear q154
            try clear q155
            try clear q16
            try clear q160
            try clear q161
            try clear q4
            try clear q45
            obtain ⟨kq, x10_52, rfl, HA, HJ52, HO_4, BK142, HB⟩ := hcut
            cases kq with
            | zero => exact absurd HA.out (by simp [davitlaw11_CallsGroups.j5])
            | succ kj52 =>
             have H := HA.out
             clear HA
             simp only [davitlaw11_CallsGroups.j5] at H
             have HC64 := Aside0.mk H
             clear H
             go_upto_region 27 with (fail)
             go_cut [149] (fun v149 wc => ∃ (kq : Nat) (x149_63 : Bool), v149 = .bool x149_63 ∧ Aside0 (davitlaw11_CallsGroups.j6 kq x4_1 x8_2 x9_3 x149_63 l0_0 = some r) ∧ Aside0 (kq ≤ kj52) ∧ Aside0 (Kd.R (Kd.int .i64) 3 wc w.heap.size (fun _ => True) (.slice Ao50 x4_1.length co50) x4_1) ∧ Aside0 (wc.heap[gb142]? = some (.cells #[(.slice A0_0 l0_0.length c0_0)] 24 (0, 0))) ∧ Aside0 (Below w.heap.size w wc))
             case first =>
              have H := HC64.out
              clear HC64
              by_cases c65 : 0 ≤ x8_2
              ·rw [if_pos c65] at H
               have c65b0 : decide (0 ≤ x8_2) = true := decide_eq_true c65
               clear c65
               (first | rw [c65b0] | (simp only [i64_w, i32_w]; rw [c65b0]) | skip)
               by_cases c66 : x8_2 < (x4_1.length : Int)
               ·rw [if_pos c66] at H
                have c66b0 : decide (x8_2 < (x4_1.length : Int)) = true := decide_eq_true c66
                clear c66
                by_cases c67 : 0 ≤ x9_3
                ·rw [if_pos c67] at H
                 have c67b0 : decide (0 ≤ x9_3) = true := decide_eq_true c67
                 clear c67
                 by_cases c68 : x9_3 < (x4_1.length : Int)
                 ·rw [if_pos c68] at H
                  have c68b0 : decide (x9_3 < (x4_1.length : Int)) = true := decide_eq_true c68
                  clear c68
                  by_cases c69 : (x10_52 != ((rd x4_1 x8_2) == (rd x4_1 x9_3))) = true
                  ·rw [if_pos c69] at H
                   have c69b0 : (x10_52 != ((rd x4_1 x8_2) == (rd x4_1 x9_3))) = true := c69
                   (try (have c69b1 : decide (x10_52 = ((rd x4_1 x8_2) == (rd x4_1 x9_3))) = false := by simpa using c69))
                   (try (have c69b2 : (x10_52 == ((rd x4_1 x8_2) == (rd x4_1 x9_3))) = false := by simpa using c69))
                   (try (have c69b3 : ¬ (x10_52 = ((rd x4_1 x8_2) == (rd x4_1 x9_3))) := by simpa using c69))
                   clear c69
                   have H' := Aside0.mk H
                   clear H
                   try go_wp2
                   have n0_ := Aside0.mk (Kd.R_drew HO_4.out)
                   have n1_ := Aside0.mk (blk_drew BK142.out)
                   have n2_ := Aside0.mk (below_drew1 HB.out)
                   clear HO_4
                   clear BK142
                   clear HB
                   have HO_4 := n0_
                   have BK142 := n1_
                   have HB := n2_
                   clear n0_ n1_ n2_
                   have p165 : 0 ≤ (x8_2 : Int) := of_decide_eq_true (by first | (with_reducible assumption) | assumption)
                   have q165 : x8_2 < (x4_1.length : Int) := of_decide_eq_true (by first | (with_reducible assumption) | assumption)
                   obtain ⟨ad165, e165, hx165_0⟩ := Kd.at_int (Kd.R_reads' HO_4.out).2.2 x8_2 p165 q165
                   cases e165
                   replace p165 := eq_true p165
                   replace q165 := eq_true q165
                   have p166 : 0 ≤ (x9_3 : Int) := of_decide_eq_true (by first | (with_reducible assumption) | assumption)
                   have q166 : x9_3 < (x4_1.length : Int) := of_decide_eq_true (by first | (with_reducible assumption) | assumption)
                   obtain ⟨ad166, e166, hx166_0⟩ := Kd.at_int (Kd.R_reads' HO_4.out).2.2 x9_3 p166 q166
                   obtain rfl : ad165 = ad166 := (by injection e166)
                   replace p166 := eq_true p166
                   replace q166 := eq_true q166
                   refine start_ (n := 28) (S := fun w' => w'.cell? (ad165.add (x8_2).toNat) = some (.int .i64 (rd x4_1 x8_2)) ∧ w'.cell? (ad165.add (x9_3).toNat) = some (.int .i64 (rd x4_1 x9_3))) (ds := []) (bA 28 0) (by kernel_rfl) rfl rfl ⟨hx165_0, hx166_0⟩ (fun hHeld => ?_); refine with_tabW davitlaw11_CallsGroups.tab27 davitlaw11_CallsGroups.bits27 (fun HT_ HW_ => ?_)
                   generalize wc.drew = w70 at HO_4 BK142 HB hx165_0 hx166_0 hHeld ⊢
                   refine pure_ (i := 0) (N := some 122) (v := ?_) (a' := ?_) (bA 28 1) rfl rfl (any_of HT_.out (by kernel_rfl)) (fun _ _ _ h => h) (Or.inl ⟨by rfl, ?_⟩) ?_ ?_; rotate_left; (focus intro w'; go_simp; with_reducible rfl); rotate_left; (focus simp only [Act.put, sA, sB, sC, i64_w, i32_w]; rfl)
                   refine pure_ (i := 1) (N := some 123) (v := ?_) (a' := ?_) (bA 28 3) rfl rfl (any_of HT_.out (by kernel_rfl)) (fun _ _ _ h => h) (Or.inl ⟨by rfl, ?_⟩) ?_ ?_; rotate_left; (focus intro w'; go_simp; with_reducible rfl); rotate_left; (focus simp only [Act.put, sA, sB, sC, i64_w, i32_w]; rfl)
                   refine pure_ (i := 2) (N := some 124) (v := ?_) (a' := ?_) (bA 28 7) rfl rfl (any_of HT_.out (by kernel_rfl)) (fun _ _ _ h => h) (Or.inl ⟨by rfl, ?_⟩) ?_ ?_; rotate_left; (focus intro w'; go_simp; with_reducible rfl); rotate_left; (focus simp only [Act.put, sA, sB, sC, i64_w, i32_w]; rfl)
                   refine pure_ (i := 3) (N := some 125) (v := ?_) (a' := ?_) (bA 28 15) rfl rfl (any_of HT_.out (by kernel_rfl)) (fun _ _ _ h => h) (Or.inl ⟨by rfl, ?_⟩) ?_ ?_; rotate_left; (focus intro w'; go_simp; with_reducible rfl); rotate_left; (focus simp only [Act.put, sA, sB, sC, i64_w, i32_w]; rfl)
                   refine pure_ (i := 5) (N := some 127) (v := ?_) (a' := ?_) (bA 28 47) rfl rfl (any_of HT_.out (by kernel_rfl)) (fun _ _ _ h => h) (Or.inl ⟨by rfl, ?_⟩) ?_ ?_; rotate_left; (focus intro w'; go_simp; with_reducible rfl); rotate_left; (focus simp only [Act.put, sA, sB, sC, i64_w, i32_w]; rfl)
                   refine pure_ (i := 6) (N := some 128) (v := ?_) (a' := ?_) (bA 28 111) rfl rfl (any_of HT_.out (by kernel_rfl)) (fun _ _ _ h => h) (Or.inl ⟨by rfl, ?_⟩) ?_ ?_; rotate_left; (focus intro w'; go_simp; with_reducible rfl); rotate_left; (focus simp only [Act.put, sA, sB, sC, i64_w, i32_w]; rfl)
                   refine pure_ (i := 7) (N := some 129) (v := ?_) (a' := ?_) (bA 28 239) rfl rfl (any_of HT_.out (by kernel_rfl)) (fun _ _ _ h => h) (Or.inl ⟨by rfl, ?_⟩) ?_ ?_; rotate_left; (focus intro w'; go_simp; with_reducible rfl); rotate_left; (focus simp only [Act.put, sA, sB, sC, i64_w, i32_w]; rfl)
                   refine take_ (i := 4) (N := some 126) (v := ?_) (a' := ?_) (bA 28 255) rfl rfl (take_ofW HT_.out HW_.out (by kernel_rfl)) (fun _ _ _ h => h) (Or.inl ⟨by rfl, ?_⟩) hHeld ?_ ?_; rotate_left; (focus rintro w' ⟨s0, s1⟩; go_simp; with_reducible rfl); rotate_left; (focus simp only [Act.put, sA, sB, sC, i64_w, i32_w]; rfl)
                   refine take_ (i := 8) (N := some 130) (v := ?_) (a' := ?_) (bA 28 511) rfl rfl (take_ofW HT_.out HW_.out (by kernel_rfl)) (fun _ _ _ h => h) (Or.inl ⟨by rfl, ?_⟩) hHeld ?_ ?_; rotate_left; (focus rintro w' ⟨s0, s1⟩; go_simp; with_reducible rfl); rotate_left; (focus simp only [Act.put, sA, sB, sC, i64_w, i32_w]; rfl)
                   refine pure_ (i := 9) (N := some 131) (v := ?_) (a' := ?_) (bA 28 1023) rfl rfl (any_of HT_.out (by kernel_rfl)) (fun _ _ _ h => h) (Or.inl ⟨by rfl, ?_⟩) ?_ ?_; rotate_left; (focus intro w'; go_simp; with_reducible rfl); rotate_left; (focus simp only [Act.put, sA, sB, sC, i64_w, i32_w]; rfl)
                   refine pure_ (i := 10) (N := some 132) (v := ?_) (a' := ?_) (bA 28 2047) rfl rfl (any_of HT_.out (by kernel_rfl)) (fun _ _ _ h => h) (Or.inl ⟨by rfl, ?_⟩) ?_ ?_; rotate_left; (focus intro w'; go_simp; with_reducible rfl); rotate_left; (focus simp only [Act.put, sA, sB, sC, i64_w, i32_w]; rfl)
                   refine pure_ (i := 11) (N := some 133) (v := ?_) (a' := ?_) (bA 28 4095) rfl rfl (any_of HT_.out (by kernel_rfl)) (fun _ _ _ h => h) (Or.inl ⟨by rfl, ?_⟩) ?_ ?_; rotate_left; (focus intro w'; go_simp; with_reducible rfl); rotate_left; (focus simp only [Act.put, sA, sB, sC, i64_w, i32_w]; rfl)
                   refine pure_ (i := 12) (N := some 134) (v := undef) (a' := ?_) (bA 28 8191) rfl rfl (any_of HT_.out (by kernel_rfl)) (fun _ _ _ h => h) (Or.inr ⟨by rfl, rfl⟩) ?_ ?_; rotate_left; (focus simp only [Act.put, sA, sB, sC, i64_w, i32_w]; rfl)
                   refine pure_ (i := 13) (N := some 135) (v := undef) (a' := ?_) (bA 28 16383) rfl rfl (any_of HT_.out (by kernel_rfl)) (fun _ _ _ h => h) (Or.inr ⟨by rfl, rfl⟩) ?_ ?_; rotate_left; (focus simp only [Act.put, sA, sB, sC, i64_w, i32_w]; rfl)
                   refine pure_ (i := 14) (N := some 136) (v := undef) (a' := ?_) (bA 28 32767) rfl rfl (any_of HT_.out (by kernel_rfl)) (fun _ _ _ h => h) (Or.inr ⟨by rfl, rfl⟩) ?_ ?_; rotate_left; (focus simp only [Act.put, sA, sB, sC, i64_w, i32_w]; rfl)
                   refine pure_ (i := 15) (N := some 137) (v := undef) (a' := ?_) (bA 28 65535) rfl rfl (any_of HT_.out (by kernel_rfl)) (fun _ _ _ h => h) (Or.inr ⟨by rfl, rfl⟩) ?_ ?_; rotate_left; (focus simp only [Act.put, sA, sB, sC, i64_w, i32_w]; rfl)
                   refine pure_ (i := 16) (N := some 138) (v := undef) (a' := ?_) (bA 28 131071) rfl rfl (any_of HT_.out (by kernel_rfl)) (fun _ _ _ h => h) (Or.inr ⟨by rfl, rfl⟩) ?_ ?_; rotate_left; (focus simp only [Act.put, sA, sB, sC, i64_w, i32_w]; rfl)
                   refine pure_ (i := 17) (N := some 139) (v := undef) (a' := ?_) (bA 28 262143) rfl rfl (any_of HT_.out (by kernel_rfl)) (fun _ _ _ h => h) (Or.inr ⟨by rfl, rfl⟩) ?_ ?_; rotate_left; (focus simp only [Act.put, sA, sB, sC, i64_w, i32_w]; rfl)
                   refine pure_ (i := 18) (N := some 140) (v := undef) (a' := ?_) (bA 28 524287) rfl rfl (any_of HT_.out (by kernel_rfl)) (fun _ _ _ h => h) (Or.inr ⟨by rfl, rfl⟩) ?_ ?_; rotate_left; (focus simp only [Act.put, sA, sB, sC, i64_w, i32_w]; rfl)
                   refine pure_ (i := 19) (N := some 141) (v := undef) (a' := ?_) (bA 28 1048575) rfl rfl (any_of HT_.out (by kernel_rfl)) (fun _ _ _ h => h) (Or.inr ⟨by rfl, rfl⟩) ?_ ?_; rotate_left; (focus simp only [Act.put, sA, sB, sC, i64_w, i32_w]; rfl)
                   refine pure_ (i := 20) (N := some 142) (v := undef) (a' := ?_) (bA 28 2097151) rfl rfl (any_of HT_.out (by kernel_rfl)) (fun _ _ _ h => h) (Or.inr ⟨by rfl, rfl⟩) ?_ ?_; rotate_left; (focus simp only [Act.put, sA, sB, sC, i64_w, i32_w]; rfl)
                   refine pure_ (i := 21) (N := some 143) (v := undef) (a' := ?_) (bA 28 4194303) rfl rfl (any_of HT_.out (by kernel_rfl)) (fun _ _ _ h => h) (Or.inr ⟨by rfl, rfl⟩) ?_ ?_; rotate_left; (focus simp only [Act.put, sA, sB, sC, i64_w, i32_w]; rfl)
                   refine pure_ (i := 22) (N := some 144) (v := undef) (a' := ?_) (bA 28 8388607) rfl rfl (any_of HT_.out (by kernel_rfl)) (fun _ _ _ h => h) (Or.inr ⟨by rfl, rfl⟩) ?_ ?_; rotate_left; (focus simp only [Act.put, sA, sB, sC, i64_w, i32_w]; rfl)
                   refine pure_ (i := 23) (N := some 145) (v := undef) (a' := ?_) (bA 28 16777215) rfl rfl (any_of HT_.out (by kernel_rfl)) (fun _ _ _ h => h) (Or.inr ⟨by rfl, rfl⟩) ?_ ?_; rotate_left; (focus simp only [Act.put, sA, sB, sC, i64_w, i32_w]; rfl)
                   refine pure_ (i := 24) (N := some 146) (v := undef) (a' := ?_) (bA 28 33554431) rfl rfl (any_of HT_.out (by kernel_rfl)) (fun _ _ _ h => h) (Or.inr ⟨by rfl, rfl⟩) ?_ ?_; rotate_left; (focus simp only [Act.put, sA, sB, sC, i64_w, i32_w]; rfl)
                   refine pure_ (i := 25) (N := some 147) (v := undef) (a' := ?_) (bA 28 67108863) rfl rfl (any_of HT_.out (by kernel_rfl)) (fun _ _ _ h => h) (Or.inr ⟨by rfl, rfl⟩) ?_ ?_; rotate_left; (focus simp only [Act.put, sA, sB, sC, i64_w, i32_w]; rfl)
                   refine pure_ (i := 26) (N := some 148) (v := undef) (a' := ?_) (bA 28 134217727) rfl rfl (any_of HT_.out (by kernel_rfl)) (fun _ _ _ h => h) (Or.inr ⟨by rfl, rfl⟩) ?_ ?_; rotate_left; (focus simp only [Act.put, sA, sB, sC, i64_w, i32_w]; rfl)
                   refine pure_ (i := 27) (N := some 149) (v := ?_) (a' := ?_) (bA 28 268435455) rfl rfl (any_of HT_.out (by kernel_rfl)) (fun _ _ _ h => h) (Or.inl ⟨by rfl, ?_⟩) ?_ ?_; rotate_left; (focus intro w'; go_simp; with_reducible rfl); rotate_left; (focus simp only [Act.put, sA, sB, sC, i64_w, i32_w]; rfl)
                   refine done_ (done_of HT_.out (by kernel_rfl)) ?_
                   try go_wp2
                   go_meet
                   case rel => exact ⟨_, (true), (by first | rfl | (simp; done) | (simp [*]; done)), H', ⟨by have := HK1.out; have := HK2.out; have := HK3.out; have := HJ52.out; first | omega | exact Nat.le_refl _⟩, ⟨by (with_reducible repeat (first | apply Kd.R_alloc | apply Kd.R_drewN | apply Kd.R_drew)); exact HO_4.out⟩, ⟨by (with_reducible repeat (first | refine blk_drewN ?_ _ | refine blk_drew ?_ | refine blk_alloc ?_ _)); exact BK142.out⟩, ⟨by repeat (first | (with_reducible first | exact HB.out | apply below_alloc | apply pw_below_drewN | apply below_drew1 | refine below_set ?_ GE142.out) | exact HB.out)⟩⟩
                  ·rw [if_neg c69] at H
                   have c69b0 : (x10_52 != ((rd x4_1 x8_2) == (rd x4_1 x9_3))) = false := by simpa using c69
                   (try (have c69b1 : decide (x10_52 = ((rd x4_1 x8_2) == (rd x4_1 x9_3))) = true := by simpa using c69))
                   (try (have c69b2 : (x10_52 == ((rd x4_1 x8_2) == (rd x4_1 x9_3))) = true := by simpa using c69))
                   clear c69
                   replace H := Option.bind_eq_some_iff.mp H
                   obtain ⟨t167, A710, H⟩ := H
                   replace H : (if t167 = true then (davitlaw11_CallsGroups.j6 kj52 x4_1 x8_2 x9_3 (decide ((rd x4_1 x9_3) > (rd x4_1 x8_2))) l0_0) else (davitlaw11_CallsGroups.j6 kj52 x4_1 x8_2 x9_3 false l0_0)) = some r := H
                   have A71 := Aside0.mk A710
                   clear A710
                   by_cases c72 : t167 = true
                   ·subst c72
                    have H1 : (davitlaw11_CallsGroups.j6 kj52 x4_1 x8_2 x9_3 (decide ((rd x4_1 x9_3) > (rd x4_1 x8_2))) l0_0) = some r := by rw [if_pos rfl] at H; exact H
                    clear H
                    have H := H1
                    clear H1
                    have H' := Aside0.mk H
                    clear H
                    try go_wp2
                    have n0_ := Aside0.mk (Kd.R_drew HO_4.out)
                    have n1_ := Aside0.mk (blk_drew BK142.out)
                    have n2_ := Aside0.mk (below_drew1 HB.out)
                    clear HO_4
                    clear BK142
                    clear HB
                    have HO_4 := n0_
                    have BK142 := n1_
                    have HB := n2_
                    clear n0_ n1_ n2_
                    have p165 : 0 ≤ (x8_2 : Int) := of_decide_eq_true (by first | (with_reducible assumption) | assumption)
                    have q165 : x8_2 < (x4_1.length : Int) := of_decide_eq_true (by first | (with_reducible assumption) | assumption)
                    obtain ⟨ad165, e165, hx165_0⟩ := Kd.at_int (Kd.R_reads' HO_4.out).2.2 x8_2 p165 q165
                    cases e165
                    replace p165 := eq_true p165
                    replace q165 := eq_true q165
                    have p166 : 0 ≤ (x9_3 : Int) := of_decide_eq_true (by first | (with_reducible assumption) | assumption)
                    have q166 : x9_3 < (x4_1.length : Int) := of_decide_eq_true (by first | (with_reducible assumption) | assumption)
                    obtain ⟨ad166, e166, hx166_0⟩ := Kd.at_int (Kd.R_reads' HO_4.out).2.2 x9_3 p166 q166
                    obtain rfl : ad165 = ad166 := (by injection e166)
                    replace p166 := eq_true p166
                    replace q166 := eq_true q166
                    have p168 : 0 ≤ (x9_3 : Int) := of_decide_eq_true (by first | (with_reducible assumption) | assumption)
                    have q168 : x9_3 < (x4_1.length : Int) := of_decide_eq_true (by first | (with_reducible assumption) | assumption)
                    obtain ⟨ad168, e168, hx168_0⟩ := Kd.at_int (Kd.R_reads' HO_4.out).2.2 x9_3 p168 q168
                    obtain rfl : ad165 = ad168 := (by injection e168)
                    replace p168 := eq_true p168
                    replace q168 := eq_true q168
                    have p169 : 0 ≤ (x8_2 : Int) := of_decide_eq_true (by first | (with_reducible assumption) | assumption)
                    have q169 : x8_2 < (x4_1.length : Int) := of_decide_eq_true (by first | (with_reducible assumption) | assumption)
                    obtain ⟨ad169, e169, hx169_0⟩ := Kd.at_int (Kd.R_reads' HO_4.out).2.2 x8_2 p169 q169
                    obtain rfl : ad165 = ad169 := (by injection e169)
                    replace p169 := eq_true p169
                    replace q169 := eq_true q169
                    refine start_ (n := 28) (S := fun w' => w'.cell? ⟨gb142, 0, none⟩ = some (.slice A0_0 l0_0.length c0_0) ∧ w'.cell? (ad165.add (x8_2).toNat) = some (.int .i64 (rd x4_1 x8_2)) ∧ w'.cell? (ad165.add (x9_3).toNat) = some (.int .i64 (rd x4_1 x9_3)) ∧ w'.cell? (ad165.add (x9_3).toNat) = some (.int .i64 (rd x4_1 x9_3)) ∧ w'.cell? (ad165.add (x8_2).toNat) = some (.int .i64 (rd x4_1 x8_2))) (ds := []) (bA 28 0) (by kernel_rfl) rfl rfl ⟨(blk_cell BK142.out 0).trans rfl, hx165_0, hx166_0, hx168_0, hx169_0⟩ (fun hHeld => ?_); refine with_tabW davitlaw11_CallsGroups.tab27 davitlaw11_CallsGroups.bits27 (fun HT_ HW_ => ?_)
                    generalize wc.drew = w73 at HO_4 BK142 HB hx165_0 hx166_0 hx168_0 hx169_0 hHeld ⊢
                    refine pure_ (i := 0) (N := some 122) (v := ?_) (a' := ?_) (bA 28 1) rfl rfl (any_of HT_.out (by kernel_rfl)) (fun _ _ _ h => h) (Or.inl ⟨by rfl, ?_⟩) ?_ ?_; rotate_left; (focus intro w'; go_simp; with_reducible rfl); rotate_left; (focus simp only [Act.put, sA, sB, sC, i64_w, i32_w]; rfl)
                    refine pure_ (i := 1) (N := some 123) (v := ?_) (a' := ?_) (bA 28 3) rfl rfl (any_of HT_.out (by kernel_rfl)) (fun _ _ _ h => h) (Or.inl ⟨by rfl, ?_⟩) ?_ ?_; rotate_left; (focus intro w'; go_simp; with_reducible rfl); rotate_left; (focus simp only [Act.put, sA, sB, sC, i64_w, i32_w]; rfl)
                    refine pure_ (i := 2) (N := some 124) (v := ?_) (a' := ?_) (bA 28 7) rfl rfl (any_of HT_.out (by kernel_rfl)) (fun _ _ _ h => h) (Or.inl ⟨by rfl, ?_⟩) ?_ ?_; rotate_left; (focus intro w'; go_simp; with_reducible rfl); rotate_left; (focus simp only [Act.put, sA, sB, sC, i64_w, i32_w]; rfl)
                    refine pure_ (i := 3) (N := some 125) (v := ?_) (a' := ?_) (bA 28 15) rfl rfl (any_of HT_.out (by kernel_rfl)) (fun _ _ _ h => h) (Or.inl ⟨by rfl, ?_⟩) ?_ ?_; rotate_left; (focus intro w'; go_simp; with_reducible rfl); rotate_left; (focus simp only [Act.put, sA, sB, sC, i64_w, i32_w]; rfl)
                    refine pure_ (i := 5) (N := some 127) (v := ?_) (a' := ?_) (bA 28 47) rfl rfl (any_of HT_.out (by kernel_rfl)) (fun _ _ _ h => h) (Or.inl ⟨by rfl, ?_⟩) ?_ ?_; rotate_left; (focus intro w'; go_simp; with_reducible rfl); rotate_left; (focus simp only [Act.put, sA, sB, sC, i64_w, i32_w]; rfl)
                    refine pure_ (i := 6) (N := some 128) (v := ?_) (a' := ?_) (bA 28 111) rfl rfl (any_of HT_.out (by kernel_rfl)) (fun _ _ _ h => h) (Or.inl ⟨by rfl, ?_⟩) ?_ ?_; rotate_left; (focus intro w'; go_simp; with_reducible rfl); rotate_left; (focus simp only [Act.put, sA, sB, sC, i64_w, i32_w]; rfl)
                    refine pure_ (i := 7) (N := some 129) (v := ?_) (a' := ?_) (bA 28 239) rfl rfl (any_of HT_.out (by kernel_rfl)) (fun _ _ _ h => h) (Or.inl ⟨by rfl, ?_⟩) ?_ ?_; rotate_left; (focus intro w'; go_simp; with_reducible rfl); rotate_left; (focus simp only [Act.put, sA, sB, sC, i64_w, i32_w]; rfl)
                    refine take_ (i := 4) (N := some 126) (v := ?_) (a' := ?_) (bA 28 255) rfl rfl (take_ofW HT_.out HW_.out (by kernel_rfl)) (fun _ _ _ h => h) (Or.inl ⟨by rfl, ?_⟩) hHeld ?_ ?_; rotate_left; (focus rintro w' ⟨s0, s1, s2, s3, s4⟩; go_simp; with_reducible rfl); rotate_left; (focus simp only [Act.put, sA, sB, sC, i64_w, i32_w]; rfl)
                    refine take_ (i := 8) (N := some 130) (v := ?_) (a' := ?_) (bA 28 511) rfl rfl (take_ofW HT_.out HW_.out (by kernel_rfl)) (fun _ _ _ h => h) (Or.inl ⟨by rfl, ?_⟩) hHeld ?_ ?_; rotate_left; (focus rintro w' ⟨s0, s1, s2, s3, s4⟩; go_simp; with_reducible rfl); rotate_left; (focus simp only [Act.put, sA, sB, sC, i64_w, i32_w]; rfl)
                    refine pure_ (i := 9) (N := some 131) (v := ?_) (a' := ?_) (bA 28 1023) rfl rfl (any_of HT_.out (by kernel_rfl)) (fun _ _ _ h => h) (Or.inl ⟨by rfl, ?_⟩) ?_ ?_; rotate_left; (focus intro w'; go_simp; with_reducible rfl); rotate_left; (focus simp only [Act.put, sA, sB, sC, i64_w, i32_w]; rfl)
                    refine pure_ (i := 10) (N := some 132) (v := ?_) (a' := ?_) (bA 28 2047) rfl rfl (any_of HT_.out (by kernel_rfl)) (fun _ _ _ h => h) (Or.inl ⟨by rfl, ?_⟩) ?_ ?_; rotate_left; (focus intro w'; go_simp; with_reducible rfl); rotate_left; (focus simp only [Act.put, sA, sB, sC, i64_w, i32_w]; rfl)
                    refine pure_ (i := 11) (N := some 133) (v := ?_) (a' := ?_) (bA 28 4095) rfl rfl (any_of HT_.out (by kernel_rfl)) (fun _ _ _ h => h) (Or.inl ⟨by rfl, ?_⟩) ?_ ?_; rotate_left; (focus intro w'; go_simp; with_reducible rfl); rotate_left; (focus simp only [Act.put, sA, sB, sC, i64_w, i32_w]; rfl)
                    refine pure_ (i := 13) (N := some 135) (v := ?_) (a' := ?_) (bA 28 12287) rfl rfl (any_of HT_.out (by kernel_rfl)) (fun _ _ _ h => h) (Or.inl ⟨by rfl, ?_⟩) ?_ ?_; rotate_left; (focus intro w'; go_simp; with_reducible rfl); rotate_left; (focus simp only [Act.put, sA, sB, sC, i64_w, i32_w]; rfl)
                    refine pure_ (i := 14) (N := some 136) (v := ?_) (a' := ?_) (bA 28 28671) rfl rfl (any_of HT_.out (by kernel_rfl)) (fun _ _ _ h => h) (Or.inl ⟨by rfl, ?_⟩) ?_ ?_; rotate_left; (focus intro w'; go_simp; with_reducible rfl); rotate_left; (focus simp only [Act.put, sA, sB, sC, i64_w, i32_w]; rfl)
                    refine take_ (i := 12) (N := some 134) (v := ?_) (a' := ?_) (bA 28 32767) rfl rfl (take_ofW HT_.out HW_.out (by kernel_rfl)) (fun _ _ _ h => h) (Or.inl ⟨by rfl, ?_⟩) hHeld ?_ ?_; rotate_left; (focus rintro w' ⟨s0, s1, s2, s3, s4⟩; go_simp; with_reducible rfl); rotate_left; (focus simp only [Act.put, sA, sB, sC, i64_w, i32_w]; rfl)
                    refine one_ (i := 15) (N := some 137) (bA 28 65535) rfl rfl (one_of HT_.out (by kernel_rfl)) (by decide) (fun K hK => ?_)
                    refine goes_ Try.func9 (by kernel_rfl) rfl #[.agg #[.slice A0_0 l0_0.length c0_0], .int .i64 x8_2, .int .i64 x9_3] (by rfl) rfl rfl (by (try simp only [List.map_toArray, List.map_cons, List.map_nil]); first | done | rfl | (simp only [List.length_drop, List.length_take]; rfl)) ?_
                    with_reducible refine (calls_Comes.calls kj52 _ _ l0_0 x8_2 x9_3 true _ ?side1 ?side2 A71.out).mono ?_
                    (case side1 => repeat (first | exact (Kd.C_below HR0_0.out HB.out) | (with_reducible refine Kd.C_alloc ?_ _) | (with_reducible refine Kd.C_drewN ?_ _) | (with_reducible refine Kd.C_drew ?_)))
                    (case side2 => exact HC0_0.out)
                    rintro e w74 ⟨rfl, hb⟩
                    have HS1_ := (hb.cell (World.block_lt_of_cell? _ _ (hHeld.2.1))).trans (hHeld.2.1)
                    have HS2_ := (hb.cell (World.block_lt_of_cell? _ _ (hHeld.2.2.1))).trans (hHeld.2.2.1)
                    have HS3_ := (hb.cell (World.block_lt_of_cell? _ _ (hHeld.2.2.2.1))).trans (hHeld.2.2.2.1)
                    have HS4_ := (hb.cell (World.block_lt_of_cell? _ _ (hHeld.2.2.2.2))).trans (hHeld.2.2.2.2)
                    refine ⟨_, rfl, ?_⟩
                    have n0_ := Aside0.mk (Kd.R_below (by (with_reducible repeat (first | apply Kd.R_alloc | apply Kd.R_drewN | apply Kd.R_drew)); exact HO_4.out) hb)
                    have n1_ := Aside0.mk (blk_below (g := gb142) (o := .cells #[.slice A0_0 l0_0.length c0_0] 24 (0, 0)) (by (with_reducible repeat (first | refine blk_drewN ?_ _ | refine blk_drew ?_ | refine blk_alloc ?_ _)); exact BK142.out) hb)
                    have n2_ := Aside0.mk (below_step (by repeat (first | (with_reducible first | exact HB.out | apply below_alloc | apply pw_below_drewN | apply below_drew1 | refine below_set ?_ GE142.out) | exact HB.out)) hb)
                    clear HO_4
                    clear BK142
                    clear HB
                    have HO_4 := n0_
                    have BK142 := n1_
                    have HB := n2_
                    clear n0_ n1_ n2_
                    (try clear hb)
                    (try clear hb2)
                    (try clear hk)
                    (try clear hi)
                    refine hK.out _ _ ⟨(blk_cell BK142.out 0).trans rfl, HS1_, HS2_, HS3_, HS4_⟩ (fun hHeld => ?_)
                    clear hK K
                    refine norm_ (a' := ?_) ?_ ?_; rotate_left; (focus show Act.put _ (some 137) _ = _; simp only [Act.put, sA, sB, sC, i64_w, i32_w]; rfl)
                    refine pure_ (i := 16) (N := some 138) (v := ?_) (a' := ?_) (bA 28 131071) rfl rfl (any_of HT_.out (by kernel_rfl)) (fun _ _ _ h => h) (Or.inl ⟨by rfl, ?_⟩) ?_ ?_; rotate_left; (focus intro w'; go_simp; with_reducible rfl); rotate_left; (focus simp only [Act.put, sA, sB, sC, i64_w, i32_w]; rfl)
                    refine pure_ (i := 17) (N := some 139) (v := ?_) (a' := ?_) (bA 28 262143) rfl rfl (any_of HT_.out (by kernel_rfl)) (fun _ _ _ h => h) (Or.inl ⟨by rfl, ?_⟩) ?_ ?_; rotate_left; (focus intro w'; go_simp; with_reducible rfl); rotate_left; (focus simp only [Act.put, sA, sB, sC, i64_w, i32_w]; rfl)
                    refine pure_ (i := 18) (N := some 140) (v := ?_) (a' := ?_) (bA 28 524287) rfl rfl (any_of HT_.out (by kernel_rfl)) (fun _ _ _ h => h) (Or.inl ⟨by rfl, ?_⟩) ?_ ?_; rotate_left; (focus intro w'; go_simp; with_reducible rfl); rotate_left; (focus simp only [Act.put, sA, sB, sC, i64_w, i32_w]; rfl)
                    refine pure_ (i := 19) (N := some 141) (v := ?_) (a' := ?_) (bA 28 1048575) rfl rfl (any_of HT_.out (by kernel_rfl)) (fun _ _ _ h => h) (Or.inl ⟨by rfl, ?_⟩) ?_ ?_; rotate_left; (focus intro w'; go_simp; with_reducible rfl); rotate_left; (focus simp only [Act.put, sA, sB, sC, i64_w, i32_w]; rfl)
                    refine pure_ (i := 21) (N := some 143) (v := ?_) (a' := ?_) (bA 28 3145727) rfl rfl (any_of HT_.out (by kernel_rfl)) (fun _ _ _ h => h) (Or.inl ⟨by rfl, ?_⟩) ?_ ?_; rotate_left; (focus intro w'; go_simp; with_reducible rfl); rotate_left; (focus simp only [Act.put, sA, sB, sC, i64_w, i32_w]; rfl)
                    refine pure_ (i := 22) (N := some 144) (v := ?_) (a' := ?_) (bA 28 7340031) rfl rfl (any_of HT_.out (by kernel_rfl)) (fun _ _ _ h => h) (Or.inl ⟨by rfl, ?_⟩) ?_ ?_; rotate_left; (focus intro w'; go_simp; with_reducible rfl); rotate_left; (focus simp only [Act.put, sA, sB, sC, i64_w, i32_w]; rfl)
                    refine pure_ (i := 23) (N := some 145) (v := ?_) (a' := ?_) (bA 28 15728639) rfl rfl (any_of HT_.out (by kernel_rfl)) (fun _ _ _ h => h) (Or.inl ⟨by rfl, ?_⟩) ?_ ?_; rotate_left; (focus intro w'; go_simp; with_reducible rfl); rotate_left; (focus simp only [Act.put, sA, sB, sC, i64_w, i32_w]; rfl)
                    refine take_ (i := 20) (N := some 142) (v := ?_) (a' := ?_) (bA 28 16777215) rfl rfl (take_ofW HT_.out HW_.out (by kernel_rfl)) (fun _ _ _ h => h) (Or.inl ⟨by rfl, ?_⟩) hHeld ?_ ?_; rotate_left; (focus rintro w' ⟨s0, s1, s2, s3, s4⟩; go_simp; with_reducible rfl); rotate_left; (focus simp only [Act.put, sA, sB, sC, i64_w, i32_w]; rfl)
                    refine take_ (i := 24) (N := some 146) (v := ?_) (a' := ?_) (bA 28 33554431) rfl rfl (take_ofW HT_.out HW_.out (by kernel_rfl)) (fun _ _ _ h => h) (Or.inl ⟨by rfl, ?_⟩) hHeld ?_ ?_; rotate_left; (focus rintro w' ⟨s0, s1, s2, s3, s4⟩; go_simp; with_reducible rfl); rotate_left; (focus simp only [Act.put, sA, sB, sC, i64_w, i32_w]; rfl)
                    refine pure_ (i := 25) (N := some 147) (v := ?_) (a' := ?_) (bA 28 67108863) rfl rfl (any_of HT_.out (by kernel_rfl)) (fun _ _ _ h => h) (Or.inl ⟨by rfl, ?_⟩) ?_ ?_; rotate_left; (focus intro w'; go_simp; with_reducible rfl); rotate_left; (focus simp only [Act.put, sA, sB, sC, i64_w, i32_w]; rfl)
                    refine pure_ (i := 26) (N := some 148) (v := ?_) (a' := ?_) (bA 28 134217727) rfl rfl (any_of HT_.out (by kernel_rfl)) (fun _ _ _ h => h) (Or.inl ⟨by rfl, ?_⟩) ?_ ?_; rotate_left; (focus intro w'; go_simp; with_reducible rfl); rotate_left; (focus simp only [Act.put, sA, sB, sC, i64_w, i32_w]; rfl)
                    refine pure_ (i := 27) (N := some 149) (v := ?_) (a' := ?_) (bA 28 268435455) rfl rfl (any_of HT_.out (by kernel_rfl)) (fun _ _ _ h => h) (Or.inl ⟨by rfl, ?_⟩) ?_ ?_; rotate_left; (focus intro w'; go_simp; with_reducible rfl); rotate_left; (focus simp only [Act.put, sA, sB, sC, i64_w, i32_w]; rfl)
                    refine done_ (done_of HT_.out (by kernel_rfl)) ?_
                    try go_wp2
                    go_meet
                    case rel => exact ⟨_, (decide ((rd x4_1 x9_3) > (rd x4_1 x8_2))), (by first | rfl | (simp; done) | (simp [*]; done)), H', ⟨by have := HK1.out; have := HK2.out; have := HK3.out; have := HJ52.out; first | omega | exact Nat.le_refl _⟩, ⟨by (with_reducible repeat (first | apply Kd.R_alloc | apply Kd.R_drewN | apply Kd.R_drew)); exact HO_4.out⟩, ⟨by (with_reducible repeat (first | refine blk_drewN ?_ _ | refine blk_drew ?_ | refine blk_alloc ?_ _)); exact BK142.out⟩, ⟨by repeat (first | (with_reducible first | exact HB.out | apply below_alloc | apply pw_below_drewN | apply below_drew1 | refine below_set ?_ GE142.out) | exact HB.out)⟩⟩
                   ·replace c72 := Bool.eq_false_iff.mpr c72
                    subst c72
                    have H1 : (davitlaw11_CallsGroups.j6 kj52 x4_1 x8_2 x9_3 false l0_0) = some r := by rw [if_neg (show ¬ (false = true) by decide)] at H; exact H
                    clear H
                    have H := H1
                    clear H1
                    have H' := Aside0.mk H
                    clear H
                    try go_wp2
                    have n0_ := Aside0.mk (Kd.R_drew HO_4.out)
                    have n1_ := Aside0.mk (blk_drew BK142.out)
                    have n2_ := Aside0.mk (below_drew1 HB.out)
                    clear HO_4
                    clear BK142
                    clear HB
                    have HO_4 := n0_
                    have BK142 := n1_
                    have HB := n2_
                    clear n0_ n1_ n2_
                    have p165 : 0 ≤ (x8_2 : Int) := of_decide_eq_true (by first | (with_reducible assumption) | assumption)
                    have q165 : x8_2 < (x4_1.length : Int) := of_decide_eq_true (by first | (with_reducible assumption) | assumption)
                    obtain ⟨ad165, e165, hx165_0⟩ := Kd.at_int (Kd.R_reads' HO_4.out).2.2 x8_2 p165 q165
                    cases e165
                    replace p165 := eq_true p165
                    replace q165 := eq_true q165
                    have p166 : 0 ≤ (x9_3 : Int) := of_decide_eq_true (by first | (with_reducible assumption) | assumption)
                    have q166 : x9_3 < (x4_1.length : Int) := of_decide_eq_true (by first | (with_reducible assumption) | assumption)
                    obtain ⟨ad166, e166, hx166_0⟩ := Kd.at_int (Kd.R_reads' HO_4.out).2.2 x9_3 p166 q166
                    obtain rfl : ad165 = ad166 := (by injection e166)
                    replace p166 := eq_true p166
                    replace q166 := eq_true q166
                    refine start_ (n := 28) (S := fun w' => w'.cell? ⟨gb142, 0, none⟩ = some (.slice A0_0 l0_0.length c0_0) ∧ w'.cell? (ad165.add (x8_2).toNat) = some (.int .i64 (rd x4_1 x8_2)) ∧ w'.cell? (ad165.add (x9_3).toNat) = some (.int .i64 (rd x4_1 x9_3))) (ds := []) (bA 28 0) (by kernel_rfl) rfl rfl ⟨(blk_cell BK142.out 0).trans rfl, hx165_0, hx166_0⟩ (fun hHeld => ?_); refine with_tabW davitlaw11_CallsGroups.tab27 davitlaw11_CallsGroups.bits27 (fun HT_ HW_ => ?_)
                    generalize wc.drew = w75 at HO_4 BK142 HB hx165_0 hx166_0 hHeld ⊢
                    refine pure_ (i := 0) (N := some 122) (v := ?_) (a' := ?_) (bA 28 1) rfl rfl (any_of HT_.out (by kernel_rfl)) (fun _ _ _ h => h) (Or.inl ⟨by rfl, ?_⟩) ?_ ?_; rotate_left; (focus intro w'; go_simp; with_reducible rfl); rotate_left; (focus simp only [Act.put, sA, sB, sC, i64_w, i32_w]; rfl)
                    refine pure_ (i := 1) (N := some 123) (v := ?_) (a' := ?_) (bA 28 3) rfl rfl (any_of HT_.out (by kernel_rfl)) (fun _ _ _ h => h) (Or.inl ⟨by rfl, ?_⟩) ?_ ?_; rotate_left; (focus intro w'; go_simp; with_reducible rfl); rotate_left; (focus simp only [Act.put, sA, sB, sC, i64_w, i32_w]; rfl)
                    refine pure_ (i := 2) (N := some 124) (v := ?_) (a' := ?_) (bA 28 7) rfl rfl (any_of HT_.out (by kernel_rfl)) (fun _ _ _ h => h) (Or.inl ⟨by rfl, ?_⟩) ?_ ?_; rotate_left; (focus intro w'; go_simp; with_reducible rfl); rotate_left; (focus simp only [Act.put, sA, sB, sC, i64_w, i32_w]; rfl)
                    refine pure_ (i := 3) (N := some 125) (v := ?_) (a' := ?_) (bA 28 15) rfl rfl (any_of HT_.out (by kernel_rfl)) (fun _ _ _ h => h) (Or.inl ⟨by rfl, ?_⟩) ?_ ?_; rotate_left; (focus intro w'; go_simp; with_reducible rfl); rotate_left; (focus simp only [Act.put, sA, sB, sC, i64_w, i32_w]; rfl)
                    refine pure_ (i := 5) (N := some 127) (v := ?_) (a' := ?_) (bA 28 47) rfl rfl (any_of HT_.out (by kernel_rfl)) (fun _ _ _ h => h) (Or.inl ⟨by rfl, ?_⟩) ?_ ?_; rotate_left; (focus intro w'; go_simp; with_reducible rfl); rotate_left; (focus simp only [Act.put, sA, sB, sC, i64_w, i32_w]; rfl)
                    refine pure_ (i := 6) (N := some 128) (v := ?_) (a' := ?_) (bA 28 111) rfl rfl (any_of HT_.out (by kernel_rfl)) (fun _ _ _ h => h) (Or.inl ⟨by rfl, ?_⟩) ?_ ?_; rotate_left; (focus intro w'; go_simp; with_reducible rfl); rotate_left; (focus simp only [Act.put, sA, sB, sC, i64_w, i32_w]; rfl)
                    refine pure_ (i := 7) (N := some 129) (v := ?_) (a' := ?_) (bA 28 239) rfl rfl (any_of HT_.out (by kernel_rfl)) (fun _ _ _ h => h) (Or.inl ⟨by rfl, ?_⟩) ?_ ?_; rotate_left; (focus intro w'; go_simp; with_reducible rfl); rotate_left; (focus simp only [Act.put, sA, sB, sC, i64_w, i32_w]; rfl)
                    refine take_ (i := 4) (N := some 126) (v := ?_) (a' := ?_) (bA 28 255) rfl rfl (take_ofW HT_.out HW_.out (by kernel_rfl)) (fun _ _ _ h => h) (Or.inl ⟨by rfl, ?_⟩) hHeld ?_ ?_; rotate_left; (focus rintro w' ⟨s0, s1, s2⟩; go_simp; with_reducible rfl); rotate_left; (focus simp only [Act.put, sA, sB, sC, i64_w, i32_w]; rfl)
                    refine take_ (i := 8) (N := some 130) (v := ?_) (a' := ?_) (bA 28 511) rfl rfl (take_ofW HT_.out HW_.out (by kernel_rfl)) (fun _ _ _ h => h) (Or.inl ⟨by rfl, ?_⟩) hHeld ?_ ?_; rotate_left; (focus rintro w' ⟨s0, s1, s2⟩; go_simp; with_reducible rfl); rotate_left; (focus simp only [Act.put, sA, sB, sC, i64_w, i32_w]; rfl)
                    refine pure_ (i := 9) (N := some 131) (v := ?_) (a' := ?_) (bA 28 1023) rfl rfl (any_of HT_.out (by kernel_rfl)) (fun _ _ _ h => h) (Or.inl ⟨by rfl, ?_⟩) ?_ ?_; rotate_left; (focus intro w'; go_simp; with_reducible rfl); rotate_left; (focus simp only [Act.put, sA, sB, sC, i64_w, i32_w]; rfl)
                    refine pure_ (i := 10) (N := some 132) (v := ?_) (a' := ?_) (bA 28 2047) rfl rfl (any_of HT_.out (by kernel_rfl)) (fun _ _ _ h => h) (Or.inl ⟨by rfl, ?_⟩) ?_ ?_; rotate_left; (focus intro w'; go_simp; with_reducible rfl); rotate_left; (focus simp only [Act.put, sA, sB, sC, i64_w, i32_w]; rfl)
                    refine pure_ (i := 11) (N := some 133) (v := ?_) (a' := ?_) (bA 28 4095) rfl rfl (any_of HT_.out (by kernel_rfl)) (fun _ _ _ h => h) (Or.inl ⟨by rfl, ?_⟩) ?_ ?_; rotate_left; (focus intro w'; go_simp; with_reducible rfl); rotate_left; (focus simp only [Act.put, sA, sB, sC, i64_w, i32_w]; rfl)
                    refine pure_ (i := 13) (N := some 135) (v := ?_) (a' := ?_) (bA 28 12287) rfl rfl (any_of HT_.out (by kernel_rfl)) (fun _ _ _ h => h) (Or.inl ⟨by rfl, ?_⟩) ?_ ?_; rotate_left; (focus intro w'; go_simp; with_reducible rfl); rotate_left; (focus simp only [Act.put, sA, sB, sC, i64_w, i32_w]; rfl)
                    refine pure_ (i := 14) (N := some 136) (v := ?_) (a' := ?_) (bA 28 28671) rfl rfl (any_of HT_.out (by kernel_rfl)) (fun _ _ _ h => h) (Or.inl ⟨by rfl, ?_⟩) ?_ ?_; rotate_left; (focus intro w'; go_simp; with_reducible rfl); rotate_left; (focus simp only [Act.put, sA, sB, sC, i64_w, i32_w]; rfl)
                    refine take_ (i := 12) (N := some 134) (v := ?_) (a' := ?_) (bA 28 32767) rfl rfl (take_ofW HT_.out HW_.out (by kernel_rfl)) (fun _ _ _ h => h) (Or.inl ⟨by rfl, ?_⟩) hHeld ?_ ?_; rotate_left; (focus rintro w' ⟨s0, s1, s2⟩; go_simp; with_reducible rfl); rotate_left; (focus simp only [Act.put, sA, sB, sC, i64_w, i32_w]; rfl)
                    refine one_ (i := 15) (N := some 137) (bA 28 65535) rfl rfl (one_of HT_.out (by kernel_rfl)) (by decide) (fun K hK => ?_)
                    refine goes_ Try.func9 (by kernel_rfl) rfl #[.agg #[.slice A0_0 l0_0.length c0_0], .int .i64 x8_2, .int .i64 x9_3] (by rfl) rfl rfl (by (try simp only [List.map_toArray, List.map_cons, List.map_nil]); first | done | rfl | (simp only [List.length_drop, List.length_take]; rfl)) ?_
                    with_reducible refine (calls_Comes.calls kj52 _ _ l0_0 x8_2 x9_3 false _ ?side1 ?side2 A71.out).mono ?_
                    (case side1 => repeat (first | exact (Kd.C_below HR0_0.out HB.out) | (with_reducible refine Kd.C_alloc ?_ _) | (with_reducible refine Kd.C_drewN ?_ _) | (with_reducible refine Kd.C_drew ?_)))
                    (case side2 => exact HC0_0.out)
                    rintro e w76 ⟨rfl, hb⟩
                    have HS1_ := (hb.cell (World.block_lt_of_cell? _ _ (hHeld.2.1))).trans (hHeld.2.1)
                    have HS2_ := (hb.cell (World.block_lt_of_cell? _ _ (hHeld.2.2))).trans (hHeld.2.2)
                    refine ⟨_, rfl, ?_⟩
                    have n0_ := Aside0.mk (Kd.R_below (by (with_reducible repeat (first | apply Kd.R_alloc | apply Kd.R_drewN | apply Kd.R_drew)); exact HO_4.out) hb)
                    have n1_ := Aside0.mk (blk_below (g := gb142) (o := .cells #[.slice A0_0 l0_0.length c0_0] 24 (0, 0)) (by (with_reducible repeat (first | refine blk_drewN ?_ _ | refine blk_drew ?_ | refine blk_alloc ?_ _)); exact BK142.out) hb)
                    have n2_ := Aside0.mk (below_step (by repeat (first | (with_reducible first | exact HB.out | apply below_alloc | apply pw_below_drewN | apply below_drew1 | refine below_set ?_ GE142.out) | exact HB.out)) hb)
                    clear HO_4
                    clear BK142
                    clear HB
                    have HO_4 := n0_
                    have BK142 := n1_
                    have HB := n2_
                    clear n0_ n1_ n2_
                    (try clear hb)
                    (try clear hb2)
                    (try clear hk)
                    (try clear hi)
                    refine hK.out _ _ ⟨(blk_cell BK142.out 0).trans rfl, HS1_, HS2_⟩ (fun hHeld => ?_)
                    clear hK K
                    refine norm_ (a' := ?_) ?_ ?_; rotate_left; (focus show Act.put _ (some 137) _ = _; simp only [Act.put, sA, sB, sC, i64_w, i32_w]; rfl)
                    refine pure_ (i := 16) (N := some 138) (v := ?_) (a' := ?_) (bA 28 131071) rfl rfl (any_of HT_.out (by kernel_rfl)) (fun _ _ _ h => h) (Or.inl ⟨by rfl, ?_⟩) ?_ ?_; rotate_left; (focus intro w'; go_simp; with_reducible rfl); rotate_left; (focus simp only [Act.put, sA, sB, sC, i64_w, i32_w]; rfl)
                    refine pure_ (i := 17) (N := some 139) (v := undef) (a' := ?_) (bA 28 262143) rfl rfl (any_of HT_.out (by kernel_rfl)) (fun _ _ _ h => h) (Or.inr ⟨by rfl, rfl⟩) ?_ ?_; rotate_left; (focus simp only [Act.put, sA, sB, sC, i64_w, i32_w]; rfl)
                    refine pure_ (i := 18) (N := some 140) (v := undef) (a' := ?_) (bA 28 524287) rfl rfl (any_of HT_.out (by kernel_rfl)) (fun _ _ _ h => h) (Or.inr ⟨by rfl, rfl⟩) ?_ ?_; rotate_left; (focus simp only [Act.put, sA, sB, sC, i64_w, i32_w]; rfl)
                    refine pure_ (i := 19) (N := some 141) (v := undef) (a' := ?_) (bA 28 1048575) rfl rfl (any_of HT_.out (by kernel_rfl)) (fun _ _ _ h => h) (Or.inr ⟨by rfl, rfl⟩) ?_ ?_; rotate_left; (focus simp only [Act.put, sA, sB, sC, i64_w, i32_w]; rfl)
                    refine pure_ (i := 20) (N := some 142) (v := undef) (a' := ?_) (bA 28 2097151) rfl rfl (any_of HT_.out (by kernel_rfl)) (fun _ _ _ h => h) (Or.inr ⟨by rfl, rfl⟩) ?_ ?_; rotate_left; (focus simp only [Act.put, sA, sB, sC, i64_w, i32_w]; rfl)
                    refine pure_ (i := 21) (N := some 143) (v := undef) (a' := ?_) (bA 28 4194303) rfl rfl (any_of HT_.out (by kernel_rfl)) (fun _ _ _ h => h) (Or.inr ⟨by rfl, rfl⟩) ?_ ?_; rotate_left; (focus simp only [Act.put, sA, sB, sC, i64_w, i32_w]; rfl)
                    refine pure_ (i := 22) (N := some 144) (v := undef) (a' := ?_) (bA 28 8388607) rfl rfl (any_of HT_.out (by kernel_rfl)) (fun _ _ _ h => h) (Or.inr ⟨by rfl, rfl⟩) ?_ ?_; rotate_left; (focus simp only [Act.put, sA, sB, sC, i64_w, i32_w]; rfl)
                    refine pure_ (i := 23) (N := some 145) (v := undef) (a' := ?_) (bA 28 16777215) rfl rfl (any_of HT_.out (by kernel_rfl)) (fun _ _ _ h => h) (Or.inr ⟨by rfl, rfl⟩) ?_ ?_; rotate_left; (focus simp only [Act.put, sA, sB, sC, i64_w, i32_w]; rfl)
                    refine pure_ (i := 24) (N := some 146) (v := undef) (a' := ?_) (bA 28 33554431) rfl rfl (any_of HT_.out (by kernel_rfl)) (fun _ _ _ h => h) (Or.inr ⟨by rfl, rfl⟩) ?_ ?_; rotate_left; (focus simp only [Act.put, sA, sB, sC, i64_w, i32_w]; rfl)
                    refine pure_ (i := 25) (N := some 147) (v := undef) (a' := ?_) (bA 28 67108863) rfl rfl (any_of HT_.out (by kernel_rfl)) (fun _ _ _ h => h) (Or.inr ⟨by rfl, rfl⟩) ?_ ?_; rotate_left; (focus simp only [Act.put, sA, sB, sC, i64_w, i32_w]; rfl)
                    refine pure_ (i := 26) (N := some 148) (v := ?_) (a' := ?_) (bA 28 134217727) rfl rfl (any_of HT_.out (by kernel_rfl)) (fun _ _ _ h => h) (Or.inl ⟨by rfl, ?_⟩) ?_ ?_; rotate_left; (focus intro w'; go_simp; with_reducible rfl); rotate_left; (focus simp only [Act.put, sA, sB, sC, i64_w, i32_w]; rfl)
                    refine pure_ (i := 27) (N := some 149) (v := ?_) (a' := ?_) (bA 28 268435455) rfl rfl (any_of HT_.out (by kernel_rfl)) (fun _ _ _ h => h) (Or.inl ⟨by rfl, ?_⟩) ?_ ?_; rotate_left; (focus intro w'; go_simp; with_reducible rfl); rotate_left; (focus simp only [Act.put, sA, sB, sC, i64_w, i32_w]; rfl)
                    refine done_ (done_of HT_.out (by kernel_rfl)) ?_
                    try go_wp2
                    go_meet
                    case rel => exact ⟨_, (false), (by first | rfl | (simp; done) | (simp [*]; done)), H', ⟨by have := HK1.out; have := HK2.out; have := HK3.out; have := HJ52.out; first | omega | exact Nat.le_refl _⟩, ⟨by (with_reducible repeat (first | apply Kd.R_alloc | apply Kd.R_drewN | apply Kd.R_drew)); exact HO_4.out⟩, ⟨by (with_reducible repeat (first | refine blk_drewN ?_ _ | refine blk_drew ?_ | refine blk_alloc ?_ _)); exact BK142.out⟩, ⟨by repeat (first | (with_reducible first | exact HB.out | apply below_alloc | apply pw_below_drewN | apply below_drew1 | refine below_set ?_ GE142.out) | exact HB.out)⟩⟩
                 ·rw [if_neg c68] at H
                  exact absurd H (by simp)
                ·rw [if_neg c67] at H
                 exact absurd H (by simp)
               ·rw [if_neg c66] at H
                exact absurd H (by simp)
              ·rw [if_neg c65] at H
               exact absurd H (by simp)
             case rest =>
              clear HC64
              try clear p1
              try clear q1
              try clear hx1
              try clear p2
              try clear c6
              try clear c7
              try clear c9
              try clear p16
              try clear q16
              try clear hx16
              try clear c65
              try clear c66
              try clear c67
              try clear c68
              try clear c69
              try clear c69b0
              try clear c69b1
              try clear c69b2
              try clear c72
              try clear hx165_0
              try clear hx166_0
              try clear hx168_0
              try clear hx169_0
              try clear p165
              try clear p166
              try clear p168
              try clear p169
              try clear q165
              try clear q166
              try clear q168
              try clear q169
              obtain ⟨kq, x149_63, rfl, HA, HJ63, HO_4, BK142, HB⟩ := hcut
              cases kq with
              | zero => exact absurd HA.out (by simp [davitlaw11_CallsGroups.j6])
              | succ kj63 =>
               have H := HA.out
               clear HA
               simp only [davitlaw11_CallsGroups.j6] at H
               by_cases c77 : x149_63 = true
               ·subst c77
                have H1 : (some false) = some r := by rw [if_pos rfl] at H; exact H
                clear H
                have H := H1
                clear H1
                obtain rfl := Option.some.inj H
                go_wp2
                go_ret
                exact ⟨by first | rfl | (simp [errW_none, errW_some] <;> rfl) | (simp [*, errW_none, errW_some] <;> rfl), by repeat (first | (with_reducible first | exact HB.out | apply below_alloc | apply pw_below_drewN | apply below_drew1 | refine below_set ?_ GE142.out) | exact HB.out)⟩
               ·replace c77 := Bool.eq_false_iff.mpr c77
                subst c77
                have H1 : (davitlaw11_CallsGroups.l3 kj63 x4_1 x8_2 (wrap64 (x9_3 + 1)) l0_0) = some r := by rw [if_neg (show ¬ (false = true) by decide)] at H; exact H
                clear H
                have H := H1
                clear H1
                have H' := Aside0.mk H
                clear H
                go_wp2
                go_roundg kj63
                case measure => have := HK1.out; have := HK2.out; have := HK3.out; have := HJ52.out; have := HJ63.out; omega
                case rel => exact ⟨(wrap64 (x9_3 + 1)), (by first | rfl | (simp; done) | (simp [*]; done)), H', ⟨by have := HK1.out; have := HK2.out; have := HK3.out; have := HJ52.out; have := HJ63.out; omega⟩, ⟨by (with_reducible repeat (first | apply Kd.R_alloc | apply Kd.R_drewN | apply Kd.R_drew)); exact HO_4.out⟩, ⟨by (with_reducible repeat (first | refine blk_drewN ?_ _ | refine blk_drew ?_ | refine blk_alloc ?_ _)); exact BK142.out⟩, ⟨by repeat (first | (with_reducible first | exact HB.out | apply below_alloc | apply pw_below_drewN | apply below_drew1 | refine below_set ?_ GE142.out) | exact HB.out)⟩⟩
          ·rw [if_neg c52] at H
           have c52b0 : decide (x9_3 < (x4_1.length : Int)) = false := decide_eq_false c52
           clear c52
           have H' := Aside0.mk H
           clear H
           go_wp2
           go_roundg k3
           case measure => have := HK1.out; have := HK2.out; have := HK3.out; omega
           case rel => exact ⟨(wrap64 (x8_2 + 1)), (by first | rfl | (simp; done) | (simp [*]; done)), H', ⟨by have := HK1.out; have := HK2.out; have := HK3.out; omega⟩, ⟨by (with_reducible repeat (first | apply Kd.R_alloc | apply Kd.R_drewN | apply Kd.R_drew)); exact HO_4.out⟩, ⟨by (with_reducible repeat (first | refine blk_drewN ?_ _ | refine blk_drew ?_ | refine blk_alloc ?_ _)); exact BK142.out⟩, ⟨by repeat (first | (with_reducible first | exact HB.out | apply below_alloc | apply pw_below_drewN | apply below_drew1 | refine below_set ?_ GE142.out) | exact HB.out)⟩⟩
       ·rw [if_neg c51] at H
        have c51b0 : decide (x8_2 < (x4_1.length : Int)) = false := decide_eq_false c51
        clear c51
        obtain rfl := Option.some.inj H
        go_wp2
        go_ret
        exact ⟨by first | rfl | (simp [errW_none, errW_some] <;> rfl) | (simp [*, errW_none, errW_some] <;> rfl), by repeat (first | (with_reducible first | exact HB.out | apply below_alloc | apply pw_below_drewN | apply below_drew1 | refine below_set ?_ GE142.out) | exact HB.out)⟩
    ·rw [if_neg c48] at H
     have c48b0 : (x5_1 == (x4_1.length : Int)) = false := beq_eq_false_iff_ne.mpr c48
     have c48b1 : (x5_1 != (x4_1.length : Int)) = true := bne_iff_ne.mpr c48
     obtain rfl := Option.some.inj H
     obtain ⟨Ao78, co78, eo78⟩ := Kd.S_slice HO_3.out
     subst eo78
     obtain ⟨Ao79, co79, eo79⟩ := Kd.R_slice HO_4.out
     subst eo79
     go_wp2
     go_ret
     exact ⟨by first | rfl | (simp [errW_none, errW_some] <;> rfl) | (simp [*, errW_none, errW_some] <;> rfl), by repeat (first | (with_reducible first | exact HB.out | apply below_alloc | apply pw_below_drewN | apply below_drew1 | refine below_set ?_ GE142.out) | exact HB.out)⟩
end
end Go.Proofs.Ytjjcnbfmmhokeaa.X
namespace Go.Proofs.Ytjjcnbfmmhokeaa.G
open Go.Proofs.Ytjjcnbfmmhokeaa.X Go.RowKit Go.Proofs.YtjjcnbfmmhokeaaW.PrintWords
set_option linter.all false
def Evt {α : Type} (g : Nat → Option α) (r : α) : Prop := ∃ k0, ∀ k, k0 ≤ k → g k = some r
theorem Evt.succ {α : Type} {g : Nat → Option α} {r : α} (h : Evt (fun k => g (k + 1)) r) : Evt g r := by
 obtain ⟨k0, h⟩ := h
 refine ⟨k0 + 1, fun k hk => ?_⟩
 obtain ⟨j, rfl⟩ : ∃ j, k = j + 1 := ⟨k - 1, by omega⟩
 exact h j (by omega)
theorem Evt.bind {α β : Type} {g : Nat → Option α} {h : Nat → α → Option β} {a : α} {r : β} (h1 : Evt g a) (h2 : Evt (fun k => h k a) r) : Evt (fun k => (g k).bind (h k)) r := by
 obtain ⟨k1, h1⟩ := h1
 obtain ⟨k2, h2⟩ := h2
 refine ⟨k1 + k2, fun k hk => ?_⟩
 show (g k).bind (h k) = some r
 rw [h1 k (by omega)]
 exact h2 k (by omega)
theorem Evt.pure {α : Type} (r : α) : Evt (fun _ => some r) r := ⟨0, fun _ _ => rfl⟩
theorem Evt.const {α : Type} {o : Option α} {r : α} (h : o = some r) : Evt (fun _ => o) r := ⟨0, fun _ _ => h⟩
theorem Evt.congr {α : Type} {g g' : Nat → Option α} {r : α} (h : Evt g' r) (e : ∀ k, g k = g' k) : Evt g r := by
 obtain ⟨k0, h⟩ := h
 exact ⟨k0, fun k hk => (e k).trans (h k hk)⟩
theorem Evt.inj {α : Type} {g : Nat → Option α} {r s : α} (h1 : Evt g r) (h2 : Evt g s) : r = s := by
 obtain ⟨k1, h1⟩ := h1
 obtain ⟨k2, h2⟩ := h2
 have e1 := h1 (k1 + k2) (by omega)
 have e2 := h2 (k1 + k2) (by omega)
 rw [e1] at e2
 exact Option.some.inj e2
theorem Evt.ex {α : Type} {g : Nat → Option α} {r : α} (h : Evt g r) : ∃ k, g k = some r := by
 obtain ⟨k0, h⟩ := h
 exact ⟨k0, h k0 (Nat.le_refl _)⟩
theorem Evt.of_mono {α : Type} {g : Nat → Option α} {r : α} (hm : ∀ k, LeO (g k) (g (k + 1))) {k : Nat} (h : g k = some r) : Evt g r := by
 refine ⟨k, fun j hj => ?_⟩
 obtain ⟨d, rfl⟩ := Nat.exists_eq_add_of_le hj
 clear hj
 induction d with
 | zero => exact h
 | succ d ih => exact hm (k + d) _ ih
theorem wrap_small (n : Int) (h0 : -9223372036854775808 ≤ n) (h1 : n ≤ 9223372036854775807) : wrap64 n = n := by unfold wrap64; omega
theorem getD_in {α : Type} (l : List α) (k : Nat) (z : α) (h : k < l.length) : l.getD k z ∈ l := by
 rw [List.getD_eq_getElem?_getD, List.getElem?_eq_getElem h]
 exact List.getElem_mem h
theorem drop_one {α : Type} (l : List α) (k : Nat) (z : α) (h : k < l.length) : l.drop k = l.getD k z :: l.drop (k + 1) := by
 rw [List.drop_eq_getElem_cons h, List.getD_eq_getElem?_getD, List.getElem?_eq_getElem h]; rfl
theorem take_snoc {α : Type} (l : List α) (k : Nat) (z : α) (h : k < l.length) : l.take (k + 1) = l.take k ++ [l.getD k z] := by
 rw [List.take_succ_eq_append_getElem h, List.getD_eq_getElem?_getD, List.getElem?_eq_getElem h]; rfl
theorem of_getD {α : Type} {l : List α} {x : α} (h : x ∈ l) (z : α) : ∃ k, k < l.length ∧ l.getD k z = x := by
 obtain ⟨k, hk, rfl⟩ := List.getElem_of_mem h
 exact ⟨k, hk, by rw [List.getD_eq_getElem?_getD, List.getElem?_eq_getElem hk]; rfl⟩
theorem cast_succ (i : Nat) : (((i + 1 : Nat)) : Int) = (i : Int) + 1 := by omega
end Go.Proofs.Ytjjcnbfmmhokeaa.G
namespace Go.Proofs.Ytjjcnbfmmhokeaa.G
open Go.RowKit
set_option linter.all false
theorem strict_ext : ∀ (l l' : List Int), l.Pairwise (· < ·) → l'.Pairwise (· < ·) → (∀ x, x ∈ l ↔ x ∈ l') → l = l'
 | [], [], _, _, _ => rfl
 | [], y :: l', _, _, h => absurd ((h y).2 (List.mem_cons_self ..)) (by simp)
 | x :: l, [], _, _, h => absurd ((h x).1 (List.mem_cons_self ..)) (by simp)
 | x :: l, y :: l', h1, h2, h => by
  obtain ⟨a1, a2⟩ := List.pairwise_cons.1 h1
  obtain ⟨b1, b2⟩ := List.pairwise_cons.1 h2
  have e : x = y := by
   rcases List.mem_cons.1 ((h x).1 (List.mem_cons_self ..)) with e | e
   ·exact e
   ·rcases List.mem_cons.1 ((h y).2 (List.mem_cons_self ..)) with e' | e'
    ·exact e'.symm
    ·have := a1 y e'; have := b1 x e; omega
  subst e
  congr 1
  refine strict_ext l l' a2 b2 fun z => ⟨fun hz => ?_, fun hz => ?_⟩
  ·rcases List.mem_cons.1 ((h z).1 (List.mem_cons_of_mem _ hz)) with e | e
   ·have := a1 z hz; omega
   ·exact e
  ·rcases List.mem_cons.1 ((h z).2 (List.mem_cons_of_mem _ hz)) with e | e
   ·have := b1 z hz; omega
   ·exact e
theorem compact_up (d : Array Int) (hs : ∀ i j, i ≤ j → j < d.size → d[i]! ≤ d[j]!) : ∀ m, m ≤ d.size →
  (Lib.compactUpTo d m).Pairwise (· < ·) ∧ (∀ x ∈ Lib.compactUpTo d m, ∃ j, j < m ∧ x = d[j]!) ∧ (∀ j, j < m → d[j]! ∈ Lib.compactUpTo d m)
 | 0, _ => by simp [Lib.compactUpTo]
 | m + 1, hm => by
  obtain ⟨h1, h2, h3⟩ := compact_up d hs m (by omega)
  rw [Lib.compactUpTo_succ]
  by_cases hk : Lib.keeps d m = true
  ·rw [if_pos hk]
   refine ⟨List.pairwise_append.2 ⟨h1, by simp, fun a ha b hb => ?_⟩, fun x hx => ?_, fun j hj => ?_⟩
   ·rw [List.mem_singleton.1 hb]
    obtain ⟨j, hj, rfl⟩ := h2 a ha
    have q1 := hs j (m - 1) (by omega) (by omega)
    have q2 := hs (m - 1) m (by omega) (by omega)
    have q3 : d[m]! ≠ d[m - 1]! := by
     intro e
     rw [Lib.keeps_neg (by omega) e] at hk
     cases hk
    omega
   ·rcases List.mem_append.1 hx with hx | hx
    ·obtain ⟨j, hj, e⟩ := h2 x hx
     exact ⟨j, by omega, e⟩
    ·exact ⟨m, by omega, List.mem_singleton.1 hx⟩
   ·by_cases e : j = m
    ·exact List.mem_append_right _ (by rw [e]; simp)
    ·exact List.mem_append_left _ (h3 j (by omega))
  ·rw [if_neg hk, List.append_nil]
   refine ⟨h1, fun x hx => ?_, fun j hj => ?_⟩
   ·obtain ⟨j, hj, e⟩ := h2 x hx
    exact ⟨j, by omega, e⟩
   ·by_cases e : j = m
    ·subst e
     have q : j ≠ 0 ∧ d[j]! = d[j - 1]! := by
      unfold Lib.keeps at hk
      simpa using hk
     rw [q.2]
     exact h3 (j - 1) (by omega)
    ·exact h3 j (by omega)
theorem sorted_compact (l : List Int) : (Lib.compact (l.mergeSort fun x y => decide (x ≤ y))).Pairwise (· < ·) ∧ ∀ x, x ∈ Lib.compact (l.mergeSort fun x y => decide (x ≤ y)) ↔ x ∈ l := by
 have hp := List.pairwise_mergeSort (le := fun x y : Int => decide (x ≤ y)) (fun a b c h1 h2 => by simp at h1 h2 ⊢; omega) (fun a b => by simp; omega) l
 generalize hz : (l.mergeSort fun x y => decide (x ≤ y)) = zs at hp ⊢
 have hm : ∀ x, x ∈ zs ↔ x ∈ l := fun x => by rw [← hz]; exact List.mem_mergeSort
 have hget : ∀ j (h : j < zs.length), zs.toArray[j]! = zs[j] := fun j h => by simp [getElem!_pos, h]
 have hs : ∀ i j, i ≤ j → j < zs.toArray.size → zs.toArray[i]! ≤ zs.toArray[j]! := fun i j hij hj => by
  have hj' : j < zs.length := by simpa using hj
  rw [hget j hj', hget i (by omega)]
  by_cases e : i = j
  ·subst e; exact Int.le_refl _
  ·have := List.pairwise_iff_getElem.1 hp i j (by omega) hj' (by omega)
   simpa using this
 obtain ⟨h1, h2, h3⟩ := compact_up zs.toArray hs zs.length (by simp)
 refine ⟨h1, fun x => (⟨fun hx => ?_, fun hx => ?_⟩ : _ ↔ x ∈ zs).trans (hm x)⟩
 ·obtain ⟨j, hj, rfl⟩ := h2 x hx
  rw [hget j hj]; exact List.getElem_mem hj
 ·obtain ⟨j, hj, rfl⟩ := List.getElem_of_mem hx
  have := h3 j hj
  rw [hget j hj] at this
  exact this
def pickN (p : Nat → Bool) (n : Nat) : List Int := ((List.range n).filter p).map fun (k : Nat) => (k : Int)
theorem pickN_strict (p : Nat → Bool) (n : Nat) : (pickN p n).Pairwise (· < ·) := by
 unfold pickN
 rw [List.pairwise_map]
 exact (List.pairwise_lt_range.sublist List.filter_sublist).imp (fun h => by omega)
theorem mem_pickN {p : Nat → Bool} {n : Nat} {x : Int} : x ∈ pickN p n ↔ ∃ k : Nat, x = (k : Int) ∧ k < n ∧ p k = true := by
 unfold pickN
 rw [List.mem_map]
 constructor
 ·rintro ⟨k, hk, rfl⟩
  have := List.mem_filter.1 hk
  exact ⟨k, rfl, List.mem_range.1 this.1, this.2⟩
 ·rintro ⟨k, rfl, h1, h2⟩
  exact ⟨k, List.mem_filter.2 ⟨List.mem_range.2 h1, h2⟩, rfl⟩
theorem pickN_succ (p : Nat → Bool) (n : Nat) : pickN p (n + 1) = pickN p n ++ (if p n = true then [(n : Int)] else []) := by
 unfold pickN
 rw [List.range_succ, List.filter_append, List.map_append]
 congr 1
 by_cases h : p n = true
 ·rw [if_pos h, List.filter_cons_of_pos h]; rfl
 ·rw [if_neg h, List.filter_cons_of_neg h]; rfl
theorem pickN_len (p : Nat → Bool) (n : Nat) : (pickN p n).length ≤ n := by
 unfold pickN
 rw [List.length_map]
 exact Nat.le_trans (List.length_filter_le _ _) (by simp)
theorem compact_pick (l : List Int) (n : Nat) (h : ∀ x ∈ l, 0 ≤ x ∧ x < (n : Int)) : Lib.compact (l.mergeSort fun x y => decide (x ≤ y)) = pickN (fun k => decide ((k : Int) ∈ l)) n := by
 obtain ⟨h1, h2⟩ := sorted_compact l
 refine strict_ext _ _ h1 (pickN_strict _ _) fun x => (h2 x).trans ?_
 rw [mem_pickN]
 constructor
 ·intro hx
  have := h x hx
  exact ⟨x.toNat, by omega, by omega, decide_eq_true (by rw [show ((x.toNat : Nat) : Int) = x by omega]; exact hx)⟩
 ·rintro ⟨k, rfl, _, hk⟩
  exact of_decide_eq_true hk
end Go.Proofs.Ytjjcnbfmmhokeaa.G
namespace Go.Proofs.Ytjjcnbfmmhokeaa.G
open Go.Proofs.Ytjjcnbfmmhokeaa.X Go.RowKit Go.Proofs.YtjjcnbfmmhokeaaW.PrintWords
set_option linter.all false
structure GoodB (b : S44) : Prop where
 ins : b.f2.length ≤ 70
 ctc : b.f1.f1.length ≤ 20
 arg : b.f3.f4.length ≤ 20
 xar : ∀ x ∈ b.f2, x.f6.length ≤ 20
structure GoodF (f : S33) : Prop where
 len : f.f2.length ≤ 70
 blk : ∀ b ∈ f.f2, GoodB b
structure Sh (m : List S33) : Prop where
 len : m.length ≤ 20
 fn : ∀ f ∈ m, GoodF f
theorem rdF (l : List S33) (i : Nat) : rd_T33 l (i : Int) = l.getD i z33 := by unfold rd_T33; rw [Int.toNat_natCast]
theorem rdB (l : List S44) (i : Nat) : rd_T44 l (i : Int) = l.getD i z44 := by unfold rd_T44; rw [Int.toNat_natCast]
theorem rdI (l : List S36) (i : Nat) : rd_T36 l (i : Int) = l.getD i z36 := by unfold rd_T36; rw [Int.toNat_natCast]
theorem short_l2 (m : List S33) (n : Int) (i k : Nat) (b : S44) (hk : k < 70) (hb : b.f2.length ≤ 70) (G : Prop)
  (h : ∃ r, Evt (fun f => davitref02_Short.l1 f n (i : Int) ((k : Int) + 1) m) r ∧ (r = true → G)) :
  ∀ (d j : Nat), j + d = b.f2.length → (∀ q, q < j → (b.f2.getD q z36).f6.length ≤ 20) →
   ∃ r, Evt (fun f => davitref02_Short.l2 f n (i : Int) (k : Int) (j : Int) m b.f0 b.f1.f0 b.f1.f1 b.f1.f2 b.f1.f3 b.f2 b.f3.f0 b.f3.f1 b.f3.f2 b.f3.f3 b.f3.f4 b.f3.f5 b.f3.f6 b.f3.f7) r ∧ (r = true → (∀ x ∈ b.f2, x.f6.length ≤ 20) ∧ G) := by
 intro d
 induction d with
 | zero =>
  intro j hj hq
  obtain ⟨r, hr, hG⟩ := h
  refine ⟨r, Evt.succ (Evt.congr hr fun f => ?_), fun e => ⟨fun x hx => ?_, hG e⟩⟩
  ·rw [davitref02_Short.l2, if_neg (by omega), wrap_small _ (by omega) (by omega)]
  ·obtain ⟨q, hq1, rfl⟩ := of_getD hx z36
   exact hq q (by omega)
 | succ d ih =>
  intro j hj hq
  by_cases hx : ((b.f2.getD j z36).f6.length : Int) > 20
  ·refine ⟨false, Evt.succ (Evt.congr (Evt.pure _) fun f => ?_), fun e => by cases e⟩
   rw [davitref02_Short.l2, if_pos (by omega), if_pos (by omega), rdI, if_pos hx]
  ·obtain ⟨r, hr, hG⟩ := ih (j + 1) (by omega) (fun q hq1 => by
    rcases Nat.lt_or_ge q j with h | h
    ·exact hq q h
    ·obtain rfl : q = j := by omega
     omega)
   rw [cast_succ] at hr
   refine ⟨r, Evt.succ (Evt.congr hr fun f => ?_), hG⟩
   rw [davitref02_Short.l2, if_pos (by omega), if_pos (by omega), rdI, if_neg hx, wrap_small _ (by omega) (by omega)]
theorem short_l1 (m : List S33) (i : Nat) (hi : i < m.length) (hm : m.length ≤ 20) (hB : (m.getD i z33).f2.length ≤ 70) (G : Prop)
  (h : ∀ n : Int, 0 ≤ n → n ≤ (i + 1) * 4900 → ∃ r, Evt (fun f => davitref02_Short.l0 f n ((i : Int) + 1) m) r ∧ (r = true → G)) :
  ∀ (d k : Nat) (n : Int), k + d = (m.getD i z33).f2.length → 0 ≤ n → n ≤ i * 4900 + k * 70 → (∀ q, q < k → GoodB ((m.getD i z33).f2.getD q z44)) →
   ∃ r, Evt (fun f => davitref02_Short.l1 f n (i : Int) (k : Int) m) r ∧ (r = true → GoodF (m.getD i z33) ∧ G) := by
 intro d
 induction d with
 | zero =>
  intro k n hk h0 h1 hq
  obtain ⟨r, hr, hG⟩ := h n h0 (by omega)
  refine ⟨r, Evt.succ (Evt.congr hr fun f => ?_), fun e => ⟨⟨hB, fun b hb => ?_⟩, hG e⟩⟩
  ·rw [davitref02_Short.l1, if_pos (by omega), if_pos (by omega), rdF, if_neg (by omega), wrap_small _ (by omega) (by omega)]
  ·obtain ⟨q, hq1, rfl⟩ := of_getD hb z44
   exact hq q (by omega)
 | succ d ih =>
  intro k n hk h0 h1 hq
  obtain ⟨b, hb⟩ : ∃ b, b = (m.getD i z33).f2.getD k z44 := ⟨_, rfl⟩
  have start : ∀ {r : Bool} {x : Bool}, x = decide ((b.f2.length : Int) > 70 ∨ (b.f1.f1.length : Int) > 20 ∨ (b.f3.f4.length : Int) > 20) → Evt (fun f => davitref02_Short.j2 f n (i : Int) (k : Int) x m b.f0 b.f1.f0 b.f1.f1 b.f1.f2 b.f1.f3 b.f2 b.f3.f0 b.f3.f1 b.f3.f2 b.f3.f3 b.f3.f4 b.f3.f5 b.f3.f6 b.f3.f7) r → Evt (fun f => davitref02_Short.l1 f n (i : Int) (k : Int) m) r := by
   intro r x hx hr
   refine Evt.succ (Evt.congr hr fun f => ?_)
   rw [davitref02_Short.l1, if_pos (by omega), if_pos (by omega), rdF, if_pos (by omega), if_pos (by omega), rdB, ← hb, hx]
   by_cases c1 : (b.f2.length : Int) > 70
   ·rw [if_pos c1, decide_eq_true (.inl c1)]
   ·rw [if_neg c1]
    by_cases c2 : (b.f1.f1.length : Int) > 20
    ·rw [if_pos c2, decide_eq_true (.inr (.inl c2))]
    ·rw [if_neg c2]
     congr 1
     exact decide_eq_decide.2 ⟨fun h => .inr (.inr h), fun h => by omega⟩
  by_cases hbad : (b.f2.length : Int) > 70 ∨ (b.f1.f1.length : Int) > 20 ∨ (b.f3.f4.length : Int) > 20
  ·refine ⟨false, start (x := true) (by rw [decide_eq_true hbad]) (Evt.succ (Evt.congr (Evt.pure _) fun f => ?_)), fun e => by cases e⟩
   rw [davitref02_Short.j2, if_pos rfl]
  ·have hk70 : k < 70 := by omega
   have hG : ∃ r, Evt (fun f => davitref02_Short.l2 f (n + (b.f2.length : Int)) (i : Int) (k : Int) ((0 : Nat) : Int) m b.f0 b.f1.f0 b.f1.f1 b.f1.f2 b.f1.f3 b.f2 b.f3.f0 b.f3.f1 b.f3.f2 b.f3.f3 b.f3.f4 b.f3.f5 b.f3.f6 b.f3.f7) r ∧ (r = true → GoodF (m.getD i z33) ∧ G) := by
    by_cases hxa : ∀ x ∈ b.f2, x.f6.length ≤ 20
    ·have gb : GoodB b := ⟨by omega, by omega, by omega, hxa⟩
     obtain ⟨r, hr, hG⟩ := short_l2 m (n + (b.f2.length : Int)) i k b hk70 (by omega) (GoodF (m.getD i z33) ∧ G) (by
      have := ih (k + 1) (n + (b.f2.length : Int)) (by omega) (by omega) (by omega) (fun q hq1 => by
       rcases Nat.lt_or_ge q k with h | h
       ·exact hq q h
       ·obtain rfl : q = k := by omega
        rw [← hb]; exact gb)
      rwa [cast_succ] at this) b.f2.length 0 (by omega) (fun q hq => by omega)
     exact ⟨r, hr, fun e => (hG e).2⟩
    ·
     have key : ∀ (d j : Nat), j + d = b.f2.length → (∃ q, j ≤ q ∧ q < b.f2.length ∧ ¬ (b.f2.getD q z36).f6.length ≤ 20) → Evt (fun f => davitref02_Short.l2 f (n + (b.f2.length : Int)) (i : Int) (k : Int) (j : Int) m b.f0 b.f1.f0 b.f1.f1 b.f1.f2 b.f1.f3 b.f2 b.f3.f0 b.f3.f1 b.f3.f2 b.f3.f3 b.f3.f4 b.f3.f5 b.f3.f6 b.f3.f7) false := by
      intro d
      induction d with
      | zero => rintro j hj ⟨q, h1, h2, _⟩; omega
      | succ d ih2 =>
       rintro j hj ⟨q, h1, h2, h3⟩
       by_cases hx : ((b.f2.getD j z36).f6.length : Int) > 20
       ·refine Evt.succ (Evt.congr (Evt.pure _) fun f => ?_)
        rw [davitref02_Short.l2, if_pos (by omega), if_pos (by omega), rdI, if_pos hx]
       ·have hne : q ≠ j := fun e => by subst e; omega
        have := ih2 (j + 1) (by omega) ⟨q, by omega, h2, h3⟩
        rw [cast_succ] at this
        refine Evt.succ (Evt.congr this fun f => ?_)
        rw [davitref02_Short.l2, if_pos (by omega), if_pos (by omega), rdI, if_neg hx, wrap_small _ (by omega) (by omega)]
     have hex : ∃ q, 0 ≤ q ∧ q < b.f2.length ∧ ¬ (b.f2.getD q z36).f6.length ≤ 20 := by
      apply Classical.byContradiction
      intro hno
      refine hxa fun x hx => ?_
      obtain ⟨q, hq1, rfl⟩ := of_getD hx z36
      apply Classical.byContradiction
      intro h3
      exact hno ⟨q, Nat.zero_le _, hq1, h3⟩
     exact ⟨false, key b.f2.length 0 (by omega) hex, fun e => by cases e⟩
   obtain ⟨r, hr, hG⟩ := hG
   refine ⟨r, start (x := false) (by rw [decide_eq_false hbad]) (Evt.succ (Evt.congr hr fun f => ?_)), hG⟩
   rw [davitref02_Short.j2, if_neg (by simp), wrap_small _ (by omega) (by omega)]
   rfl
theorem short_l0 (m : List S33) (hm : m.length ≤ 20) : ∀ (d i : Nat) (n : Int), i + d = m.length → 0 ≤ n → n ≤ i * 4900 → (∀ q, q < i → GoodF (m.getD q z33)) →
  ∃ r, Evt (fun f => davitref02_Short.l0 f n (i : Int) m) r ∧ (r = true → Sh m) := by
 intro d
 induction d with
 | zero =>
  intro i n hi h0 h1 hq
  refine ⟨_, Evt.succ (Evt.congr (Evt.pure (decide (n ≤ 2000))) fun f => ?_), fun _ => ⟨hm, fun f hf => ?_⟩⟩
  ·rw [davitref02_Short.l0, if_neg (by omega)]
  ·obtain ⟨q, hq1, rfl⟩ := of_getD hf z33
   exact hq q (by omega)
 | succ d ih =>
  intro i n hi h0 h1 hq
  by_cases hB : (((m.getD i z33).f2).length : Int) > 70
  ·refine ⟨false, Evt.succ (Evt.congr (Evt.pure _) fun f => ?_), fun e => by cases e⟩
   rw [davitref02_Short.l0, if_pos (by omega), if_pos (by omega), rdF, if_pos hB]
  ·by_cases hg : GoodF (m.getD i z33)
   ·obtain ⟨r, hr, hG⟩ := short_l1 m i (by omega) hm (by omega) (Sh m) (fun n h0 h1 => by
     have := ih (i + 1) n (by omega) h0 (by omega) (fun q hq1 => by
      rcases Nat.lt_or_ge q i with h | h
      ·exact hq q h
      ·obtain rfl : q = i := by omega
       exact hg)
     rwa [cast_succ] at this) (m.getD i z33).f2.length 0 n (by omega) h0 (by omega) (fun q hq => by omega)
    refine ⟨r, Evt.succ (Evt.congr hr fun f => ?_), fun e => (hG e).2⟩
    rw [davitref02_Short.l0, if_pos (by omega), if_pos (by omega), rdF, if_neg hB]
    rfl
   ·
    have hend : ∀ (d i : Nat) (n : Int), i + d = m.length → 0 ≤ n → n ≤ i * 4900 → ∃ r, Evt (fun f => davitref02_Short.l0 f n (i : Int) m) r ∧ (r = true → True) := by
     intro d
     induction d with
     | zero =>
      intro i n hi h0 h1
      refine ⟨_, Evt.succ (Evt.congr (Evt.pure (decide (n ≤ 2000))) fun f => ?_), fun _ => trivial⟩
      rw [davitref02_Short.l0, if_neg (by omega)]
     | succ d ih2 =>
      intro i n hi h0 h1
      by_cases hB : (((m.getD i z33).f2).length : Int) > 70
      ·refine ⟨false, Evt.succ (Evt.congr (Evt.pure _) fun f => ?_), fun _ => trivial⟩
       rw [davitref02_Short.l0, if_pos (by omega), if_pos (by omega), rdF, if_pos hB]
      ·obtain ⟨r, hr, _⟩ := short_l1 m i (by omega) hm (by omega) True (fun n h0 h1 => by
        have := ih2 (i + 1) n (by omega) h0 (by omega)
        rwa [cast_succ] at this) (m.getD i z33).f2.length 0 n (by omega) h0 (by omega) (fun q hq => by omega)
       refine ⟨r, Evt.succ (Evt.congr hr fun f => ?_), fun _ => trivial⟩
       rw [davitref02_Short.l0, if_pos (by omega), if_pos (by omega), rdF, if_neg hB]
       rfl
    obtain ⟨r, hr, hG⟩ := short_l1 m i (by omega) hm (by omega) True (fun n h0 h1 => by
     have := hend d (i + 1) n (by omega) h0 (by omega)
     rwa [cast_succ] at this) (m.getD i z33).f2.length 0 n (by omega) h0 (by omega) (fun q hq => by omega)
    refine ⟨r, Evt.succ (Evt.congr hr fun f => ?_), fun e => absurd (hG e).1 hg⟩
    rw [davitref02_Short.l0, if_pos (by omega), if_pos (by omega), rdF, if_neg hB]
    rfl
theorem short_ev (m : List S33) : ∃ r, Evt (fun f => davitref02_Short.f f m) r ∧ (r = true → Sh m) := by
 by_cases hm : (m.length : Int) > 20
 ·refine ⟨false, Evt.congr (Evt.pure _) fun f => ?_, fun e => by cases e⟩
  unfold davitref02_Short.f
  rw [if_pos hm]
 ·obtain ⟨r, hr, hG⟩ := short_l0 m (by omega) m.length 0 0 (by omega) (by omega) (by omega) (fun q hq => by omega)
  refine ⟨r, Evt.congr hr fun f => ?_, hG⟩
  unfold davitref02_Short.f
  rw [if_neg hm]
  rfl
end Go.Proofs.Ytjjcnbfmmhokeaa.G
namespace Go.Proofs.Ytjjcnbfmmhokeaa.X
open Go.RowKit Go.Proofs.YtjjcnbfmmhokeaaW.PrintWords Go.Proofs.YtjjcnbfmmhokeaaW.PrintLast Go.Proofs.YtjjcnbfmmhokeaaW.PrintMore
attribute [local go_sem] max2_int min2_int max_two min_two max_three min_three max_four min_four
set_option linter.all false
noncomputable section
def davitref07_Has.l0 : Nat → List Int → Int → Int → Option (Bool)
 | 0, _, _, _ => none
 | k + 1, x0, x1, x5 => if x5 < (x0.length : Int) then (if 0 ≤ x5 then (if (rd x0 x5) = x1 then (some true) else (davitref07_Has.l0 k x0 x1 (wrap64 (x5 + 1)))) else (none)) else (some false)
def davitref07_Has.f (k : Nat) (l0 : List Int) (a1 : Int) : Option (Bool) := davitref07_Has.l0 k l0 a1 0
theorem davitref07_Has.mono_l : ∀ k, (∀ y0 y1 y2, LeO (davitref07_Has.l0 k y0 y1 y2) (davitref07_Has.l0 (k + 1) y0 y1 y2))
 | 0 => fun _ _ _ r h => by simp [davitref07_Has.l0] at h
 | k + 1 => by
  have ih0 := davitref07_Has.mono_l k
  ·intro y0 y1 y2
   unfold davitref07_Has.l0
   repeat' first
   | (with_reducible exact ih0 _ _ _)
   | (with_reducible exact LeO.refl _)
   | (with_reducible exact LeO.none _)
   | (with_reducible refine LeO.ite ?_ ?_)
   | (with_reducible refine LeO.bind ?_ (fun _ => ?_))
   | exact ih0 _ _ _
   | exact LeO.none _
   | refine LeO.ite ?_ ?_
   | refine LeO.bind ?_ (fun _ => ?_)
theorem davitref07_Has.mono : ∀ a0 a1 k, LeO (davitref07_Has.f k a0 a1) (davitref07_Has.f (k + 1) a0 a1) := by
 intro a0 a1 k
 have ih0 := davitref07_Has.mono_l k
 unfold davitref07_Has.f
 repeat' first
   | (with_reducible exact ih0 _ _ _)
   | (with_reducible exact LeO.refl _)
   | (with_reducible exact LeO.none _)
   | (with_reducible refine LeO.ite ?_ ?_)
   | (with_reducible refine LeO.bind ?_ (fun _ => ?_))
   | exact ih0 _ _ _
   | exact LeO.none _
   | refine LeO.ite ?_ ?_
   | refine LeO.bind ?_ (fun _ => ?_)
set_option maxHeartbeats 8000000 in
set_option maxRecDepth 100000 in
theorem davitref07_Has.calls (k : Nat) (A0 : Option Addr) (c0 : Nat) (l0 : List Int) (a1 : Int) (r : Bool) (w : World) (hr0 : Kd.C (Kd.int .i64) w A0 l0.length l0) (hc0 : l0.length ≤ c0) (h : davitref07_Has.f k l0 a1 = some r) :
  Calls Try.prog 10 #[.slice A0 l0.length c0, .int .i64 a1] w fun e w' => e = .returned (.bool r) ∧ Drawn0 w w' := by
 have HR0 := Aside0.mk hr0
 have HC0 := Aside0.mk hc0
 clear hr0 hc0
 have H : (davitref07_Has.l0 k l0 a1 0) = some r := h
 clear h
 have H' := Aside0.mk H
 clear H
 go_enter Try.func10, Try.ntmps10
 go_wp2
 go_loopg [5] k (fun kq v5 w' => ∃ (x5_1 : Int), v5 = .int .i64 x5_1 ∧ Aside0 (davitref07_Has.l0 kq l0 a1 x5_1 = some r) ∧ Aside0 (kq ≤ k) ∧ Drawn0 w w')
 case atStart => exact ⟨(0), (by first | rfl | (simp; done) | (simp [*]; done)), H', ⟨Nat.le_refl _⟩, by repeat (first | exact Drawn0.refl _ | apply Drawn0.step)⟩
 case round =>
  clear H'
  try clear c1
  try clear p2
  obtain ⟨x5_1, rfl, HA, HK1, ⟨m1, rfl⟩⟩ := hrel
  cases gk with
  | zero => exact absurd HA.out (by simp [davitref07_Has.l0])
  | succ k1 =>
   have H := HA.out
   clear HA
   simp only [davitref07_Has.l0] at H
   by_cases c3 : x5_1 < (l0.length : Int)
   ·rw [if_pos c3] at H
    have c3b0 : decide (x5_1 < (l0.length : Int)) = true := decide_eq_true c3
    clear c3
    by_cases c4 : 0 ≤ x5_1
    ·rw [if_pos c4] at H
     have c4b0 : decide (0 ≤ x5_1) = true := decide_eq_true c4
     clear c4
     by_cases c5 : (rd l0 x5_1) = a1
     ·rw [if_pos c5] at H
      have c5b0 : ((rd l0 x5_1) == a1) = true := beq_iff_eq.mpr c5
      have c5b1 : ((rd l0 x5_1) != a1) = false := bne_eq_false_iff_eq.mpr c5
      clear c5
      obtain rfl := Option.some.inj H
      have p142 : 0 ≤ (x5_1 : Int) := of_decide_eq_true (by first | (with_reducible assumption) | assumption)
      have q142 : x5_1 < (l0.length : Int) := of_decide_eq_true (by first | (with_reducible assumption) | assumption)
      obtain ⟨ad142, e142, hx142_0⟩ := Kd.at_int HR0.out x5_1 p142 q142
      cases e142
      replace p142 := eq_true p142
      replace q142 := eq_true q142
      go_wp2
      go_ret
      exact ⟨by first | rfl | (simp; done) | (simp [*]; done), by repeat (first | exact Drawn0.refl _ | apply Drawn0.step)⟩
     ·rw [if_neg c5] at H
      have c5b0 : ((rd l0 x5_1) == a1) = false := beq_eq_false_iff_ne.mpr c5
      have c5b1 : ((rd l0 x5_1) != a1) = true := bne_iff_ne.mpr c5
      have H' := Aside0.mk H
      clear H
      have p142 : 0 ≤ (x5_1 : Int) := of_decide_eq_true (by first | (with_reducible assumption) | assumption)
      have q142 : x5_1 < (l0.length : Int) := of_decide_eq_true (by first | (with_reducible assumption) | assumption)
      obtain ⟨ad142, e142, hx142_0⟩ := Kd.at_int HR0.out x5_1 p142 q142
      cases e142
      replace p142 := eq_true p142
      replace q142 := eq_true q142
      go_wp2
      go_roundg k1
      case measure => have := HK1.out; omega
      case rel => exact ⟨(wrap64 (x5_1 + 1)), (by first | rfl | (simp; done) | (simp [*]; done)), H', ⟨by have := HK1.out; omega⟩, by repeat (first | exact Drawn0.refl _ | apply Drawn0.step)⟩
    ·rw [if_neg c4] at H
     exact absurd H (by simp)
   ·rw [if_neg c3] at H
    have c3b0 : decide (x5_1 < (l0.length : Int)) = false := decide_eq_false c3
    clear c3
    obtain rfl := Option.some.inj H
    go_wp2
    go_ret
    exact ⟨by first | rfl | (simp; done) | (simp [*]; done), by repeat (first | exact Drawn0.refl _ | apply Drawn0.step)⟩
end
end Go.Proofs.Ytjjcnbfmmhokeaa.X
