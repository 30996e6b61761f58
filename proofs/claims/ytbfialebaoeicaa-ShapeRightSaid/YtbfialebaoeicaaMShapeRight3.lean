/- Part 4 of the proof of the statement ShapeRight: the words of the walks, the walks through the functions that it reaches, and the plain laws of what they compute. -/
import Derived.Test.YtbfialebaoeicaaMShapeRight2
import Derived.WalkSpells
import Derived.Shelf.Abstract
import Derived.Lib.SliceRun
import Derived.RegionTactic
import Derived.ChangeAlike
import Derived.Deep.QuietTactic
import Derived.BigQuiet
namespace Go.Proofs.Ytbfialebaoeicaa.X
open Go.RowKit Go.Proofs.YtbfialebaoeicaaW.PrintWords Go.Proofs.YtbfialebaoeicaaW.PrintLast Go.Proofs.YtbfialebaoeicaaW.PrintMore
attribute [local go_sem] max2_int min2_int max_two min_two max_three min_three max_four min_four
set_option linter.all false
noncomputable section
mutual
def davitref02_led.l0 : Nat → List Bool → Int → Int → Int → List (S41) → Option (List Bool)
 | 0, _, _, _, _, _ => none
 | k + 1, x3, x4, x197000, x197001, x197002 => if x4 < (x197002.length : Int) then (if 0 ≤ x4 then (if (rd_T41 x197002 x4).f0 = true then (if x4 < (x3.length : Int) then (davitref02_led.l0 k (x3.set (x4 : Int).toNat ((rd_T41 x197002 x4).f1.f3)) (wrap64 (x4 + 1)) x197000 x197001 x197002) else (none)) else (if x4 < (x3.length : Int) then (davitref02_led.l0 k (x3.set (x4 : Int).toNat false) (wrap64 (x4 + 1)) x197000 x197001 x197002) else (none))) else (none)) else (davitref02_led.l1 k x3 0 x197000 x197001 x197002)
def davitref02_led.l1 : Nat → List Bool → Int → Int → Int → List (S41) → Option (List Bool)
 | 0, _, _, _, _, _ => none
 | k + 1, x3, x5, x197000, x197001, x197002 => if x5 < (x197002.length : Int) then (davitref02_led.l2 k x3 x5 0 x197000 x197001 x197002) else (some x3)
def davitref02_led.l2 : Nat → List Bool → Int → Int → Int → Int → List (S41) → Option (List Bool)
 | 0, _, _, _, _, _, _ => none
 | k + 1, x3, x5, x6, x197000, x197001, x197002 => if x6 < (x197002.length : Int) then (if 0 ≤ x6 then (if x6 < (x3.length : Int) then (if rdOf false x3 x6 = true then (if ((rd_T41 x197002 x6).f3.f0) = 2 then ((davitref02_within.f ((rd_T41 x197002 x6).f3.f5) (x3.length : Int)).bind fun t207 => (davitref02_led.j3 k x3 x5 x6 t207 x197000 x197001 x197002 ((rd_T41 x197002 x6).f3.f0) ((rd_T41 x197002 x6).f3.f1) ((rd_T41 x197002 x6).f3.f2) ((rd_T41 x197002 x6).f3.f3) ((rd_T41 x197002 x6).f3.f4) ((rd_T41 x197002 x6).f3.f5) ((rd_T41 x197002 x6).f3.f6) ((rd_T41 x197002 x6).f3.f7))) else (if ((rd_T41 x197002 x6).f3.f0) = 3 then ((davitref02_within.f ((rd_T41 x197002 x6).f3.f5) (x3.length : Int)).bind fun t208 => (davitref02_led.j3 k x3 x5 x6 t208 x197000 x197001 x197002 ((rd_T41 x197002 x6).f3.f0) ((rd_T41 x197002 x6).f3.f1) ((rd_T41 x197002 x6).f3.f2) ((rd_T41 x197002 x6).f3.f3) ((rd_T41 x197002 x6).f3.f4) ((rd_T41 x197002 x6).f3.f5) ((rd_T41 x197002 x6).f3.f6) ((rd_T41 x197002 x6).f3.f7))) else (if ((rd_T41 x197002 x6).f3.f0) = 4 then ((davitref02_within.f ((rd_T41 x197002 x6).f3.f5) (x3.length : Int)).bind fun t209 => (davitref02_led.j3 k x3 x5 x6 t209 x197000 x197001 x197002 ((rd_T41 x197002 x6).f3.f0) ((rd_T41 x197002 x6).f3.f1) ((rd_T41 x197002 x6).f3.f2) ((rd_T41 x197002 x6).f3.f3) ((rd_T41 x197002 x6).f3.f4) ((rd_T41 x197002 x6).f3.f5) ((rd_T41 x197002 x6).f3.f6) ((rd_T41 x197002 x6).f3.f7))) else (davitref02_led.j3 k x3 x5 x6 false x197000 x197001 x197002 ((rd_T41 x197002 x6).f3.f0) ((rd_T41 x197002 x6).f3.f1) ((rd_T41 x197002 x6).f3.f2) ((rd_T41 x197002 x6).f3.f3) ((rd_T41 x197002 x6).f3.f4) ((rd_T41 x197002 x6).f3.f5) ((rd_T41 x197002 x6).f3.f6) ((rd_T41 x197002 x6).f3.f7))))) else (davitref02_led.j3 k x3 x5 x6 false x197000 x197001 x197002 ((rd_T41 x197002 x6).f3.f0) ((rd_T41 x197002 x6).f3.f1) ((rd_T41 x197002 x6).f3.f2) ((rd_T41 x197002 x6).f3.f3) ((rd_T41 x197002 x6).f3.f4) ((rd_T41 x197002 x6).f3.f5) ((rd_T41 x197002 x6).f3.f6) ((rd_T41 x197002 x6).f3.f7))) else (none)) else (none)) else (davitref02_led.l1 k x3 (wrap64 (x5 + 1)) x197000 x197001 x197002)
def davitref02_led.j3 : Nat → List Bool → Int → Int → Bool → Int → Int → List (S41) → Int → Int → Int → Int → List Int → Int → Int → Int → Option (List Bool)
 | 0, _, _, _, _, _, _, _, _, _, _, _, _, _, _, _ => none
 | k + 1, x3, x5, x6, x82, x197000, x197001, x197002, x206000, x206001, x206002, x206003, x206004, x206005, x206006, x206007 => if x82 = true then (if 0 ≤ x206005 then (if x206005 < (x3.length : Int) then (davitref02_led.j4 k (x3.set (x206005 : Int).toNat true) x5 x6 x197000 x197001 x197002 x206000 x206001 x206002 x206003 x206004 x206005 x206006 x206007) else (none)) else (none)) else (davitref02_led.j4 k x3 x5 x6 x197000 x197001 x197002 x206000 x206001 x206002 x206003 x206004 x206005 x206006 x206007)
def davitref02_led.j4 : Nat → List Bool → Int → Int → Int → Int → List (S41) → Int → Int → Int → Int → List Int → Int → Int → Int → Option (List Bool)
 | 0, _, _, _, _, _, _, _, _, _, _, _, _, _, _ => none
 | k + 1, x3, x5, x6, x197000, x197001, x197002, x206000, x206001, x206002, x206003, x206004, x206005, x206006, x206007 => if 0 ≤ x6 then (if x6 < (x3.length : Int) then (if rdOf false x3 x6 = true then (if x206000 = 3 then ((davitref02_within.f x206006 (x3.length : Int)).bind fun t212 => (davitref02_led.j5 k x3 x5 x6 t212 x197000 x197001 x197002 x206000 x206001 x206002 x206003 x206004 x206005 x206006 x206007)) else (davitref02_led.j5 k x3 x5 x6 false x197000 x197001 x197002 x206000 x206001 x206002 x206003 x206004 x206005 x206006 x206007)) else (davitref02_led.j5 k x3 x5 x6 false x197000 x197001 x197002 x206000 x206001 x206002 x206003 x206004 x206005 x206006 x206007)) else (none)) else (none)
def davitref02_led.j5 : Nat → List Bool → Int → Int → Bool → Int → Int → List (S41) → Int → Int → Int → Int → List Int → Int → Int → Int → Option (List Bool)
 | 0, _, _, _, _, _, _, _, _, _, _, _, _, _, _, _ => none
 | k + 1, x3, x5, x6, x102, x197000, x197001, x197002, x206000, x206001, x206002, x206003, x206004, x206005, x206006, x206007 => if x102 = true then (if 0 ≤ x206006 then (if x206006 < (x3.length : Int) then (davitref02_led.l2 k (x3.set (x206006 : Int).toNat true) x5 (wrap64 (x6 + 1)) x197000 x197001 x197002) else (none)) else (none)) else (davitref02_led.l2 k x3 x5 (wrap64 (x6 + 1)) x197000 x197001 x197002)
end
def davitref02_led.f (k : Nat) (a0_0 : Int) (a0_1 : Int) (l0_2 : List (S41)) : Option (List Bool) := if 0 ≤ (l0_2.length : Int) then (if ((l0_2.length : Int) : Int).toNat ≤ 281474976710656 then (davitref02_led.l0 k (List.replicate ((l0_2.length : Int) : Int).toNat false) 0 a0_0 a0_1 l0_2) else (none)) else (none)
theorem davitref02_led.mono_l : ∀ k, (∀ y0 y1 y2 y3 y4, LeO (davitref02_led.l0 k y0 y1 y2 y3 y4) (davitref02_led.l0 (k + 1) y0 y1 y2 y3 y4)) ∧ (∀ y0 y1 y2 y3 y4, LeO (davitref02_led.l1 k y0 y1 y2 y3 y4) (davitref02_led.l1 (k + 1) y0 y1 y2 y3 y4)) ∧ (∀ y0 y1 y2 y3 y4 y5, LeO (davitref02_led.l2 k y0 y1 y2 y3 y4 y5) (davitref02_led.l2 (k + 1) y0 y1 y2 y3 y4 y5)) ∧ (∀ y0 y1 y2 y3 y4 y5 y6 y7 y8 y9 y10 y11 y12 y13 y14, LeO (davitref02_led.j3 k y0 y1 y2 y3 y4 y5 y6 y7 y8 y9 y10 y11 y12 y13 y14) (davitref02_led.j3 (k + 1) y0 y1 y2 y3 y4 y5 y6 y7 y8 y9 y10 y11 y12 y13 y14)) ∧ (∀ y0 y1 y2 y3 y4 y5 y6 y7 y8 y9 y10 y11 y12 y13, LeO (davitref02_led.j4 k y0 y1 y2 y3 y4 y5 y6 y7 y8 y9 y10 y11 y12 y13) (davitref02_led.j4 (k + 1) y0 y1 y2 y3 y4 y5 y6 y7 y8 y9 y10 y11 y12 y13)) ∧ (∀ y0 y1 y2 y3 y4 y5 y6 y7 y8 y9 y10 y11 y12 y13 y14, LeO (davitref02_led.j5 k y0 y1 y2 y3 y4 y5 y6 y7 y8 y9 y10 y11 y12 y13 y14) (davitref02_led.j5 (k + 1) y0 y1 y2 y3 y4 y5 y6 y7 y8 y9 y10 y11 y12 y13 y14))
 | 0 => ⟨fun _ _ _ _ _ r h => by simp [davitref02_led.l0] at h, fun _ _ _ _ _ r h => by simp [davitref02_led.l1] at h, fun _ _ _ _ _ _ r h => by simp [davitref02_led.l2] at h, fun _ _ _ _ _ _ _ _ _ _ _ _ _ _ _ r h => by simp [davitref02_led.j3] at h, fun _ _ _ _ _ _ _ _ _ _ _ _ _ _ r h => by simp [davitref02_led.j4] at h, fun _ _ _ _ _ _ _ _ _ _ _ _ _ _ _ r h => by simp [davitref02_led.j5] at h⟩
 | k + 1 => by
  obtain ⟨ih0, ih1, ih2, ih3, ih4, ih5⟩ := davitref02_led.mono_l k
  refine ⟨?_, ?_, ?_, ?_, ?_, ?_⟩
  ·intro y0 y1 y2 y3 y4
   unfold davitref02_led.l0
   repeat' first
   | (with_reducible exact ih0 _ _ _ _ _)
   | (with_reducible exact ih1 _ _ _ _ _)
   | (with_reducible exact ih2 _ _ _ _ _ _)
   | (with_reducible exact ih3 _ _ _ _ _ _ _ _ _ _ _ _ _ _ _)
   | (with_reducible exact ih4 _ _ _ _ _ _ _ _ _ _ _ _ _ _)
   | (with_reducible exact ih5 _ _ _ _ _ _ _ _ _ _ _ _ _ _ _)
   | (with_reducible exact LeO.refl _)
   | (with_reducible exact LeO.none _)
   | (with_reducible refine LeO.ite ?_ ?_)
   | (with_reducible refine LeO.bind ?_ (fun _ => ?_))
   | exact ih0 _ _ _ _ _
   | exact ih1 _ _ _ _ _
   | exact ih2 _ _ _ _ _ _
   | exact ih3 _ _ _ _ _ _ _ _ _ _ _ _ _ _ _
   | exact ih4 _ _ _ _ _ _ _ _ _ _ _ _ _ _
   | exact ih5 _ _ _ _ _ _ _ _ _ _ _ _ _ _ _
   | exact LeO.none _
   | refine LeO.ite ?_ ?_
   | refine LeO.bind ?_ (fun _ => ?_)
  ·intro y0 y1 y2 y3 y4
   unfold davitref02_led.l1
   repeat' first
   | (with_reducible exact ih0 _ _ _ _ _)
   | (with_reducible exact ih1 _ _ _ _ _)
   | (with_reducible exact ih2 _ _ _ _ _ _)
   | (with_reducible exact ih3 _ _ _ _ _ _ _ _ _ _ _ _ _ _ _)
   | (with_reducible exact ih4 _ _ _ _ _ _ _ _ _ _ _ _ _ _)
   | (with_reducible exact ih5 _ _ _ _ _ _ _ _ _ _ _ _ _ _ _)
   | (with_reducible exact LeO.refl _)
   | (with_reducible exact LeO.none _)
   | (with_reducible refine LeO.ite ?_ ?_)
   | (with_reducible refine LeO.bind ?_ (fun _ => ?_))
   | exact ih0 _ _ _ _ _
   | exact ih1 _ _ _ _ _
   | exact ih2 _ _ _ _ _ _
   | exact ih3 _ _ _ _ _ _ _ _ _ _ _ _ _ _ _
   | exact ih4 _ _ _ _ _ _ _ _ _ _ _ _ _ _
   | exact ih5 _ _ _ _ _ _ _ _ _ _ _ _ _ _ _
   | exact LeO.none _
   | refine LeO.ite ?_ ?_
   | refine LeO.bind ?_ (fun _ => ?_)
  ·intro y0 y1 y2 y3 y4 y5
   unfold davitref02_led.l2
   repeat' first
   | (with_reducible exact ih0 _ _ _ _ _)
   | (with_reducible exact ih1 _ _ _ _ _)
   | (with_reducible exact ih2 _ _ _ _ _ _)
   | (with_reducible exact ih3 _ _ _ _ _ _ _ _ _ _ _ _ _ _ _)
   | (with_reducible exact ih4 _ _ _ _ _ _ _ _ _ _ _ _ _ _)
   | (with_reducible exact ih5 _ _ _ _ _ _ _ _ _ _ _ _ _ _ _)
   | (with_reducible exact LeO.refl _)
   | (with_reducible exact LeO.none _)
   | (with_reducible refine LeO.ite ?_ ?_)
   | (with_reducible refine LeO.bind ?_ (fun _ => ?_))
   | exact ih0 _ _ _ _ _
   | exact ih1 _ _ _ _ _
   | exact ih2 _ _ _ _ _ _
   | exact ih3 _ _ _ _ _ _ _ _ _ _ _ _ _ _ _
   | exact ih4 _ _ _ _ _ _ _ _ _ _ _ _ _ _
   | exact ih5 _ _ _ _ _ _ _ _ _ _ _ _ _ _ _
   | exact LeO.none _
   | refine LeO.ite ?_ ?_
   | refine LeO.bind ?_ (fun _ => ?_)
  ·intro y0 y1 y2 y3 y4 y5 y6 y7 y8 y9 y10 y11 y12 y13 y14
   unfold davitref02_led.j3
   repeat' first
   | (with_reducible exact ih0 _ _ _ _ _)
   | (with_reducible exact ih1 _ _ _ _ _)
   | (with_reducible exact ih2 _ _ _ _ _ _)
   | (with_reducible exact ih3 _ _ _ _ _ _ _ _ _ _ _ _ _ _ _)
   | (with_reducible exact ih4 _ _ _ _ _ _ _ _ _ _ _ _ _ _)
   | (with_reducible exact ih5 _ _ _ _ _ _ _ _ _ _ _ _ _ _ _)
   | (with_reducible exact LeO.refl _)
   | (with_reducible exact LeO.none _)
   | (with_reducible refine LeO.ite ?_ ?_)
   | (with_reducible refine LeO.bind ?_ (fun _ => ?_))
   | exact ih0 _ _ _ _ _
   | exact ih1 _ _ _ _ _
   | exact ih2 _ _ _ _ _ _
   | exact ih3 _ _ _ _ _ _ _ _ _ _ _ _ _ _ _
   | exact ih4 _ _ _ _ _ _ _ _ _ _ _ _ _ _
   | exact ih5 _ _ _ _ _ _ _ _ _ _ _ _ _ _ _
   | exact LeO.none _
   | refine LeO.ite ?_ ?_
   | refine LeO.bind ?_ (fun _ => ?_)
  ·intro y0 y1 y2 y3 y4 y5 y6 y7 y8 y9 y10 y11 y12 y13
   unfold davitref02_led.j4
   repeat' first
   | (with_reducible exact ih0 _ _ _ _ _)
   | (with_reducible exact ih1 _ _ _ _ _)
   | (with_reducible exact ih2 _ _ _ _ _ _)
   | (with_reducible exact ih3 _ _ _ _ _ _ _ _ _ _ _ _ _ _ _)
   | (with_reducible exact ih4 _ _ _ _ _ _ _ _ _ _ _ _ _ _)
   | (with_reducible exact ih5 _ _ _ _ _ _ _ _ _ _ _ _ _ _ _)
   | (with_reducible exact LeO.refl _)
   | (with_reducible exact LeO.none _)
   | (with_reducible refine LeO.ite ?_ ?_)
   | (with_reducible refine LeO.bind ?_ (fun _ => ?_))
   | exact ih0 _ _ _ _ _
   | exact ih1 _ _ _ _ _
   | exact ih2 _ _ _ _ _ _
   | exact ih3 _ _ _ _ _ _ _ _ _ _ _ _ _ _ _
   | exact ih4 _ _ _ _ _ _ _ _ _ _ _ _ _ _
   | exact ih5 _ _ _ _ _ _ _ _ _ _ _ _ _ _ _
   | exact LeO.none _
   | refine LeO.ite ?_ ?_
   | refine LeO.bind ?_ (fun _ => ?_)
  ·intro y0 y1 y2 y3 y4 y5 y6 y7 y8 y9 y10 y11 y12 y13 y14
   unfold davitref02_led.j5
   repeat' first
   | (with_reducible exact ih0 _ _ _ _ _)
   | (with_reducible exact ih1 _ _ _ _ _)
   | (with_reducible exact ih2 _ _ _ _ _ _)
   | (with_reducible exact ih3 _ _ _ _ _ _ _ _ _ _ _ _ _ _ _)
   | (with_reducible exact ih4 _ _ _ _ _ _ _ _ _ _ _ _ _ _)
   | (with_reducible exact ih5 _ _ _ _ _ _ _ _ _ _ _ _ _ _ _)
   | (with_reducible exact LeO.refl _)
   | (with_reducible exact LeO.none _)
   | (with_reducible refine LeO.ite ?_ ?_)
   | (with_reducible refine LeO.bind ?_ (fun _ => ?_))
   | exact ih0 _ _ _ _ _
   | exact ih1 _ _ _ _ _
   | exact ih2 _ _ _ _ _ _
   | exact ih3 _ _ _ _ _ _ _ _ _ _ _ _ _ _ _
   | exact ih4 _ _ _ _ _ _ _ _ _ _ _ _ _ _
   | exact ih5 _ _ _ _ _ _ _ _ _ _ _ _ _ _ _
   | exact LeO.none _
   | refine LeO.ite ?_ ?_
   | refine LeO.bind ?_ (fun _ => ?_)
theorem davitref02_led.mono : ∀ a0 a1 a2 k, LeO (davitref02_led.f k a0 a1 a2) (davitref02_led.f (k + 1) a0 a1 a2) := by
 intro a0 a1 a2 k
 obtain ⟨ih0, ih1, ih2, ih3, ih4, ih5⟩ := davitref02_led.mono_l k
 unfold davitref02_led.f
 repeat' first
   | (with_reducible exact ih0 _ _ _ _ _)
   | (with_reducible exact ih1 _ _ _ _ _)
   | (with_reducible exact ih2 _ _ _ _ _ _)
   | (with_reducible exact ih3 _ _ _ _ _ _ _ _ _ _ _ _ _ _ _)
   | (with_reducible exact ih4 _ _ _ _ _ _ _ _ _ _ _ _ _ _)
   | (with_reducible exact ih5 _ _ _ _ _ _ _ _ _ _ _ _ _ _ _)
   | (with_reducible exact LeO.refl _)
   | (with_reducible exact LeO.none _)
   | (with_reducible refine LeO.ite ?_ ?_)
   | (with_reducible refine LeO.bind ?_ (fun _ => ?_))
   | exact ih0 _ _ _ _ _
   | exact ih1 _ _ _ _ _
   | exact ih2 _ _ _ _ _ _
   | exact ih3 _ _ _ _ _ _ _ _ _ _ _ _ _ _ _
   | exact ih4 _ _ _ _ _ _ _ _ _ _ _ _ _ _
   | exact ih5 _ _ _ _ _ _ _ _ _ _ _ _ _ _ _
   | exact LeO.none _
   | refine LeO.ite ?_ ?_
   | refine LeO.bind ?_ (fun _ => ?_)
set_option maxHeartbeats 8000000 in
set_option maxRecDepth 100000 in
theorem davitref02_led.calls (k : Nat) (a0_0 : Int) (a0_1 : Int) (A0_2 : Option Addr) (c0_2 : Nat) (l0_2 : List (S41)) (r : List Bool) (w : World) (hr0_2 : Kd.C k41 w A0_2 l0_2.length l0_2) (hc0_2 : l0_2.length ≤ c0_2) (h : davitref02_led.f k a0_0 a0_1 l0_2 = some r) :
  Calls Try.prog 58 #[.agg #[.int .i64 a0_0, .int .i64 a0_1, .slice A0_2 l0_2.length c0_2]] w fun e w' => ∃ v0_ : Value, e = .returned (v0_) ∧ Kd.R Kd.bool 4 w' w.heap.size (fun _ => True) v0_ r ∧ Below w.heap.size w w' := by
 have hu27 := Try.underlying27
 have hu39 := Try.underlying39
 have HR0_2 := Aside0.mk hr0_2
 have HC0_2 := Aside0.mk hc0_2
 clear hr0_2 hc0_2
 have HB := Aside0.mk (Below.refl w.heap.size w)
 have H : (if 0 ≤ (l0_2.length : Int) then (if ((l0_2.length : Int) : Int).toNat ≤ 281474976710656 then (davitref02_led.l0 k (List.replicate ((l0_2.length : Int) : Int).toNat false) 0 a0_0 a0_1 l0_2) else (none)) else (none)) = some r := h
 clear h
 by_cases c2 : 0 ≤ (l0_2.length : Int)
 ·rw [if_pos c2] at H
  have c2b0 := eq_true c2
  have c2b1 : decide (0 ≤ (l0_2.length : Int)) = true := decide_eq_true c2
  clear c2
  by_cases c3 : ((l0_2.length : Int) : Int).toNat ≤ 281474976710656
  ·rw [if_pos c3] at H
   have c3b0 := eq_true c3
   have c3b1 : decide (((l0_2.length : Int) : Int).toNat ≤ 281474976710656) = true := decide_eq_true c3
   clear c3
   obtain ⟨y197, hy197⟩ : ∃ y_ : List Bool, y_ = (List.replicate ((l0_2.length : Int) : Int).toNat false) := ⟨_, rfl⟩
   replace H : (davitref02_led.l0 k y197 0 a0_0 a0_1 l0_2) = some r := by first | (rw [hy197]; with_reducible exact H) | (have H2_ := (Option.bind_some _ _).symm.trans H; rw [hy197]; with_reducible exact H2_) | (have H2_ := (Option.bind_some _ _).symm.trans H; with_reducible exact H2_) | with_reducible exact H | (rw [hy197]; exact H) | exact H
   have Ny197 := Aside0.mk hy197
   clear hy197
   have H' := Aside0.mk H
   clear H
   go_enter Try.func58, Try.ntmps58
   go_wp2_with (first | ((with_reducible refine gate_dst (N := 1) rfl ?_); (try (refine gate_guard (by rfl) ?_; dsimp only)); refine box_event ?hg (N := 1) ?hd (cs := #[.int .i64 a0_0, .int .i64 a0_1, .slice A0_2 l0_2.length c0_2]) (t := 27) ?hr ?_; (case hd => rfl); (case hg => rfl); (case hr => first | (go_simp; done) | (go_simp; rfl)); intro gb196 hg w4 hbox hb; have n0_ := Aside0.mk (below_step (by repeat (first | (with_reducible first | exact HB.out | apply below_alloc | apply pw_below_drewN | apply below_drew1) | exact HB.out)) hb); have n1_ := Aside0.mk (hbox); have n2_ := Aside0.mk ((by rw [hg]; exact (below_size (by repeat (first | (with_reducible first | exact HB.out | apply below_alloc | apply pw_below_drewN | apply below_drew1) | exact HB.out))) : w.heap.size ≤ gb196)); have n3_ := Aside0.mk ((by rw [hg]; exact (below_size (by repeat (first | (with_reducible first | exact HB.out | apply below_alloc | apply pw_below_drewN | apply below_drew1) | exact HB.out))) : w.heap.size ≤ gb196)); clear HB; have HB := n0_; have BK196 := n1_; have GW196 := n2_; have GE196 := n3_; clear n0_ n1_ n2_ n3_; clear hb hbox hg; have hcz5_0 : w4.cell? ⟨gb196, 0, none⟩ = some (.int .i64 a0_0) := (blk_cell BK196.out 0).trans rfl; have hcz5_1 : w4.cell? ⟨gb196, 1, none⟩ = some (.int .i64 a0_1) := (blk_cell BK196.out 1).trans rfl; have hcz5_2 : w4.cell? ⟨gb196, 2, none⟩ = some (.slice A0_2 l0_2.length c0_2) := (blk_cell BK196.out 2).trans rfl; obtain ⟨hfz5_0, hfz5_1, hfz5_2⟩ := fz3 BK196.out) | ((with_reducible refine gate_dst (N := 11) rfl ?_); (try (refine gate_guard (by rfl) ?_; dsimp only)); refine Kd.R_make Kd.bool _ 4 rfl (N := 11) rfl 31 _ _ rfl (l0_2.length : Int) rfl rfl Try.underlying31 (.bool false) 1 info4 rfl (by decide) (by omega) false (ok := fun _ => True) (okp := fun _ => True) rfl (fun _ hk => hk) trivial (of_decide_eq_true (by first | (with_reducible assumption) | assumption)) (Nat.le_trans (Nat.mul_le_mul_right _ (of_decide_eq_true (by first | (with_reducible assumption) | assumption) : (l0_2.length : Int).toNat ≤ 281474976710656)) (by omega)) (Below.refl _ _) (Nat.le_refl _) ?_; intro v198 w6 ho7 hb hg_ hnew_; clear hg_ hnew_; (first | rw [← Ny197.out] at ho7 | (simp only [Int.reduceToNat] at ho7; rw [← Ny197.out] at ho7)); have n0_ := Aside0.mk (Kd.R_lower ho7 (below_size (by repeat (first | (with_reducible first | exact HB.out | apply below_alloc | apply pw_below_drewN | apply below_drew1 | refine below_set ?_ GE196.out) | exact HB.out)))); have n1_ := Aside0.mk (blk_below (g := gb196) (o := .cells #[.int .i64 a0_0, .int .i64 a0_1, .slice A0_2 l0_2.length c0_2] 27 (0, 0)) (by (with_reducible repeat (first | refine blk_drewN ?_ _ | refine blk_drew ?_ | refine blk_alloc ?_ _)); exact BK196.out) hb); have n2_ := Aside0.mk (below_step (by repeat (first | (with_reducible first | exact HB.out | apply below_alloc | apply pw_below_drewN | apply below_drew1 | refine below_set ?_ GE196.out) | exact HB.out)) hb); clear BK196; clear HB; have HO199 := n0_; have BK196 := n1_; have HB := n2_; clear n0_ n1_ n2_; clear hb ho7))
   go_loopg [4] k (fun kq v4 w' => ∃ (x3_1 : List Bool) (x4_1 : Int), v4 = .int .i64 x4_1 ∧ Aside0 (davitref02_led.l0 kq x3_1 x4_1 a0_0 a0_1 l0_2 = some r) ∧ Aside0 (kq ≤ k) ∧ Aside0 (Kd.R Kd.bool 4 w' w.heap.size (fun _ => True) v198 x3_1) ∧ Aside0 (w'.heap[gb196]? = some (.cells #[.int .i64 a0_0, .int .i64 a0_1, (.slice A0_2 l0_2.length c0_2)] 27 (0, 0))) ∧ Aside0 (Below w.heap.size w w'))
   case atStart => exact ⟨(y197), (0), (by first | rfl | (simp; done) | (simp [*]; done)), H', ⟨Nat.le_refl _⟩, ⟨by (with_reducible repeat (first | apply Kd.R_alloc | apply Kd.R_drewN | apply Kd.R_drew)); exact HO199.out⟩, ⟨by (with_reducible repeat (first | refine blk_drewN ?_ _ | refine blk_drew ?_ | refine blk_alloc ?_ _)); exact BK196.out⟩, ⟨by repeat (first | (with_reducible first | exact HB.out | apply below_alloc | apply pw_below_drewN | apply below_drew1 | refine below_set ?_ GE196.out) | exact HB.out)⟩⟩
   case round =>
    clear H'
    try clear c2
    try clear c2b0
    try clear c2b1
    try clear p2
    try clear c3
    try clear c3b0
    try clear c3b1
    try clear c5
    try clear hcz5_0
    try clear hcz5_1
    try clear hcz5_2
    try clear hfz5_0
    try clear hfz5_1
    try clear hfz5_2
    obtain ⟨x3_1, x4_1, rfl, HA, HK1, HO_3, BK196, HB⟩ := hrel
    cases gk with
    | zero => exact absurd HA.out (by simp [davitref02_led.l0])
    | succ k1 =>
     have H := HA.out
     clear HA
     simp only [davitref02_led.l0] at H
     by_cases c8 : x4_1 < (l0_2.length : Int)
     ·rw [if_pos c8] at H
      have c8b0 : decide (x4_1 < (l0_2.length : Int)) = true := decide_eq_true c8
      clear c8
      by_cases c9 : 0 ≤ x4_1
      ·rw [if_pos c9] at H
       have c9b0 : decide (0 ≤ x4_1) = true := decide_eq_true c9
       clear c9
       obtain ⟨bq10, hbq10⟩ : ∃ b_ : Bool, b_ = ((rd_T41 l0_2 x4_1).f0) := ⟨_, rfl⟩
       replace H : (if bq10 = true then (if x4_1 < (x3_1.length : Int) then (davitref02_led.l0 k1 (x3_1.set (x4_1 : Int).toNat ((rd_T41 l0_2 x4_1).f1.f3)) (wrap64 (x4_1 + 1)) a0_0 a0_1 l0_2) else (none)) else (if x4_1 < (x3_1.length : Int) then (davitref02_led.l0 k1 (x3_1.set (x4_1 : Int).toNat false) (wrap64 (x4_1 + 1)) a0_0 a0_1 l0_2) else (none))) = some r := by rw [← hbq10] at H; exact H
       have Nbq10 := Aside0.mk hbq10
       clear hbq10
       by_cases c11 : bq10 = true
       ·subst c11
        have H1 : (if x4_1 < (x3_1.length : Int) then (davitref02_led.l0 k1 (x3_1.set (x4_1 : Int).toNat ((rd_T41 l0_2 x4_1).f1.f3)) (wrap64 (x4_1 + 1)) a0_0 a0_1 l0_2) else (none)) = some r := by rw [if_pos rfl] at H; exact H
        clear H
        have H := H1
        clear H1
        by_cases c12 : x4_1 < (x3_1.length : Int)
        ·rw [if_pos c12] at H
         have c12b0 : decide (x4_1 < (x3_1.length : Int)) = true := decide_eq_true c12
         clear c12
         obtain ⟨y202, hy202⟩ : ∃ y_ : List Bool, y_ = (x3_1.set (x4_1 : Int).toNat ((rd_T41 l0_2 x4_1).f1.f3)) := ⟨_, rfl⟩
         replace H : (davitref02_led.l0 k1 y202 (wrap64 (x4_1 + 1)) a0_0 a0_1 l0_2) = some r := by first | (rw [hy202]; with_reducible exact H) | (have H2_ := (Option.bind_some _ _).symm.trans H; rw [hy202]; with_reducible exact H2_) | (have H2_ := (Option.bind_some _ _).symm.trans H; with_reducible exact H2_) | with_reducible exact H | (rw [hy202]; exact H) | exact H
         have Ny202 := Aside0.mk hy202
         clear hy202
         have H' := Aside0.mk H
         clear H
         have hcz14_0 : wr.cell? ⟨gb196, 0, none⟩ = some (.int .i64 a0_0) := (blk_cell BK196.out 0).trans rfl
         have hcz14_1 : wr.cell? ⟨gb196, 1, none⟩ = some (.int .i64 a0_1) := (blk_cell BK196.out 1).trans rfl
         have hcz14_2 : wr.cell? ⟨gb196, 2, none⟩ = some (.slice A0_2 l0_2.length c0_2) := (blk_cell BK196.out 2).trans rfl
         obtain ⟨hfz14_0, hfz14_1, hfz14_2⟩ := fz3 BK196.out
         have p200 : 0 ≤ (x4_1 : Int) := of_decide_eq_true (by first | (with_reducible assumption) | assumption)
         have q200 : x4_1 < (l0_2.length : Int) := of_decide_eq_true (by first | (with_reducible assumption) | assumption)
         obtain ⟨ad200, A200_2, c200_2, A200_5, c200_5, A200_10, c200_10, e200, hx200_0, hx200_1, hx200_2, hx200_3, hx200_4, hx200_5, hx200_6, hx200_7, hx200_8, hx200_9, hx200_10, hx200_11, hx200_12, hx200_13, hl200_2, hi200_2, hl200_5, hi200_5, hl200_10, hi200_10⟩ := at_T41 HR0_2.out x4_1 p200 q200
         (try rw [← Nbq10.out] at hx200_0)
         (try rw [← Nbq10.out] at hx200_3)
         (try rw [← Nbq10.out] at hx200_4)
         cases e200
         replace hx200_0 := (HB.out.cell (World.block_lt_of_cell? w _ hx200_0)).trans hx200_0
         replace hx200_1 := (HB.out.cell (World.block_lt_of_cell? w _ hx200_1)).trans hx200_1
         replace hx200_2 := (HB.out.cell (World.block_lt_of_cell? w _ hx200_2)).trans hx200_2
         replace hx200_3 := (HB.out.cell (World.block_lt_of_cell? w _ hx200_3)).trans hx200_3
         replace hx200_4 := (HB.out.cell (World.block_lt_of_cell? w _ hx200_4)).trans hx200_4
         replace hx200_5 := (HB.out.cell (World.block_lt_of_cell? w _ hx200_5)).trans hx200_5
         replace hx200_6 := (HB.out.cell (World.block_lt_of_cell? w _ hx200_6)).trans hx200_6
         replace hx200_7 := (HB.out.cell (World.block_lt_of_cell? w _ hx200_7)).trans hx200_7
         replace hx200_8 := (HB.out.cell (World.block_lt_of_cell? w _ hx200_8)).trans hx200_8
         replace hx200_9 := (HB.out.cell (World.block_lt_of_cell? w _ hx200_9)).trans hx200_9
         replace hx200_10 := (HB.out.cell (World.block_lt_of_cell? w _ hx200_10)).trans hx200_10
         replace hx200_11 := (HB.out.cell (World.block_lt_of_cell? w _ hx200_11)).trans hx200_11
         replace hx200_12 := (HB.out.cell (World.block_lt_of_cell? w _ hx200_12)).trans hx200_12
         replace hx200_13 := (HB.out.cell (World.block_lt_of_cell? w _ hx200_13)).trans hx200_13
         have HR200_2 := Aside0.mk hi200_2
         have HC200_2 := Aside0.mk hl200_2
         clear hi200_2 hl200_2
         have HR200_5 := Aside0.mk hi200_5
         have HC200_5 := Aside0.mk hl200_5
         clear hi200_5 hl200_5
         have HR200_10 := Aside0.mk hi200_10
         have HC200_10 := Aside0.mk hl200_10
         clear hi200_10 hl200_10
         replace p200 := eq_true p200
         replace q200 := eq_true q200
         have p201 : 0 ≤ (x4_1 : Int) := of_decide_eq_true (by first | (with_reducible assumption) | assumption)
         have q201 : x4_1 < (l0_2.length : Int) := of_decide_eq_true (by first | (with_reducible assumption) | assumption)
         obtain ⟨ad201, A201_2, c201_2, A201_5, c201_5, A201_10, c201_10, e201, hx201_0, hx201_1, hx201_2, hx201_3, hx201_4, hx201_5, hx201_6, hx201_7, hx201_8, hx201_9, hx201_10, hx201_11, hx201_12, hx201_13, hl201_2, hi201_2, hl201_5, hi201_5, hl201_10, hi201_10⟩ := at_T41 HR0_2.out x4_1 p201 q201
         (try rw [← Nbq10.out] at hx201_0)
         (try rw [← Nbq10.out] at hx201_3)
         (try rw [← Nbq10.out] at hx201_4)
         obtain rfl : ad200 = ad201 := (by injection e201)
         replace hx201_0 := (HB.out.cell (World.block_lt_of_cell? w _ hx201_0)).trans hx201_0
         replace hx201_1 := (HB.out.cell (World.block_lt_of_cell? w _ hx201_1)).trans hx201_1
         replace hx201_2 := (HB.out.cell (World.block_lt_of_cell? w _ hx201_2)).trans hx201_2
         replace hx201_3 := (HB.out.cell (World.block_lt_of_cell? w _ hx201_3)).trans hx201_3
         replace hx201_4 := (HB.out.cell (World.block_lt_of_cell? w _ hx201_4)).trans hx201_4
         replace hx201_5 := (HB.out.cell (World.block_lt_of_cell? w _ hx201_5)).trans hx201_5
         replace hx201_6 := (HB.out.cell (World.block_lt_of_cell? w _ hx201_6)).trans hx201_6
         replace hx201_7 := (HB.out.cell (World.block_lt_of_cell? w _ hx201_7)).trans hx201_7
         replace hx201_8 := (HB.out.cell (World.block_lt_of_cell? w _ hx201_8)).trans hx201_8
         replace hx201_9 := (HB.out.cell (World.block_lt_of_cell? w _ hx201_9)).trans hx201_9
         replace hx201_10 := (HB.out.cell (World.block_lt_of_cell? w _ hx201_10)).trans hx201_10
         replace hx201_11 := (HB.out.cell (World.block_lt_of_cell? w _ hx201_11)).trans hx201_11
         replace hx201_12 := (HB.out.cell (World.block_lt_of_cell? w _ hx201_12)).trans hx201_12
         replace hx201_13 := (HB.out.cell (World.block_lt_of_cell? w _ hx201_13)).trans hx201_13
         have HR201_2 := Aside0.mk hi201_2
         have HC201_2 := Aside0.mk hl201_2
         clear hi201_2 hl201_2
         have HR201_5 := Aside0.mk hi201_5
         have HC201_5 := Aside0.mk hl201_5
         clear hi201_5 hl201_5
         have HR201_10 := Aside0.mk hi201_10
         have HC201_10 := Aside0.mk hl201_10
         clear hi201_10 hl201_10
         replace p201 := eq_true p201
         replace q201 := eq_true q201
         have ea_ := Option.some.inj (hx200_2.symm.trans hx201_2)
         injection ea_ with ea_ en_ ec_
         subst ea_
         subst ec_
         clear en_
         have ea_ := Option.some.inj (hx200_5.symm.trans hx201_5)
         injection ea_ with ea_ en_ ec_
         subst ea_
         subst ec_
         clear en_
         have ea_ := Option.some.inj (hx200_10.symm.trans hx201_10)
         injection ea_ with ea_ en_ ec_
         subst ea_
         subst ec_
         clear en_
         have p13 : 0 ≤ (x4_1 : Int) := of_decide_eq_true (by first | (with_reducible assumption) | assumption)
         have q13 : (x4_1 : Int) < ((x3_1.length : Int) : Int) := of_decide_eq_true (by first | (with_reducible assumption) | assumption)
         obtain ⟨go13, co13, eo13, gb13, gl13, cl13, HG13⟩ := Kd.R_form HO_3.out (by omega)
         (first | cases eo13 | (injection eo13 with ea_ en_ ec_; (first | subst ea_ | (injection ea_ with ea_; subst ea_)); subst ec_; clear en_))
         have GB13 := Aside0.mk gb13
         have GG13 := Aside0.mk HG13
         clear gb13 gl13 HG13
         obtain ⟨hx13_0, hf13_0⟩ := Kd.R_celln false HO_3.out (x4_1 : Int) p13 q13
         replace p13 := eq_true p13
         replace q13 := eq_true q13
         have HP15 := Kd.R_putg HO_3.out (x4_1 : Int) ((rd_T41 l0_2 x4_1).f1.f3)
         go_wp2_with (first | ((with_reducible refine gate_store (t := 4) (p := 36) rfl ?_); refine store_event (t := 4) (p := 36) (v := ?vo_w16) (w1 := (wr.setCell ⟨go13, (x4_1 : Int).toNat, none⟩ (.bool ((rd_T41 l0_2 x4_1).f1.f3)))) ?hg ?ho ?hn ?hr ?_; (case ho => rfl); (case hg => rfl); (case hn => rfl); (case hr => first | (go_simp; done) | (go_simp; rfl)); intro w16 hw; have hg : wr.grownBy w16 (some go13) := (by rw [hw]; exact HP15.2); have hp_ : Kd.R Kd.bool 4 w16 w.heap.size (fun _ => True) (.slice (some ⟨go13, 0, none⟩) x3_1.length co13) y202 := (by rw [hw, Ny202.out]; exact HP15.1); clear HP15; have n0_ := Aside0.mk (hp_); have n1_ := Aside0.mk (blk_grown (g := gb196) (o := .cells #[.int .i64 a0_0, .int .i64 a0_1, .slice (some ad200) l0_2.length c0_2] 27 (0, 0)) (by (with_reducible repeat (first | refine blk_drewN ?_ _ | refine blk_drew ?_ | refine blk_alloc ?_ _)); exact BK196.out) hg (Kd.R_ne HO_3.out BK196.out (by decide))); have n2_ := Aside0.mk ((by rw [hw]; exact below_set (HB.out) GB13.out : Below w.heap.size w w16)); clear HO_3; clear BK196; clear HB; have HO_3 := n0_; have BK196 := n1_; have HB := n2_; clear n0_ n1_ n2_; clear hg hw hp_))
         go_roundg k1
         case measure => have := HK1.out; omega
         case rel => exact ⟨(y202), (wrap64 (x4_1 + 1)), (by first | rfl | (simp; done) | (simp [*]; done)), H', ⟨by have := HK1.out; omega⟩, ⟨by (with_reducible repeat (first | apply Kd.R_alloc | apply Kd.R_drewN | apply Kd.R_drew)); exact HO_3.out⟩, ⟨by (with_reducible repeat (first | refine blk_drewN ?_ _ | refine blk_drew ?_ | refine blk_alloc ?_ _)); exact BK196.out⟩, ⟨by repeat (first | (with_reducible first | exact HB.out | apply below_alloc | apply pw_below_drewN | apply below_drew1 | refine below_set ?_ GE196.out) | exact HB.out)⟩⟩
        ·rw [if_neg c12] at H
         exact absurd H (by simp)
       ·replace c11 := Bool.eq_false_iff.mpr c11
        subst c11
        have H1 : (if x4_1 < (x3_1.length : Int) then (davitref02_led.l0 k1 (x3_1.set (x4_1 : Int).toNat false) (wrap64 (x4_1 + 1)) a0_0 a0_1 l0_2) else (none)) = some r := by rw [if_neg (show ¬ (false = true) by decide)] at H; exact H
        clear H
        have H := H1
        clear H1
        by_cases c17 : x4_1 < (x3_1.length : Int)
        ·rw [if_pos c17] at H
         have c17b0 : decide (x4_1 < (x3_1.length : Int)) = true := decide_eq_true c17
         clear c17
         obtain ⟨y203, hy203⟩ : ∃ y_ : List Bool, y_ = (x3_1.set (x4_1 : Int).toNat false) := ⟨_, rfl⟩
         replace H : (davitref02_led.l0 k1 y203 (wrap64 (x4_1 + 1)) a0_0 a0_1 l0_2) = some r := by first | (rw [hy203]; with_reducible exact H) | (have H2_ := (Option.bind_some _ _).symm.trans H; rw [hy203]; with_reducible exact H2_) | (have H2_ := (Option.bind_some _ _).symm.trans H; with_reducible exact H2_) | with_reducible exact H | (rw [hy203]; exact H) | exact H
         have Ny203 := Aside0.mk hy203
         clear hy203
         have H' := Aside0.mk H
         clear H
         have hcz19_0 : wr.cell? ⟨gb196, 0, none⟩ = some (.int .i64 a0_0) := (blk_cell BK196.out 0).trans rfl
         have hcz19_1 : wr.cell? ⟨gb196, 1, none⟩ = some (.int .i64 a0_1) := (blk_cell BK196.out 1).trans rfl
         have hcz19_2 : wr.cell? ⟨gb196, 2, none⟩ = some (.slice A0_2 l0_2.length c0_2) := (blk_cell BK196.out 2).trans rfl
         obtain ⟨hfz19_0, hfz19_1, hfz19_2⟩ := fz3 BK196.out
         have p200 : 0 ≤ (x4_1 : Int) := of_decide_eq_true (by first | (with_reducible assumption) | assumption)
         have q200 : x4_1 < (l0_2.length : Int) := of_decide_eq_true (by first | (with_reducible assumption) | assumption)
         obtain ⟨ad200, A200_2, c200_2, A200_5, c200_5, A200_10, c200_10, e200, hx200_0, hx200_1, hx200_2, hx200_3, hx200_4, hx200_5, hx200_6, hx200_7, hx200_8, hx200_9, hx200_10, hx200_11, hx200_12, hx200_13, hl200_2, hi200_2, hl200_5, hi200_5, hl200_10, hi200_10⟩ := at_T41 HR0_2.out x4_1 p200 q200
         (try rw [← Nbq10.out] at hx200_0)
         (try rw [← Nbq10.out] at hx200_3)
         (try rw [← Nbq10.out] at hx200_4)
         cases e200
         replace hx200_0 := (HB.out.cell (World.block_lt_of_cell? w _ hx200_0)).trans hx200_0
         replace hx200_1 := (HB.out.cell (World.block_lt_of_cell? w _ hx200_1)).trans hx200_1
         replace hx200_2 := (HB.out.cell (World.block_lt_of_cell? w _ hx200_2)).trans hx200_2
         replace hx200_3 := (HB.out.cell (World.block_lt_of_cell? w _ hx200_3)).trans hx200_3
         replace hx200_4 := (HB.out.cell (World.block_lt_of_cell? w _ hx200_4)).trans hx200_4
         replace hx200_5 := (HB.out.cell (World.block_lt_of_cell? w _ hx200_5)).trans hx200_5
         replace hx200_6 := (HB.out.cell (World.block_lt_of_cell? w _ hx200_6)).trans hx200_6
         replace hx200_7 := (HB.out.cell (World.block_lt_of_cell? w _ hx200_7)).trans hx200_7
         replace hx200_8 := (HB.out.cell (World.block_lt_of_cell? w _ hx200_8)).trans hx200_8
         replace hx200_9 := (HB.out.cell (World.block_lt_of_cell? w _ hx200_9)).trans hx200_9
         replace hx200_10 := (HB.out.cell (World.block_lt_of_cell? w _ hx200_10)).trans hx200_10
         replace hx200_11 := (HB.out.cell (World.block_lt_of_cell? w _ hx200_11)).trans hx200_11
         replace hx200_12 := (HB.out.cell (World.block_lt_of_cell? w _ hx200_12)).trans hx200_12
         replace hx200_13 := (HB.out.cell (World.block_lt_of_cell? w _ hx200_13)).trans hx200_13
         have HR200_2 := Aside0.mk hi200_2
         have HC200_2 := Aside0.mk hl200_2
         clear hi200_2 hl200_2
         have HR200_5 := Aside0.mk hi200_5
         have HC200_5 := Aside0.mk hl200_5
         clear hi200_5 hl200_5
         have HR200_10 := Aside0.mk hi200_10
         have HC200_10 := Aside0.mk hl200_10
         clear hi200_10 hl200_10
         replace p200 := eq_true p200
         replace q200 := eq_true q200
         have p18 : 0 ≤ (x4_1 : Int) := of_decide_eq_true (by first | (with_reducible assumption) | assumption)
         have q18 : (x4_1 : Int) < ((x3_1.length : Int) : Int) := of_decide_eq_true (by first | (with_reducible assumption) | assumption)
         obtain ⟨go18, co18, eo18, gb18, gl18, cl18, HG18⟩ := Kd.R_form HO_3.out (by omega)
         (first | cases eo18 | (injection eo18 with ea_ en_ ec_; (first | subst ea_ | (injection ea_ with ea_; subst ea_)); subst ec_; clear en_))
         have GB18 := Aside0.mk gb18
         have GG18 := Aside0.mk HG18
         clear gb18 gl18 HG18
         obtain ⟨hx18_0, hf18_0⟩ := Kd.R_celln false HO_3.out (x4_1 : Int) p18 q18
         replace p18 := eq_true p18
         replace q18 := eq_true q18
         have HP20 := Kd.R_putg HO_3.out (x4_1 : Int) false
         go_wp2_with (first | ((with_reducible refine gate_store (t := 4) (p := 36) rfl ?_); refine store_event (t := 4) (p := 36) (v := ?vo_w21) (w1 := (wr.setCell ⟨go18, (x4_1 : Int).toNat, none⟩ (.bool false))) ?hg ?ho ?hn ?hr ?_; (case ho => rfl); (case hg => rfl); (case hn => rfl); (case hr => first | (go_simp; done) | (go_simp; rfl)); intro w21 hw; have hg : wr.grownBy w21 (some go18) := (by rw [hw]; exact HP20.2); have hp_ : Kd.R Kd.bool 4 w21 w.heap.size (fun _ => True) (.slice (some ⟨go18, 0, none⟩) x3_1.length co18) y203 := (by rw [hw, Ny203.out]; exact HP20.1); clear HP20; have n0_ := Aside0.mk (hp_); have n1_ := Aside0.mk (blk_grown (g := gb196) (o := .cells #[.int .i64 a0_0, .int .i64 a0_1, .slice (some ad200) l0_2.length c0_2] 27 (0, 0)) (by (with_reducible repeat (first | refine blk_drewN ?_ _ | refine blk_drew ?_ | refine blk_alloc ?_ _)); exact BK196.out) hg (Kd.R_ne HO_3.out BK196.out (by decide))); have n2_ := Aside0.mk ((by rw [hw]; exact below_set (HB.out) GB18.out : Below w.heap.size w w21)); clear HO_3; clear BK196; clear HB; have HO_3 := n0_; have BK196 := n1_; have HB := n2_; clear n0_ n1_ n2_; clear hg hw hp_))
         go_roundg k1
         case measure => have := HK1.out; omega
         case rel => exact ⟨(y203), (wrap64 (x4_1 + 1)), (by first | rfl | (simp; done) | (simp [*]; done)), H', ⟨by have := HK1.out; omega⟩, ⟨by (with_reducible repeat (first | apply Kd.R_alloc | apply Kd.R_drewN | apply Kd.R_drew)); exact HO_3.out⟩, ⟨by (with_reducible repeat (first | refine blk_drewN ?_ _ | refine blk_drew ?_ | refine blk_alloc ?_ _)); exact BK196.out⟩, ⟨by repeat (first | (with_reducible first | exact HB.out | apply below_alloc | apply pw_below_drewN | apply below_drew1 | refine below_set ?_ GE196.out) | exact HB.out)⟩⟩
        ·rw [if_neg c17] at H
         exact absurd H (by simp)
      ·rw [if_neg c9] at H
       exact absurd H (by simp)
     ·rw [if_neg c8] at H
      have c8b0 : decide (x4_1 < (l0_2.length : Int)) = false := decide_eq_false c8
      clear c8
      have H' := Aside0.mk H
      clear H
      have hcz22_0 : wr.cell? ⟨gb196, 0, none⟩ = some (.int .i64 a0_0) := (blk_cell BK196.out 0).trans rfl
      have hcz22_1 : wr.cell? ⟨gb196, 1, none⟩ = some (.int .i64 a0_1) := (blk_cell BK196.out 1).trans rfl
      have hcz22_2 : wr.cell? ⟨gb196, 2, none⟩ = some (.slice A0_2 l0_2.length c0_2) := (blk_cell BK196.out 2).trans rfl
      obtain ⟨hfz22_0, hfz22_1, hfz22_2⟩ := fz3 BK196.out
      go_wp2
      go_loopg [5] k1 (fun kq v5 w' => ∃ (x3_2 : List Bool) (x5_2 : Int), v5 = .int .i64 x5_2 ∧ Aside0 (davitref02_led.l1 kq x3_2 x5_2 a0_0 a0_1 l0_2 = some r) ∧ Aside0 (kq ≤ k1) ∧ Aside0 (Kd.R Kd.bool 4 w' w.heap.size (fun _ => True) v198 x3_2) ∧ Aside0 (w'.heap[gb196]? = some (.cells #[.int .i64 a0_0, .int .i64 a0_1, (.slice A0_2 l0_2.length c0_2)] 27 (0, 0))) ∧ Aside0 (Below w.heap.size w w'))
      case atStart => exact ⟨(x3_1), (0), (by first | rfl | (simp; done) | (simp [*]; done)), H', ⟨Nat.le_refl _⟩, ⟨by (with_reducible repeat (first | apply Kd.R_alloc | apply Kd.R_drewN | apply Kd.R_drew)); exact HO_3.out⟩, ⟨by (with_reducible repeat (first | refine blk_drewN ?_ _ | refine blk_drew ?_ | refine blk_alloc ?_ _)); exact BK196.out⟩, ⟨by repeat (first | (with_reducible first | exact HB.out | apply below_alloc | apply pw_below_drewN | apply below_drew1 | refine below_set ?_ GE196.out) | exact HB.out)⟩⟩
      case round =>
       clear H'
       try clear c1
       try clear p1
       try clear q1
       try clear hx1
       try clear hf1
       try clear c2
       try clear c2b0
       try clear c2b1
       try clear p2
       try clear q2
       try clear hx2
       try clear c3
       try clear c3b0
       try clear c3b1
       try clear c5
       try clear p6
       try clear c8
       try clear c8b0
       try clear c9
       try clear c9b0
       try clear q10
       try clear c11
       try clear c12
       try clear c12b0
       try clear p13
       try clear q13
       try clear hx13
       try clear hf13
       try clear c17
       try clear c17b0
       try clear p18
       try clear q18
       try clear hx18
       try clear hf18
       try clear c20
       try clear p20
       try clear q20
       try clear hx20
       try clear hcz14_0
       try clear hcz14_1
       try clear hcz14_2
       try clear hcz19_0
       try clear hcz19_1
       try clear hcz19_2
       try clear hcz22_0
       try clear hcz22_1
       try clear hcz22_2
       try clear hcz5_0
       try clear hcz5_1
       try clear hcz5_2
       try clear hfz14_0
       try clear hfz14_1
       try clear hfz14_2
       try clear hfz19_0
       try clear hfz19_1
       try clear hfz19_2
       try clear hfz22_0
       try clear hfz22_1
       try clear hfz22_2
       try clear hfz5_0
       try clear hfz5_1
       try clear hfz5_2
       try clear hx13_0
       try clear hx18_0
       try clear hx200_0
       try clear hx200_1
       try clear hx200_10
       try clear hx200_11
       try clear hx200_12
       try clear hx200_13
       try clear hx200_2
       try clear hx200_3
       try clear hx200_4
       try clear hx200_5
       try clear hx200_6
       try clear hx200_7
       try clear hx200_8
       try clear hx200_9
       try clear hx201_0
       try clear hx201_1
       try clear hx201_10
       try clear hx201_11
       try clear hx201_12
       try clear hx201_13
       try clear hx201_2
       try clear hx201_3
       try clear hx201_4
       try clear hx201_5
       try clear hx201_6
       try clear hx201_7
       try clear hx201_8
       try clear hx201_9
       try clear p13
       try clear p18
       try clear p2
       try clear p200
       try clear p201
       try clear q13
       try clear q18
       try clear q200
       try clear q201
       obtain ⟨x3_2, x5_2, rfl, HA, HK2, HO_3, BK196, HB⟩ := hrel
       cases gk with
       | zero => exact absurd HA.out (by simp [davitref02_led.l1])
       | succ k2 =>
        have H := HA.out
        clear HA
        simp only [davitref02_led.l1] at H
        by_cases c23 : x5_2 < (l0_2.length : Int)
        ·rw [if_pos c23] at H
         have c23b0 : decide (x5_2 < (l0_2.length : Int)) = true := decide_eq_true c23
         clear c23
         have H' := Aside0.mk H
         clear H
         have hcz24_0 : wr.cell? ⟨gb196, 0, none⟩ = some (.int .i64 a0_0) := (blk_cell BK196.out 0).trans rfl
         have hcz24_1 : wr.cell? ⟨gb196, 1, none⟩ = some (.int .i64 a0_1) := (blk_cell BK196.out 1).trans rfl
         have hcz24_2 : wr.cell? ⟨gb196, 2, none⟩ = some (.slice A0_2 l0_2.length c0_2) := (blk_cell BK196.out 2).trans rfl
         obtain ⟨hfz24_0, hfz24_1, hfz24_2⟩ := fz3 BK196.out
         go_wp2
         go_loopg [6] k2 (fun kq v6 w' => ∃ (x3_3 : List Bool) (x6_3 : Int), v6 = .int .i64 x6_3 ∧ Aside0 (davitref02_led.l2 kq x3_3 x5_2 x6_3 a0_0 a0_1 l0_2 = some r) ∧ Aside0 (kq ≤ k2) ∧ Aside0 (Kd.R Kd.bool 4 w' w.heap.size (fun _ => True) v198 x3_3) ∧ Aside0 (w'.heap[gb196]? = some (.cells #[.int .i64 a0_0, .int .i64 a0_1, (.slice A0_2 l0_2.length c0_2)] 27 (0, 0))) ∧ Aside0 (Below w.heap.size w w'))
         case atStart => exact ⟨(x3_2), (0), (by first | rfl | (simp; done) | (simp [*]; done)), H', ⟨Nat.le_refl _⟩, ⟨by (with_reducible repeat (first | apply Kd.R_alloc | apply Kd.R_drewN | apply Kd.R_drew)); exact HO_3.out⟩, ⟨by (with_reducible repeat (first | refine blk_drewN ?_ _ | refine blk_drew ?_ | refine blk_alloc ?_ _)); exact BK196.out⟩, ⟨by repeat (first | (with_reducible first | exact HB.out | apply below_alloc | apply pw_below_drewN | apply below_drew1 | refine below_set ?_ GE196.out) | exact HB.out)⟩⟩
         case round =>
          clear H'
          try clear c1
          try clear p1
          try clear q1
          try clear hx1
          try clear hf1
          try clear c2
          try clear c2b0
          try clear c2b1
          try clear p2
          try clear q2
          try clear hx2
          try clear c3
          try clear c3b0
          try clear c3b1
          try clear c5
          try clear p6
          try clear c8
          try clear c8b0
          try clear c9
          try clear c9b0
          try clear q10
          try clear c11
          try clear c12
          try clear c12b0
          try clear p13
          try clear q13
          try clear hx13
          try clear hf13
          try clear c17
          try clear c17b0
          try clear p18
          try clear q18
          try clear hx18
          try clear hf18
          try clear c20
          try clear p20
          try clear q20
          try clear hx20
          try clear c23
          try clear c23b0
          try clear hcz14_0
          try clear hcz14_1
          try clear hcz14_2
          try clear hcz19_0
          try clear hcz19_1
          try clear hcz19_2
          try clear hcz22_0
          try clear hcz22_1
          try clear hcz22_2
          try clear hcz24_0
          try clear hcz24_1
          try clear hcz24_2
          try clear hcz5_0
          try clear hcz5_1
          try clear hcz5_2
          try clear hfz14_0
          try clear hfz14_1
          try clear hfz14_2
          try clear hfz19_0
          try clear hfz19_1
          try clear hfz19_2
          try clear hfz22_0
          try clear hfz22_1
          try clear hfz22_2
          try clear hfz24_0
          try clear hfz24_1
          try clear hfz24_2
          try clear hfz5_0
          try clear hfz5_1
          try clear hfz5_2
          try clear hx13_0
          try clear hx18_0
          try clear hx200_0
          try clear hx200_1
          try clear hx200_10
          try clear hx200_11
          try clear hx200_12
          try clear hx200_13
          try clear hx200_2
          try clear hx200_3
          try clear hx200_4
          try clear hx200_5
          try clear hx200_6
          try clear hx200_7
          try clear hx200_8
          try clear hx200_9
          try clear hx201_0
          try clear hx201_1
          try clear hx201_10
          try clear hx201_11
          try clear hx201_12
          try clear hx201_13
          try clear hx201_2
          try clear hx201_3
          try clear hx201_4
          try clear hx201_5
          try clear hx201_6
          try clear hx201_7
          try clear hx201_8
          try clear hx201_9
          try clear p1
          try clear p13
          try clear p18
          try clear p2
          try clear p20
          try clear p200
          try clear p201
          try clear p6
          try clear q1
          try clear q10
          try clear q13
          try clear q18
          try clear q2
          try clear q20
          try clear q200
          try clear q201
          obtain ⟨x3_3, x6_3, rfl, HA, HK3, HO_3, BK196, HB⟩ := hrel
          cases gk with
          | zero => exact absurd HA.out (by simp [davitref02_led.l2])
          | succ k3 =>
           have H := HA.out
           clear HA
           simp only [davitref02_led.l2] at H
           by_cases c25 : x6_3 < (l0_2.length : Int)
           ·rw [if_pos c25] at H
            have c25b0 : decide (x6_3 < (l0_2.length : Int)) = true := decide_eq_true c25
            clear c25
            by_cases c26 : 0 ≤ x6_3
            ·rw [if_pos c26] at H
             have c26b0 : decide (0 ≤ x6_3) = true := decide_eq_true c26
             clear c26
             have HC27 := Aside0.mk H
             clear H
             have hcz28_0 : wr.cell? ⟨gb196, 0, none⟩ = some (.int .i64 a0_0) := (blk_cell BK196.out 0).trans rfl
             have hcz28_1 : wr.cell? ⟨gb196, 1, none⟩ = some (.int .i64 a0_1) := (blk_cell BK196.out 1).trans rfl
             have hcz28_2 : wr.cell? ⟨gb196, 2, none⟩ = some (.slice A0_2 l0_2.length c0_2) := (blk_cell BK196.out 2).trans rfl
             obtain ⟨hfz28_0, hfz28_1, hfz28_2⟩ := fz3 BK196.out
             have p204 : 0 ≤ (x6_3 : Int) := of_decide_eq_true (by first | (with_reducible assumption) | assumption)
             have q204 : x6_3 < (l0_2.length : Int) := of_decide_eq_true (by first | (with_reducible assumption) | assumption)
             obtain ⟨ad204, A204_2, c204_2, A204_5, c204_5, A204_10, c204_10, e204, hx204_0, hx204_1, hx204_2, hx204_3, hx204_4, hx204_5, hx204_6, hx204_7, hx204_8, hx204_9, hx204_10, hx204_11, hx204_12, hx204_13, hl204_2, hi204_2, hl204_5, hi204_5, hl204_10, hi204_10⟩ := at_T41 HR0_2.out x6_3 p204 q204
             cases e204
             replace hx204_0 := (HB.out.cell (World.block_lt_of_cell? w _ hx204_0)).trans hx204_0
             replace hx204_1 := (HB.out.cell (World.block_lt_of_cell? w _ hx204_1)).trans hx204_1
             replace hx204_2 := (HB.out.cell (World.block_lt_of_cell? w _ hx204_2)).trans hx204_2
             replace hx204_3 := (HB.out.cell (World.block_lt_of_cell? w _ hx204_3)).trans hx204_3
             replace hx204_4 := (HB.out.cell (World.block_lt_of_cell? w _ hx204_4)).trans hx204_4
             replace hx204_5 := (HB.out.cell (World.block_lt_of_cell? w _ hx204_5)).trans hx204_5
             replace hx204_6 := (HB.out.cell (World.block_lt_of_cell? w _ hx204_6)).trans hx204_6
             replace hx204_7 := (HB.out.cell (World.block_lt_of_cell? w _ hx204_7)).trans hx204_7
             replace hx204_8 := (HB.out.cell (World.block_lt_of_cell? w _ hx204_8)).trans hx204_8
             replace hx204_9 := (HB.out.cell (World.block_lt_of_cell? w _ hx204_9)).trans hx204_9
             replace hx204_10 := (HB.out.cell (World.block_lt_of_cell? w _ hx204_10)).trans hx204_10
             replace hx204_11 := (HB.out.cell (World.block_lt_of_cell? w _ hx204_11)).trans hx204_11
             replace hx204_12 := (HB.out.cell (World.block_lt_of_cell? w _ hx204_12)).trans hx204_12
             replace hx204_13 := (HB.out.cell (World.block_lt_of_cell? w _ hx204_13)).trans hx204_13
             have HR204_2 := Aside0.mk hi204_2
             have HC204_2 := Aside0.mk hl204_2
             clear hi204_2 hl204_2
             have HR204_5 := Aside0.mk hi204_5
             have HC204_5 := Aside0.mk hl204_5
             clear hi204_5 hl204_5
             have HR204_10 := Aside0.mk hi204_10
             have HC204_10 := Aside0.mk hl204_10
             clear hi204_10 hl204_10
             replace p204 := eq_true p204
             replace q204 := eq_true q204
             go_upto_region 13 with (first | ((with_reducible refine gate_dst (N := 7) rfl ?_); (try (refine gate_guard (by rfl) ?_; dsimp only)); refine box_event ?hg (N := 7) ?hd (cs := #[.int .i64 0, .int .i64 0, .int .i64 0, .int .i64 0, .slice none 0 0, .int .i64 0, .int .i64 0, .int .i64 0]) (t := 39) ?hr ?_; (case hd => rfl); (case hg => rfl); (case hr => first | (go_simp; done) | (go_simp; rfl)); intro gb205 hg w29 hbox hb; have n0_ := Aside0.mk (Kd.R_below (by (with_reducible repeat (first | apply Kd.R_alloc | apply Kd.R_drewN | apply Kd.R_drew)); exact HO_3.out) hb); have n1_ := Aside0.mk (blk_below (g := gb196) (o := .cells #[.int .i64 a0_0, .int .i64 a0_1, .slice (some ad204) l0_2.length c0_2] 27 (0, 0)) (by (with_reducible repeat (first | refine blk_drewN ?_ _ | refine blk_drew ?_ | refine blk_alloc ?_ _)); exact BK196.out) hb); have n2_ := Aside0.mk (below_step (by repeat (first | (with_reducible first | exact HB.out | apply below_alloc | apply pw_below_drewN | apply below_drew1 | refine below_set ?_ GE196.out) | exact HB.out)) hb); have n3_ := Aside0.mk (hbox); have n4_ := Aside0.mk ((by rw [hg]; exact (below_size (by repeat (first | (with_reducible first | exact HB.out | apply below_alloc | apply pw_below_drewN | apply below_drew1 | refine below_set ?_ GE196.out) | exact HB.out))) : w.heap.size ≤ gb205)); have n5_ := Aside0.mk ((by rw [hg]; exact (below_size (by repeat (first | (with_reducible first | exact HB.out | apply below_alloc | apply pw_below_drewN | apply below_drew1 | refine below_set ?_ GE196.out) | exact HB.out))) : w.heap.size ≤ gb205)); have n6_ := Aside0.mk ((by rw [hg]; exact Nat.ne_of_lt (blk_lt (g := gb196) (o := .cells #[.int .i64 a0_0, .int .i64 a0_1, .slice (some ad204) l0_2.length c0_2] 27 (0, 0)) (by (with_reducible repeat (first | refine blk_drewN ?_ _ | refine blk_drew ?_ | refine blk_alloc ?_ _)); exact BK196.out)) : gb196 ≠ gb205)); have n7_ := Aside0.mk ((by rw [hg]; exact Nat.ne_of_gt (blk_lt (g := gb196) (o := .cells #[.int .i64 a0_0, .int .i64 a0_1, .slice (some ad204) l0_2.length c0_2] 27 (0, 0)) (by (with_reducible repeat (first | refine blk_drewN ?_ _ | refine blk_drew ?_ | refine blk_alloc ?_ _)); exact BK196.out)) : gb205 ≠ gb196)); clear HO_3; clear BK196; clear HB; have HO_3 := n0_; have BK196 := n1_; have HB := n2_; have BK205 := n3_; have GW205 := n4_; have GE205 := n5_; have NB196_205 := n6_; have NB205_196 := n7_; clear n0_ n1_ n2_ n3_ n4_ n5_ n6_ n7_; clear hb hbox hg; have hnb30 := NB205_196.out; have hnc30 := NB196_205.out; have hcz31_0 : w29.cell? ⟨gb205, 0, none⟩ = some (.int .i64 0) := (blk_cell BK205.out 0).trans rfl; have hcz31_1 : w29.cell? ⟨gb205, 1, none⟩ = some (.int .i64 0) := (blk_cell BK205.out 1).trans rfl; have hcz31_2 : w29.cell? ⟨gb205, 2, none⟩ = some (.int .i64 0) := (blk_cell BK205.out 2).trans rfl; have hcz31_3 : w29.cell? ⟨gb205, 3, none⟩ = some (.int .i64 0) := (blk_cell BK205.out 3).trans rfl; have hcz31_4 : w29.cell? ⟨gb205, 4, none⟩ = some (.slice none 0 0) := (blk_cell BK205.out 4).trans rfl; have hcz31_5 : w29.cell? ⟨gb205, 5, none⟩ = some (.int .i64 0) := (blk_cell BK205.out 5).trans rfl; have hcz31_6 : w29.cell? ⟨gb205, 6, none⟩ = some (.int .i64 0) := (blk_cell BK205.out 6).trans rfl; have hcz31_7 : w29.cell? ⟨gb205, 7, none⟩ = some (.int .i64 0) := (blk_cell BK205.out 7).trans rfl; obtain ⟨hfz31_0, hfz31_1, hfz31_2, hfz31_3, hfz31_4, hfz31_5, hfz31_6, hfz31_7⟩ := fz8 BK205.out))
             (try simp only [Act.put, sA_, sZ_, sS_])
             go_cut [82] (fun v82 wc => ∃ (kq : Nat) (x82_26 : Bool), v82 = .bool x82_26 ∧ Aside0 (davitref02_led.j3 kq x3_3 x5_2 x6_3 x82_26 a0_0 a0_1 l0_2 ((rd_T41 l0_2 x6_3).f3.f0) ((rd_T41 l0_2 x6_3).f3.f1) ((rd_T41 l0_2 x6_3).f3.f2) ((rd_T41 l0_2 x6_3).f3.f3) ((rd_T41 l0_2 x6_3).f3.f4) ((rd_T41 l0_2 x6_3).f3.f5) ((rd_T41 l0_2 x6_3).f3.f6) ((rd_T41 l0_2 x6_3).f3.f7) = some r) ∧ Aside0 (kq ≤ k3) ∧ Aside0 (Kd.R Kd.bool 4 wc w.heap.size (fun _ => True) v198 x3_3) ∧ Aside0 (wc.heap[gb196]? = some (.cells #[.int .i64 a0_0, .int .i64 a0_1, (.slice (some ad204) l0_2.length c0_2)] 27 (0, 0))) ∧ Aside0 (wc.heap[gb205]? = some (.cells #[.int .i64 ((rd_T41 l0_2 x6_3).f3.f0), .int .i64 ((rd_T41 l0_2 x6_3).f3.f1), .int .i64 ((rd_T41 l0_2 x6_3).f3.f2), .int .i64 ((rd_T41 l0_2 x6_3).f3.f3), (.slice A204_10 ((rd_T41 l0_2 x6_3).f3.f4).length c204_10), .int .i64 ((rd_T41 l0_2 x6_3).f3.f5), .int .i64 ((rd_T41 l0_2 x6_3).f3.f6), .int .i64 ((rd_T41 l0_2 x6_3).f3.f7)] 39 (0, 0))) ∧ Aside0 (Below w.heap.size w wc))
             case first =>
              have H := HC27.out
              clear HC27
              by_cases c32 : x6_3 < (x3_3.length : Int)
              ·rw [if_pos c32] at H
               have c32b0 : decide (x6_3 < (x3_3.length : Int)) = true := decide_eq_true c32
               clear c32
               (first | rw [c32b0] | (simp only [i64_w, i32_w]; rw [c32b0]) | skip)
               obtain ⟨bq33, hbq33⟩ : ∃ b_ : Bool, b_ = (rdOf false x3_3 x6_3) := ⟨_, rfl⟩
               replace H : (if bq33 = true then (if ((rd_T41 l0_2 x6_3).f3.f0) = 2 then ((davitref02_within.f ((rd_T41 l0_2 x6_3).f3.f5) (x3_3.length : Int)).bind fun t207 => (davitref02_led.j3 k3 x3_3 x5_2 x6_3 t207 a0_0 a0_1 l0_2 ((rd_T41 l0_2 x6_3).f3.f0) ((rd_T41 l0_2 x6_3).f3.f1) ((rd_T41 l0_2 x6_3).f3.f2) ((rd_T41 l0_2 x6_3).f3.f3) ((rd_T41 l0_2 x6_3).f3.f4) ((rd_T41 l0_2 x6_3).f3.f5) ((rd_T41 l0_2 x6_3).f3.f6) ((rd_T41 l0_2 x6_3).f3.f7))) else (if ((rd_T41 l0_2 x6_3).f3.f0) = 3 then ((davitref02_within.f ((rd_T41 l0_2 x6_3).f3.f5) (x3_3.length : Int)).bind fun t208 => (davitref02_led.j3 k3 x3_3 x5_2 x6_3 t208 a0_0 a0_1 l0_2 ((rd_T41 l0_2 x6_3).f3.f0) ((rd_T41 l0_2 x6_3).f3.f1) ((rd_T41 l0_2 x6_3).f3.f2) ((rd_T41 l0_2 x6_3).f3.f3) ((rd_T41 l0_2 x6_3).f3.f4) ((rd_T41 l0_2 x6_3).f3.f5) ((rd_T41 l0_2 x6_3).f3.f6) ((rd_T41 l0_2 x6_3).f3.f7))) else (if ((rd_T41 l0_2 x6_3).f3.f0) = 4 then ((davitref02_within.f ((rd_T41 l0_2 x6_3).f3.f5) (x3_3.length : Int)).bind fun t209 => (davitref02_led.j3 k3 x3_3 x5_2 x6_3 t209 a0_0 a0_1 l0_2 ((rd_T41 l0_2 x6_3).f3.f0) ((rd_T41 l0_2 x6_3).f3.f1) ((rd_T41 l0_2 x6_3).f3.f2) ((rd_T41 l0_2 x6_3).f3.f3) ((rd_T41 l0_2 x6_3).f3.f4) ((rd_T41 l0_2 x6_3).f3.f5) ((rd_T41 l0_2 x6_3).f3.f6) ((rd_T41 l0_2 x6_3).f3.f7))) else (davitref02_led.j3 k3 x3_3 x5_2 x6_3 false a0_0 a0_1 l0_2 ((rd_T41 l0_2 x6_3).f3.f0) ((rd_T41 l0_2 x6_3).f3.f1) ((rd_T41 l0_2 x6_3).f3.f2) ((rd_T41 l0_2 x6_3).f3.f3) ((rd_T41 l0_2 x6_3).f3.f4) ((rd_T41 l0_2 x6_3).f3.f5) ((rd_T41 l0_2 x6_3).f3.f6) ((rd_T41 l0_2 x6_3).f3.f7))))) else (davitref02_led.j3 k3 x3_3 x5_2 x6_3 false a0_0 a0_1 l0_2 ((rd_T41 l0_2 x6_3).f3.f0) ((rd_T41 l0_2 x6_3).f3.f1) ((rd_T41 l0_2 x6_3).f3.f2) ((rd_T41 l0_2 x6_3).f3.f3) ((rd_T41 l0_2 x6_3).f3.f4) ((rd_T41 l0_2 x6_3).f3.f5) ((rd_T41 l0_2 x6_3).f3.f6) ((rd_T41 l0_2 x6_3).f3.f7))) = some r := by rw [← hbq33] at H; exact H
               have Nbq33 := Aside0.mk hbq33
               clear hbq33
               by_cases c34 : bq33 = true
               ·subst c34
                have H1 : (if ((rd_T41 l0_2 x6_3).f3.f0) = 2 then ((davitref02_within.f ((rd_T41 l0_2 x6_3).f3.f5) (x3_3.length : Int)).bind fun t207 => (davitref02_led.j3 k3 x3_3 x5_2 x6_3 t207 a0_0 a0_1 l0_2 ((rd_T41 l0_2 x6_3).f3.f0) ((rd_T41 l0_2 x6_3).f3.f1) ((rd_T41 l0_2 x6_3).f3.f2) ((rd_T41 l0_2 x6_3).f3.f3) ((rd_T41 l0_2 x6_3).f3.f4) ((rd_T41 l0_2 x6_3).f3.f5) ((rd_T41 l0_2 x6_3).f3.f6) ((rd_T41 l0_2 x6_3).f3.f7))) else (if ((rd_T41 l0_2 x6_3).f3.f0) = 3 then ((davitref02_within.f ((rd_T41 l0_2 x6_3).f3.f5) (x3_3.length : Int)).bind fun t208 => (davitref02_led.j3 k3 x3_3 x5_2 x6_3 t208 a0_0 a0_1 l0_2 ((rd_T41 l0_2 x6_3).f3.f0) ((rd_T41 l0_2 x6_3).f3.f1) ((rd_T41 l0_2 x6_3).f3.f2) ((rd_T41 l0_2 x6_3).f3.f3) ((rd_T41 l0_2 x6_3).f3.f4) ((rd_T41 l0_2 x6_3).f3.f5) ((rd_T41 l0_2 x6_3).f3.f6) ((rd_T41 l0_2 x6_3).f3.f7))) else (if ((rd_T41 l0_2 x6_3).f3.f0) = 4 then ((davitref02_within.f ((rd_T41 l0_2 x6_3).f3.f5) (x3_3.length : Int)).bind fun t209 => (davitref02_led.j3 k3 x3_3 x5_2 x6_3 t209 a0_0 a0_1 l0_2 ((rd_T41 l0_2 x6_3).f3.f0) ((rd_T41 l0_2 x6_3).f3.f1) ((rd_T41 l0_2 x6_3).f3.f2) ((rd_T41 l0_2 x6_3).f3.f3) ((rd_T41 l0_2 x6_3).f3.f4) ((rd_T41 l0_2 x6_3).f3.f5) ((rd_T41 l0_2 x6_3).f3.f6) ((rd_T41 l0_2 x6_3).f3.f7))) else (davitref02_led.j3 k3 x3_3 x5_2 x6_3 false a0_0 a0_1 l0_2 ((rd_T41 l0_2 x6_3).f3.f0) ((rd_T41 l0_2 x6_3).f3.f1) ((rd_T41 l0_2 x6_3).f3.f2) ((rd_T41 l0_2 x6_3).f3.f3) ((rd_T41 l0_2 x6_3).f3.f4) ((rd_T41 l0_2 x6_3).f3.f5) ((rd_T41 l0_2 x6_3).f3.f6) ((rd_T41 l0_2 x6_3).f3.f7))))) = some r := by rw [if_pos rfl] at H; exact H
                clear H
                have H := H1
                clear H1
                by_cases c35 : ((rd_T41 l0_2 x6_3).f3.f0) = 2
                ·rw [if_pos c35] at H
                 have c35b0 : (((rd_T41 l0_2 x6_3).f3.f0) == 2) = true := beq_iff_eq.mpr c35
                 have c35b1 : (((rd_T41 l0_2 x6_3).f3.f0) != 2) = false := bne_eq_false_iff_eq.mpr c35
                 clear c35
                 replace H := Option.bind_eq_some_iff.mp H
                 obtain ⟨t207, A360, H⟩ := H
                 replace H : (davitref02_led.j3 k3 x3_3 x5_2 x6_3 t207 a0_0 a0_1 l0_2 ((rd_T41 l0_2 x6_3).f3.f0) ((rd_T41 l0_2 x6_3).f3.f1) ((rd_T41 l0_2 x6_3).f3.f2) ((rd_T41 l0_2 x6_3).f3.f3) ((rd_T41 l0_2 x6_3).f3.f4) ((rd_T41 l0_2 x6_3).f3.f5) ((rd_T41 l0_2 x6_3).f3.f6) ((rd_T41 l0_2 x6_3).f3.f7)) = some r := H
                 have A36 := Aside0.mk A360
                 clear A360
                 have H' := Aside0.mk H
                 clear H
                 obtain ⟨Ao37, co37, eo37⟩ := Kd.R_slice HO_3.out
                 subst eo37
                 have p206 : 0 ≤ (x6_3 : Int) := of_decide_eq_true (by first | (with_reducible assumption) | assumption)
                 have q206 : x6_3 < (x3_3.length : Int) := of_decide_eq_true (by first | (with_reducible assumption) | assumption)
                 obtain ⟨ad206, e206, hx206_0⟩ := Kd.at_bool (Kd.R_reads' HO_3.out).2.2 x6_3 p206 q206
                 (try rw [← Nbq33.out] at hx206_0)
                 cases e206
                 have hn206_0 : ad206.block ≠ gb205 := Kd.own_blk (Kd.R_ne HO_3.out BK205.out (by decide))
                 have hn206_1 : ad206.block ≠ gb205 := Kd.own_blk (Kd.R_ne HO_3.out BK205.out (by decide))
                 have hn206_2 : ad206.block ≠ gb205 := Kd.own_blk (Kd.R_ne HO_3.out BK205.out (by decide))
                 have hn206_3 : ad206.block ≠ gb205 := Kd.own_blk (Kd.R_ne HO_3.out BK205.out (by decide))
                 have hn206_4 : ad206.block ≠ gb205 := Kd.own_blk (Kd.R_ne HO_3.out BK205.out (by decide))
                 have hn206_5 : ad206.block ≠ gb205 := Kd.own_blk (Kd.R_ne HO_3.out BK205.out (by decide))
                 have hn206_6 : ad206.block ≠ gb205 := Kd.own_blk (Kd.R_ne HO_3.out BK205.out (by decide))
                 have hn206_7 : ad206.block ≠ gb205 := Kd.own_blk (Kd.R_ne HO_3.out BK205.out (by decide))
                 replace hx206_0 := (cell_far (p := ⟨gb205, 0, none⟩) (by first | (rw [add_block]; exact hn206_0) | (show (Addr.add _ _).block ≠ _; rw [add_block]; exact hn206_0) | exact hn206_0) (.int .i64 ((rd_T41 l0_2 x6_3).f3.f0))).trans hx206_0
                 replace hx206_0 := (cell_far (p := ⟨gb205, 1, none⟩) (by first | (rw [add_block]; exact hn206_1) | (show (Addr.add _ _).block ≠ _; rw [add_block]; exact hn206_1) | exact hn206_1) (.int .i64 ((rd_T41 l0_2 x6_3).f3.f1))).trans hx206_0
                 replace hx206_0 := (cell_far (p := ⟨gb205, 2, none⟩) (by first | (rw [add_block]; exact hn206_2) | (show (Addr.add _ _).block ≠ _; rw [add_block]; exact hn206_2) | exact hn206_2) (.int .i64 ((rd_T41 l0_2 x6_3).f3.f2))).trans hx206_0
                 replace hx206_0 := (cell_far (p := ⟨gb205, 3, none⟩) (by first | (rw [add_block]; exact hn206_3) | (show (Addr.add _ _).block ≠ _; rw [add_block]; exact hn206_3) | exact hn206_3) (.int .i64 ((rd_T41 l0_2 x6_3).f3.f3))).trans hx206_0
                 replace hx206_0 := (cell_far (p := ⟨gb205, 4, none⟩) (by first | (rw [add_block]; exact hn206_4) | (show (Addr.add _ _).block ≠ _; rw [add_block]; exact hn206_4) | exact hn206_4) (.slice A204_10 ((rd_T41 l0_2 x6_3).f3.f4).length c204_10)).trans hx206_0
                 replace hx206_0 := (cell_far (p := ⟨gb205, 5, none⟩) (by first | (rw [add_block]; exact hn206_5) | (show (Addr.add _ _).block ≠ _; rw [add_block]; exact hn206_5) | exact hn206_5) (.int .i64 ((rd_T41 l0_2 x6_3).f3.f5))).trans hx206_0
                 replace hx206_0 := (cell_far (p := ⟨gb205, 6, none⟩) (by first | (rw [add_block]; exact hn206_6) | (show (Addr.add _ _).block ≠ _; rw [add_block]; exact hn206_6) | exact hn206_6) (.int .i64 ((rd_T41 l0_2 x6_3).f3.f6))).trans hx206_0
                 replace hx206_0 := (cell_far (p := ⟨gb205, 7, none⟩) (by first | (rw [add_block]; exact hn206_7) | (show (Addr.add _ _).block ≠ _; rw [add_block]; exact hn206_7) | exact hn206_7) (.int .i64 ((rd_T41 l0_2 x6_3).f3.f7))).trans hx206_0
                 clear hn206_0
                 clear hn206_1
                 clear hn206_2
                 clear hn206_3
                 clear hn206_4
                 clear hn206_5
                 clear hn206_6
                 clear hn206_7
                 replace p206 := eq_true p206
                 replace q206 := eq_true q206
                 have hnb38 := NB205_196.out
                 have hnc38 := NB196_205.out
                 have hcz39_0 : w29.cell? ⟨gb205, 0, none⟩ = some (.int .i64 0) := (blk_cell BK205.out 0).trans rfl
                 have hcz39_1 : w29.cell? ⟨gb205, 1, none⟩ = some (.int .i64 0) := (blk_cell BK205.out 1).trans rfl
                 have hcz39_2 : w29.cell? ⟨gb205, 2, none⟩ = some (.int .i64 0) := (blk_cell BK205.out 2).trans rfl
                 have hcz39_3 : w29.cell? ⟨gb205, 3, none⟩ = some (.int .i64 0) := (blk_cell BK205.out 3).trans rfl
                 have hcz39_4 : w29.cell? ⟨gb205, 4, none⟩ = some (.slice none 0 0) := (blk_cell BK205.out 4).trans rfl
                 have hcz39_5 : w29.cell? ⟨gb205, 5, none⟩ = some (.int .i64 0) := (blk_cell BK205.out 5).trans rfl
                 have hcz39_6 : w29.cell? ⟨gb205, 6, none⟩ = some (.int .i64 0) := (blk_cell BK205.out 6).trans rfl
                 have hcz39_7 : w29.cell? ⟨gb205, 7, none⟩ = some (.int .i64 0) := (blk_cell BK205.out 7).trans rfl
                 obtain ⟨hfz39_0, hfz39_1, hfz39_2, hfz39_3, hfz39_4, hfz39_5, hfz39_6, hfz39_7⟩ := fz8 BK205.out
                 go_wp2_with (first | (go_at_call 88; (with_reducible refine (davitref02_within.calls ((rd_T41 l0_2 x6_3).f3.f5) (x3_3.length : Int) t207 _ A36.out).mono ?_); rintro e w' ⟨rfl, ⟨nd, rfl⟩⟩))
                 go_meet
                 case rel => exact ⟨_, (t207), (by first | rfl | (simp; done) | (simp [*]; done)), H', ⟨by have := HK1.out; have := HK2.out; have := HK3.out; first | omega | exact Nat.le_refl _⟩, ⟨by (with_reducible repeat (first | apply Kd.R_alloc | apply Kd.R_drewN | apply Kd.R_drew)); exact Kd.R_mono (Kd.R_far (p := ⟨gb205, 7, none⟩) (Kd.R_far (p := ⟨gb205, 6, none⟩) (Kd.R_far (p := ⟨gb205, 5, none⟩) (Kd.R_far (p := ⟨gb205, 4, none⟩) (Kd.R_far (p := ⟨gb205, 3, none⟩) (Kd.R_far (p := ⟨gb205, 2, none⟩) (Kd.R_far (p := ⟨gb205, 1, none⟩) (Kd.R_far (p := ⟨gb205, 0, none⟩) (Kd.R_types HO_3.out BK205.out (by decide)) (fun _ hk => hk.2) (.int .i64 ((rd_T41 l0_2 x6_3).f3.f0))) (fun _ hk => hk.2) (.int .i64 ((rd_T41 l0_2 x6_3).f3.f1))) (fun _ hk => hk.2) (.int .i64 ((rd_T41 l0_2 x6_3).f3.f2))) (fun _ hk => hk.2) (.int .i64 ((rd_T41 l0_2 x6_3).f3.f3))) (fun _ hk => hk.2) (.slice A204_10 ((rd_T41 l0_2 x6_3).f3.f4).length c204_10)) (fun _ hk => hk.2) (.int .i64 ((rd_T41 l0_2 x6_3).f3.f5))) (fun _ hk => hk.2) (.int .i64 ((rd_T41 l0_2 x6_3).f3.f6))) (fun _ hk => hk.2) (.int .i64 ((rd_T41 l0_2 x6_3).f3.f7))) (fun _ hk => trivial)⟩, ⟨by (with_reducible repeat (first | refine blk_drewN ?_ _ | refine blk_drew ?_ | refine blk_alloc ?_ _)); refine blk_far ?_ NB196_205.out _; (with_reducible repeat (first | refine blk_drewN ?_ _ | refine blk_drew ?_ | refine blk_alloc ?_ _)); refine blk_far ?_ NB196_205.out _; (with_reducible repeat (first | refine blk_drewN ?_ _ | refine blk_drew ?_ | refine blk_alloc ?_ _)); refine blk_far ?_ NB196_205.out _; (with_reducible repeat (first | refine blk_drewN ?_ _ | refine blk_drew ?_ | refine blk_alloc ?_ _)); refine blk_far ?_ NB196_205.out _; (with_reducible repeat (first | refine blk_drewN ?_ _ | refine blk_drew ?_ | refine blk_alloc ?_ _)); refine blk_far ?_ NB196_205.out _; (with_reducible repeat (first | refine blk_drewN ?_ _ | refine blk_drew ?_ | refine blk_alloc ?_ _)); refine blk_far ?_ NB196_205.out _; (with_reducible repeat (first | refine blk_drewN ?_ _ | refine blk_drew ?_ | refine blk_alloc ?_ _)); refine blk_far ?_ NB196_205.out _; (with_reducible repeat (first | refine blk_drewN ?_ _ | refine blk_drew ?_ | refine blk_alloc ?_ _)); refine blk_far ?_ NB196_205.out _; (with_reducible repeat (first | refine blk_drewN ?_ _ | refine blk_drew ?_ | refine blk_alloc ?_ _)); exact BK196.out⟩, ⟨by (with_reducible repeat (first | refine blk_drewN ?_ _ | refine blk_drew ?_ | refine blk_alloc ?_ _)); refine blk_put (cs := #[.int .i64 ((rd_T41 l0_2 x6_3).f3.f0), .int .i64 ((rd_T41 l0_2 x6_3).f3.f1), .int .i64 ((rd_T41 l0_2 x6_3).f3.f2), .int .i64 ((rd_T41 l0_2 x6_3).f3.f3), .slice A204_10 ((rd_T41 l0_2 x6_3).f3.f4).length c204_10, .int .i64 ((rd_T41 l0_2 x6_3).f3.f5), .int .i64 ((rd_T41 l0_2 x6_3).f3.f6), .int .i64 0]) ?_ 7 _ rfl; (with_reducible repeat (first | refine blk_drewN ?_ _ | refine blk_drew ?_ | refine blk_alloc ?_ _)); refine blk_put (cs := #[.int .i64 ((rd_T41 l0_2 x6_3).f3.f0), .int .i64 ((rd_T41 l0_2 x6_3).f3.f1), .int .i64 ((rd_T41 l0_2 x6_3).f3.f2), .int .i64 ((rd_T41 l0_2 x6_3).f3.f3), .slice A204_10 ((rd_T41 l0_2 x6_3).f3.f4).length c204_10, .int .i64 ((rd_T41 l0_2 x6_3).f3.f5), .int .i64 0, .int .i64 0]) ?_ 6 _ rfl; (with_reducible repeat (first | refine blk_drewN ?_ _ | refine blk_drew ?_ | refine blk_alloc ?_ _)); refine blk_put (cs := #[.int .i64 ((rd_T41 l0_2 x6_3).f3.f0), .int .i64 ((rd_T41 l0_2 x6_3).f3.f1), .int .i64 ((rd_T41 l0_2 x6_3).f3.f2), .int .i64 ((rd_T41 l0_2 x6_3).f3.f3), .slice A204_10 ((rd_T41 l0_2 x6_3).f3.f4).length c204_10, .int .i64 0, .int .i64 0, .int .i64 0]) ?_ 5 _ rfl; (with_reducible repeat (first | refine blk_drewN ?_ _ | refine blk_drew ?_ | refine blk_alloc ?_ _)); refine blk_put (cs := #[.int .i64 ((rd_T41 l0_2 x6_3).f3.f0), .int .i64 ((rd_T41 l0_2 x6_3).f3.f1), .int .i64 ((rd_T41 l0_2 x6_3).f3.f2), .int .i64 ((rd_T41 l0_2 x6_3).f3.f3), .slice none 0 0, .int .i64 0, .int .i64 0, .int .i64 0]) ?_ 4 _ rfl; (with_reducible repeat (first | refine blk_drewN ?_ _ | refine blk_drew ?_ | refine blk_alloc ?_ _)); refine blk_put (cs := #[.int .i64 ((rd_T41 l0_2 x6_3).f3.f0), .int .i64 ((rd_T41 l0_2 x6_3).f3.f1), .int .i64 ((rd_T41 l0_2 x6_3).f3.f2), .int .i64 0, .slice none 0 0, .int .i64 0, .int .i64 0, .int .i64 0]) ?_ 3 _ rfl; (with_reducible repeat (first | refine blk_drewN ?_ _ | refine blk_drew ?_ | refine blk_alloc ?_ _)); refine blk_put (cs := #[.int .i64 ((rd_T41 l0_2 x6_3).f3.f0), .int .i64 ((rd_T41 l0_2 x6_3).f3.f1), .int .i64 0, .int .i64 0, .slice none 0 0, .int .i64 0, .int .i64 0, .int .i64 0]) ?_ 2 _ rfl; (with_reducible repeat (first | refine blk_drewN ?_ _ | refine blk_drew ?_ | refine blk_alloc ?_ _)); refine blk_put (cs := #[.int .i64 ((rd_T41 l0_2 x6_3).f3.f0), .int .i64 0, .int .i64 0, .int .i64 0, .slice none 0 0, .int .i64 0, .int .i64 0, .int .i64 0]) ?_ 1 _ rfl; (with_reducible repeat (first | refine blk_drewN ?_ _ | refine blk_drew ?_ | refine blk_alloc ?_ _)); refine blk_put (cs := #[.int .i64 0, .int .i64 0, .int .i64 0, .int .i64 0, .slice none 0 0, .int .i64 0, .int .i64 0, .int .i64 0]) ?_ 0 _ rfl; (with_reducible repeat (first | refine blk_drewN ?_ _ | refine blk_drew ?_ | refine blk_alloc ?_ _)); exact BK205.out⟩, ⟨by repeat (first | (with_reducible first | exact HB.out | apply below_alloc | apply pw_below_drewN | apply below_drew1 | refine below_set ?_ GE196.out | refine below_set ?_ GE205.out) | exact HB.out)⟩⟩
                ·rw [if_neg c35] at H
                 have c35b0 : (((rd_T41 l0_2 x6_3).f3.f0) == 2) = false := beq_eq_false_iff_ne.mpr c35
                 have c35b1 : (((rd_T41 l0_2 x6_3).f3.f0) != 2) = true := bne_iff_ne.mpr c35
                 by_cases c40 : ((rd_T41 l0_2 x6_3).f3.f0) = 3
                 ·rw [if_pos c40] at H
                  have c40b0 : (((rd_T41 l0_2 x6_3).f3.f0) == 3) = true := beq_iff_eq.mpr c40
                  have c40b1 : (((rd_T41 l0_2 x6_3).f3.f0) != 3) = false := bne_eq_false_iff_eq.mpr c40
                  clear c40
                  replace H := Option.bind_eq_some_iff.mp H
                  obtain ⟨t208, A410, H⟩ := H
                  replace H : (davitref02_led.j3 k3 x3_3 x5_2 x6_3 t208 a0_0 a0_1 l0_2 ((rd_T41 l0_2 x6_3).f3.f0) ((rd_T41 l0_2 x6_3).f3.f1) ((rd_T41 l0_2 x6_3).f3.f2) ((rd_T41 l0_2 x6_3).f3.f3) ((rd_T41 l0_2 x6_3).f3.f4) ((rd_T41 l0_2 x6_3).f3.f5) ((rd_T41 l0_2 x6_3).f3.f6) ((rd_T41 l0_2 x6_3).f3.f7)) = some r := H
                  have A41 := Aside0.mk A410
                  clear A410
                  have H' := Aside0.mk H
                  clear H
                  obtain ⟨Ao42, co42, eo42⟩ := Kd.R_slice HO_3.out
                  subst eo42
                  have p206 : 0 ≤ (x6_3 : Int) := of_decide_eq_true (by first | (with_reducible assumption) | assumption)
                  have q206 : x6_3 < (x3_3.length : Int) := of_decide_eq_true (by first | (with_reducible assumption) | assumption)
                  obtain ⟨ad206, e206, hx206_0⟩ := Kd.at_bool (Kd.R_reads' HO_3.out).2.2 x6_3 p206 q206
                  (try rw [← Nbq33.out] at hx206_0)
                  cases e206
                  have hn206_0 : ad206.block ≠ gb205 := Kd.own_blk (Kd.R_ne HO_3.out BK205.out (by decide))
                  have hn206_1 : ad206.block ≠ gb205 := Kd.own_blk (Kd.R_ne HO_3.out BK205.out (by decide))
                  have hn206_2 : ad206.block ≠ gb205 := Kd.own_blk (Kd.R_ne HO_3.out BK205.out (by decide))
                  have hn206_3 : ad206.block ≠ gb205 := Kd.own_blk (Kd.R_ne HO_3.out BK205.out (by decide))
                  have hn206_4 : ad206.block ≠ gb205 := Kd.own_blk (Kd.R_ne HO_3.out BK205.out (by decide))
                  have hn206_5 : ad206.block ≠ gb205 := Kd.own_blk (Kd.R_ne HO_3.out BK205.out (by decide))
                  have hn206_6 : ad206.block ≠ gb205 := Kd.own_blk (Kd.R_ne HO_3.out BK205.out (by decide))
                  have hn206_7 : ad206.block ≠ gb205 := Kd.own_blk (Kd.R_ne HO_3.out BK205.out (by decide))
                  replace hx206_0 := (cell_far (p := ⟨gb205, 0, none⟩) (by first | (rw [add_block]; exact hn206_0) | (show (Addr.add _ _).block ≠ _; rw [add_block]; exact hn206_0) | exact hn206_0) (.int .i64 ((rd_T41 l0_2 x6_3).f3.f0))).trans hx206_0
                  replace hx206_0 := (cell_far (p := ⟨gb205, 1, none⟩) (by first | (rw [add_block]; exact hn206_1) | (show (Addr.add _ _).block ≠ _; rw [add_block]; exact hn206_1) | exact hn206_1) (.int .i64 ((rd_T41 l0_2 x6_3).f3.f1))).trans hx206_0
                  replace hx206_0 := (cell_far (p := ⟨gb205, 2, none⟩) (by first | (rw [add_block]; exact hn206_2) | (show (Addr.add _ _).block ≠ _; rw [add_block]; exact hn206_2) | exact hn206_2) (.int .i64 ((rd_T41 l0_2 x6_3).f3.f2))).trans hx206_0
                  replace hx206_0 := (cell_far (p := ⟨gb205, 3, none⟩) (by first | (rw [add_block]; exact hn206_3) | (show (Addr.add _ _).block ≠ _; rw [add_block]; exact hn206_3) | exact hn206_3) (.int .i64 ((rd_T41 l0_2 x6_3).f3.f3))).trans hx206_0
                  replace hx206_0 := (cell_far (p := ⟨gb205, 4, none⟩) (by first | (rw [add_block]; exact hn206_4) | (show (Addr.add _ _).block ≠ _; rw [add_block]; exact hn206_4) | exact hn206_4) (.slice A204_10 ((rd_T41 l0_2 x6_3).f3.f4).length c204_10)).trans hx206_0
                  replace hx206_0 := (cell_far (p := ⟨gb205, 5, none⟩) (by first | (rw [add_block]; exact hn206_5) | (show (Addr.add _ _).block ≠ _; rw [add_block]; exact hn206_5) | exact hn206_5) (.int .i64 ((rd_T41 l0_2 x6_3).f3.f5))).trans hx206_0
                  replace hx206_0 := (cell_far (p := ⟨gb205, 6, none⟩) (by first | (rw [add_block]; exact hn206_6) | (show (Addr.add _ _).block ≠ _; rw [add_block]; exact hn206_6) | exact hn206_6) (.int .i64 ((rd_T41 l0_2 x6_3).f3.f6))).trans hx206_0
                  replace hx206_0 := (cell_far (p := ⟨gb205, 7, none⟩) (by first | (rw [add_block]; exact hn206_7) | (show (Addr.add _ _).block ≠ _; rw [add_block]; exact hn206_7) | exact hn206_7) (.int .i64 ((rd_T41 l0_2 x6_3).f3.f7))).trans hx206_0
                  clear hn206_0
                  clear hn206_1
                  clear hn206_2
                  clear hn206_3
                  clear hn206_4
                  clear hn206_5
                  clear hn206_6
                  clear hn206_7
                  replace p206 := eq_true p206
                  replace q206 := eq_true q206
                  have hnb43 := NB205_196.out
                  have hnc43 := NB196_205.out
                  have hcz44_0 : w29.cell? ⟨gb205, 0, none⟩ = some (.int .i64 0) := (blk_cell BK205.out 0).trans rfl
                  have hcz44_1 : w29.cell? ⟨gb205, 1, none⟩ = some (.int .i64 0) := (blk_cell BK205.out 1).trans rfl
                  have hcz44_2 : w29.cell? ⟨gb205, 2, none⟩ = some (.int .i64 0) := (blk_cell BK205.out 2).trans rfl
                  have hcz44_3 : w29.cell? ⟨gb205, 3, none⟩ = some (.int .i64 0) := (blk_cell BK205.out 3).trans rfl
                  have hcz44_4 : w29.cell? ⟨gb205, 4, none⟩ = some (.slice none 0 0) := (blk_cell BK205.out 4).trans rfl
                  have hcz44_5 : w29.cell? ⟨gb205, 5, none⟩ = some (.int .i64 0) := (blk_cell BK205.out 5).trans rfl
                  have hcz44_6 : w29.cell? ⟨gb205, 6, none⟩ = some (.int .i64 0) := (blk_cell BK205.out 6).trans rfl
                  have hcz44_7 : w29.cell? ⟨gb205, 7, none⟩ = some (.int .i64 0) := (blk_cell BK205.out 7).trans rfl
                  obtain ⟨hfz44_0, hfz44_1, hfz44_2, hfz44_3, hfz44_4, hfz44_5, hfz44_6, hfz44_7⟩ := fz8 BK205.out
                  go_wp2_with (first | (go_at_call 88; (with_reducible refine (davitref02_within.calls ((rd_T41 l0_2 x6_3).f3.f5) (x3_3.length : Int) t208 _ A41.out).mono ?_); rintro e w' ⟨rfl, ⟨nd, rfl⟩⟩))
                  go_meet
                  case rel => exact ⟨_, (t208), (by first | rfl | (simp; done) | (simp [*]; done)), H', ⟨by have := HK1.out; have := HK2.out; have := HK3.out; first | omega | exact Nat.le_refl _⟩, ⟨by (with_reducible repeat (first | apply Kd.R_alloc | apply Kd.R_drewN | apply Kd.R_drew)); exact Kd.R_mono (Kd.R_far (p := ⟨gb205, 7, none⟩) (Kd.R_far (p := ⟨gb205, 6, none⟩) (Kd.R_far (p := ⟨gb205, 5, none⟩) (Kd.R_far (p := ⟨gb205, 4, none⟩) (Kd.R_far (p := ⟨gb205, 3, none⟩) (Kd.R_far (p := ⟨gb205, 2, none⟩) (Kd.R_far (p := ⟨gb205, 1, none⟩) (Kd.R_far (p := ⟨gb205, 0, none⟩) (Kd.R_types HO_3.out BK205.out (by decide)) (fun _ hk => hk.2) (.int .i64 ((rd_T41 l0_2 x6_3).f3.f0))) (fun _ hk => hk.2) (.int .i64 ((rd_T41 l0_2 x6_3).f3.f1))) (fun _ hk => hk.2) (.int .i64 ((rd_T41 l0_2 x6_3).f3.f2))) (fun _ hk => hk.2) (.int .i64 ((rd_T41 l0_2 x6_3).f3.f3))) (fun _ hk => hk.2) (.slice A204_10 ((rd_T41 l0_2 x6_3).f3.f4).length c204_10)) (fun _ hk => hk.2) (.int .i64 ((rd_T41 l0_2 x6_3).f3.f5))) (fun _ hk => hk.2) (.int .i64 ((rd_T41 l0_2 x6_3).f3.f6))) (fun _ hk => hk.2) (.int .i64 ((rd_T41 l0_2 x6_3).f3.f7))) (fun _ hk => trivial)⟩, ⟨by (with_reducible repeat (first | refine blk_drewN ?_ _ | refine blk_drew ?_ | refine blk_alloc ?_ _)); refine blk_far ?_ NB196_205.out _; (with_reducible repeat (first | refine blk_drewN ?_ _ | refine blk_drew ?_ | refine blk_alloc ?_ _)); refine blk_far ?_ NB196_205.out _; (with_reducible repeat (first | refine blk_drewN ?_ _ | refine blk_drew ?_ | refine blk_alloc ?_ _)); refine blk_far ?_ NB196_205.out _; (with_reducible repeat (first | refine blk_drewN ?_ _ | refine blk_drew ?_ | refine blk_alloc ?_ _)); refine blk_far ?_ NB196_205.out _; (with_reducible repeat (first | refine blk_drewN ?_ _ | refine blk_drew ?_ | refine blk_alloc ?_ _)); refine blk_far ?_ NB196_205.out _; (with_reducible repeat (first | refine blk_drewN ?_ _ | refine blk_drew ?_ | refine blk_alloc ?_ _)); refine blk_far ?_ NB196_205.out _; (with_reducible repeat (first | refine blk_drewN ?_ _ | refine blk_drew ?_ | refine blk_alloc ?_ _)); refine blk_far ?_ NB196_205.out _; (with_reducible repeat (first | refine blk_drewN ?_ _ | refine blk_drew ?_ | refine blk_alloc ?_ _)); refine blk_far ?_ NB196_205.out _; (with_reducible repeat (first | refine blk_drewN ?_ _ | refine blk_drew ?_ | refine blk_alloc ?_ _)); exact BK196.out⟩, ⟨by (with_reducible repeat (first | refine blk_drewN ?_ _ | refine blk_drew ?_ | refine blk_alloc ?_ _)); refine blk_put (cs := #[.int .i64 ((rd_T41 l0_2 x6_3).f3.f0), .int .i64 ((rd_T41 l0_2 x6_3).f3.f1), .int .i64 ((rd_T41 l0_2 x6_3).f3.f2), .int .i64 ((rd_T41 l0_2 x6_3).f3.f3), .slice A204_10 ((rd_T41 l0_2 x6_3).f3.f4).length c204_10, .int .i64 ((rd_T41 l0_2 x6_3).f3.f5), .int .i64 ((rd_T41 l0_2 x6_3).f3.f6), .int .i64 0]) ?_ 7 _ rfl; (with_reducible repeat (first | refine blk_drewN ?_ _ | refine blk_drew ?_ | refine blk_alloc ?_ _)); refine blk_put (cs := #[.int .i64 ((rd_T41 l0_2 x6_3).f3.f0), .int .i64 ((rd_T41 l0_2 x6_3).f3.f1), .int .i64 ((rd_T41 l0_2 x6_3).f3.f2), .int .i64 ((rd_T41 l0_2 x6_3).f3.f3), .slice A204_10 ((rd_T41 l0_2 x6_3).f3.f4).length c204_10, .int .i64 ((rd_T41 l0_2 x6_3).f3.f5), .int .i64 0, .int .i64 0]) ?_ 6 _ rfl; (with_reducible repeat (first | refine blk_drewN ?_ _ | refine blk_drew ?_ | refine blk_alloc ?_ _)); refine blk_put (cs := #[.int .i64 ((rd_T41 l0_2 x6_3).f3.f0), .int .i64 ((rd_T41 l0_2 x6_3).f3.f1), .int .i64 ((rd_T41 l0_2 x6_3).f3.f2), .int .i64 ((rd_T41 l0_2 x6_3).f3.f3), .slice A204_10 ((rd_T41 l0_2 x6_3).f3.f4).length c204_10, .int .i64 0, .int .i64 0, .int .i64 0]) ?_ 5 _ rfl; (with_reducible repeat (first | refine blk_drewN ?_ _ | refine blk_drew ?_ | refine blk_alloc ?_ _)); refine blk_put (cs := #[.int .i64 ((rd_T41 l0_2 x6_3).f3.f0), .int .i64 ((rd_T41 l0_2 x6_3).f3.f1), .int .i64 ((rd_T41 l0_2 x6_3).f3.f2), .int .i64 ((rd_T41 l0_2 x6_3).f3.f3), .slice none 0 0, .int .i64 0, .int .i64 0, .int .i64 0]) ?_ 4 _ rfl; (with_reducible repeat (first | refine blk_drewN ?_ _ | refine blk_drew ?_ | refine blk_alloc ?_ _)); refine blk_put (cs := #[.int .i64 ((rd_T41 l0_2 x6_3).f3.f0), .int .i64 ((rd_T41 l0_2 x6_3).f3.f1), .int .i64 ((rd_T41 l0_2 x6_3).f3.f2), .int .i64 0, .slice none 0 0, .int .i64 0, .int .i64 0, .int .i64 0]) ?_ 3 _ rfl; (with_reducible repeat (first | refine blk_drewN ?_ _ | refine blk_drew ?_ | refine blk_alloc ?_ _)); refine blk_put (cs := #[.int .i64 ((rd_T41 l0_2 x6_3).f3.f0), .int .i64 ((rd_T41 l0_2 x6_3).f3.f1), .int .i64 0, .int .i64 0, .slice none 0 0, .int .i64 0, .int .i64 0, .int .i64 0]) ?_ 2 _ rfl; (with_reducible repeat (first | refine blk_drewN ?_ _ | refine blk_drew ?_ | refine blk_alloc ?_ _)); refine blk_put (cs := #[.int .i64 ((rd_T41 l0_2 x6_3).f3.f0), .int .i64 0, .int .i64 0, .int .i64 0, .slice none 0 0, .int .i64 0, .int .i64 0, .int .i64 0]) ?_ 1 _ rfl; (with_reducible repeat (first | refine blk_drewN ?_ _ | refine blk_drew ?_ | refine blk_alloc ?_ _)); refine blk_put (cs := #[.int .i64 0, .int .i64 0, .int .i64 0, .int .i64 0, .slice none 0 0, .int .i64 0, .int .i64 0, .int .i64 0]) ?_ 0 _ rfl; (with_reducible repeat (first | refine blk_drewN ?_ _ | refine blk_drew ?_ | refine blk_alloc ?_ _)); exact BK205.out⟩, ⟨by repeat (first | (with_reducible first | exact HB.out | apply below_alloc | apply pw_below_drewN | apply below_drew1 | refine below_set ?_ GE196.out | refine below_set ?_ GE205.out) | exact HB.out)⟩⟩
                 ·rw [if_neg c40] at H
                  have c40b0 : (((rd_T41 l0_2 x6_3).f3.f0) == 3) = false := beq_eq_false_iff_ne.mpr c40
                  have c40b1 : (((rd_T41 l0_2 x6_3).f3.f0) != 3) = true := bne_iff_ne.mpr c40
                  by_cases c45 : ((rd_T41 l0_2 x6_3).f3.f0) = 4
                  ·rw [if_pos c45] at H
                   have c45b0 : (((rd_T41 l0_2 x6_3).f3.f0) == 4) = true := beq_iff_eq.mpr c45
                   have c45b1 : (((rd_T41 l0_2 x6_3).f3.f0) != 4) = false := bne_eq_false_iff_eq.mpr c45
                   clear c45
                   replace H := Option.bind_eq_some_iff.mp H
                   obtain ⟨t209, A460, H⟩ := H
                   replace H : (davitref02_led.j3 k3 x3_3 x5_2 x6_3 t209 a0_0 a0_1 l0_2 ((rd_T41 l0_2 x6_3).f3.f0) ((rd_T41 l0_2 x6_3).f3.f1) ((rd_T41 l0_2 x6_3).f3.f2) ((rd_T41 l0_2 x6_3).f3.f3) ((rd_T41 l0_2 x6_3).f3.f4) ((rd_T41 l0_2 x6_3).f3.f5) ((rd_T41 l0_2 x6_3).f3.f6) ((rd_T41 l0_2 x6_3).f3.f7)) = some r := H
                   have A46 := Aside0.mk A460
                   clear A460
                   have H' := Aside0.mk H
                   clear H
                   obtain ⟨Ao47, co47, eo47⟩ := Kd.R_slice HO_3.out
                   subst eo47
                   have p206 : 0 ≤ (x6_3 : Int) := of_decide_eq_true (by first | (with_reducible assumption) | assumption)
                   have q206 : x6_3 < (x3_3.length : Int) := of_decide_eq_true (by first | (with_reducible assumption) | assumption)
                   obtain ⟨ad206, e206, hx206_0⟩ := Kd.at_bool (Kd.R_reads' HO_3.out).2.2 x6_3 p206 q206
                   (try rw [← Nbq33.out] at hx206_0)
                   cases e206
                   have hn206_0 : ad206.block ≠ gb205 := Kd.own_blk (Kd.R_ne HO_3.out BK205.out (by decide))
                   have hn206_1 : ad206.block ≠ gb205 := Kd.own_blk (Kd.R_ne HO_3.out BK205.out (by decide))
                   have hn206_2 : ad206.block ≠ gb205 := Kd.own_blk (Kd.R_ne HO_3.out BK205.out (by decide))
                   have hn206_3 : ad206.block ≠ gb205 := Kd.own_blk (Kd.R_ne HO_3.out BK205.out (by decide))
                   have hn206_4 : ad206.block ≠ gb205 := Kd.own_blk (Kd.R_ne HO_3.out BK205.out (by decide))
                   have hn206_5 : ad206.block ≠ gb205 := Kd.own_blk (Kd.R_ne HO_3.out BK205.out (by decide))
                   have hn206_6 : ad206.block ≠ gb205 := Kd.own_blk (Kd.R_ne HO_3.out BK205.out (by decide))
                   have hn206_7 : ad206.block ≠ gb205 := Kd.own_blk (Kd.R_ne HO_3.out BK205.out (by decide))
                   replace hx206_0 := (cell_far (p := ⟨gb205, 0, none⟩) (by first | (rw [add_block]; exact hn206_0) | (show (Addr.add _ _).block ≠ _; rw [add_block]; exact hn206_0) | exact hn206_0) (.int .i64 ((rd_T41 l0_2 x6_3).f3.f0))).trans hx206_0
                   replace hx206_0 := (cell_far (p := ⟨gb205, 1, none⟩) (by first | (rw [add_block]; exact hn206_1) | (show (Addr.add _ _).block ≠ _; rw [add_block]; exact hn206_1) | exact hn206_1) (.int .i64 ((rd_T41 l0_2 x6_3).f3.f1))).trans hx206_0
                   replace hx206_0 := (cell_far (p := ⟨gb205, 2, none⟩) (by first | (rw [add_block]; exact hn206_2) | (show (Addr.add _ _).block ≠ _; rw [add_block]; exact hn206_2) | exact hn206_2) (.int .i64 ((rd_T41 l0_2 x6_3).f3.f2))).trans hx206_0
                   replace hx206_0 := (cell_far (p := ⟨gb205, 3, none⟩) (by first | (rw [add_block]; exact hn206_3) | (show (Addr.add _ _).block ≠ _; rw [add_block]; exact hn206_3) | exact hn206_3) (.int .i64 ((rd_T41 l0_2 x6_3).f3.f3))).trans hx206_0
                   replace hx206_0 := (cell_far (p := ⟨gb205, 4, none⟩) (by first | (rw [add_block]; exact hn206_4) | (show (Addr.add _ _).block ≠ _; rw [add_block]; exact hn206_4) | exact hn206_4) (.slice A204_10 ((rd_T41 l0_2 x6_3).f3.f4).length c204_10)).trans hx206_0
                   replace hx206_0 := (cell_far (p := ⟨gb205, 5, none⟩) (by first | (rw [add_block]; exact hn206_5) | (show (Addr.add _ _).block ≠ _; rw [add_block]; exact hn206_5) | exact hn206_5) (.int .i64 ((rd_T41 l0_2 x6_3).f3.f5))).trans hx206_0
                   replace hx206_0 := (cell_far (p := ⟨gb205, 6, none⟩) (by first | (rw [add_block]; exact hn206_6) | (show (Addr.add _ _).block ≠ _; rw [add_block]; exact hn206_6) | exact hn206_6) (.int .i64 ((rd_T41 l0_2 x6_3).f3.f6))).trans hx206_0
                   replace hx206_0 := (cell_far (p := ⟨gb205, 7, none⟩) (by first | (rw [add_block]; exact hn206_7) | (show (Addr.add _ _).block ≠ _; rw [add_block]; exact hn206_7) | exact hn206_7) (.int .i64 ((rd_T41 l0_2 x6_3).f3.f7))).trans hx206_0
                   clear hn206_0
                   clear hn206_1
                   clear hn206_2
                   clear hn206_3
                   clear hn206_4
                   clear hn206_5
                   clear hn206_6
                   clear hn206_7
                   replace p206 := eq_true p206
                   replace q206 := eq_true q206
                   have hnb48 := NB205_196.out
                   have hnc48 := NB196_205.out
                   have hcz49_0 : w29.cell? ⟨gb205, 0, none⟩ = some (.int .i64 0) := (blk_cell BK205.out 0).trans rfl
                   have hcz49_1 : w29.cell? ⟨gb205, 1, none⟩ = some (.int .i64 0) := (blk_cell BK205.out 1).trans rfl
                   have hcz49_2 : w29.cell? ⟨gb205, 2, none⟩ = some (.int .i64 0) := (blk_cell BK205.out 2).trans rfl
                   have hcz49_3 : w29.cell? ⟨gb205, 3, none⟩ = some (.int .i64 0) := (blk_cell BK205.out 3).trans rfl
                   have hcz49_4 : w29.cell? ⟨gb205, 4, none⟩ = some (.slice none 0 0) := (blk_cell BK205.out 4).trans rfl
                   have hcz49_5 : w29.cell? ⟨gb205, 5, none⟩ = some (.int .i64 0) := (blk_cell BK205.out 5).trans rfl
                   have hcz49_6 : w29.cell? ⟨gb205, 6, none⟩ = some (.int .i64 0) := (blk_cell BK205.out 6).trans rfl
                   have hcz49_7 : w29.cell? ⟨gb205, 7, none⟩ = some (.int .i64 0) := (blk_cell BK205.out 7).trans rfl
                   obtain ⟨hfz49_0, hfz49_1, hfz49_2, hfz49_3, hfz49_4, hfz49_5, hfz49_6, hfz49_7⟩ := fz8 BK205.out
                   go_wp2_with (first | (go_at_call 88; (with_reducible refine (davitref02_within.calls ((rd_T41 l0_2 x6_3).f3.f5) (x3_3.length : Int) t209 _ A46.out).mono ?_); rintro e w' ⟨rfl, ⟨nd, rfl⟩⟩))
                   go_meet
                   case rel => exact ⟨_, (t209), (by first | rfl | (simp; done) | (simp [*]; done)), H', ⟨by have := HK1.out; have := HK2.out; have := HK3.out; first | omega | exact Nat.le_refl _⟩, ⟨by (with_reducible repeat (first | apply Kd.R_alloc | apply Kd.R_drewN | apply Kd.R_drew)); exact Kd.R_mono (Kd.R_far (p := ⟨gb205, 7, none⟩) (Kd.R_far (p := ⟨gb205, 6, none⟩) (Kd.R_far (p := ⟨gb205, 5, none⟩) (Kd.R_far (p := ⟨gb205, 4, none⟩) (Kd.R_far (p := ⟨gb205, 3, none⟩) (Kd.R_far (p := ⟨gb205, 2, none⟩) (Kd.R_far (p := ⟨gb205, 1, none⟩) (Kd.R_far (p := ⟨gb205, 0, none⟩) (Kd.R_types HO_3.out BK205.out (by decide)) (fun _ hk => hk.2) (.int .i64 ((rd_T41 l0_2 x6_3).f3.f0))) (fun _ hk => hk.2) (.int .i64 ((rd_T41 l0_2 x6_3).f3.f1))) (fun _ hk => hk.2) (.int .i64 ((rd_T41 l0_2 x6_3).f3.f2))) (fun _ hk => hk.2) (.int .i64 ((rd_T41 l0_2 x6_3).f3.f3))) (fun _ hk => hk.2) (.slice A204_10 ((rd_T41 l0_2 x6_3).f3.f4).length c204_10)) (fun _ hk => hk.2) (.int .i64 ((rd_T41 l0_2 x6_3).f3.f5))) (fun _ hk => hk.2) (.int .i64 ((rd_T41 l0_2 x6_3).f3.f6))) (fun _ hk => hk.2) (.int .i64 ((rd_T41 l0_2 x6_3).f3.f7))) (fun _ hk => trivial)⟩, ⟨by (with_reducible repeat (first | refine blk_drewN ?_ _ | refine blk_drew ?_ | refine blk_alloc ?_ _)); refine blk_far ?_ NB196_205.out _; (with_reducible repeat (first | refine blk_drewN ?_ _ | refine blk_drew ?_ | refine blk_alloc ?_ _)); refine blk_far ?_ NB196_205.out _; (with_reducible repeat (first | refine blk_drewN ?_ _ | refine blk_drew ?_ | refine blk_alloc ?_ _)); refine blk_far ?_ NB196_205.out _; (with_reducible repeat (first | refine blk_drewN ?_ _ | refine blk_drew ?_ | refine blk_alloc ?_ _)); refine blk_far ?_ NB196_205.out _; (with_reducible repeat (first | refine blk_drewN ?_ _ | refine blk_drew ?_ | refine blk_alloc ?_ _)); refine blk_far ?_ NB196_205.out _; (with_reducible repeat (first | refine blk_drewN ?_ _ | refine blk_drew ?_ | refine blk_alloc ?_ _)); refine blk_far ?_ NB196_205.out _; (with_reducible repeat (first | refine blk_drewN ?_ _ | refine blk_drew ?_ | refine blk_alloc ?_ _)); refine blk_far ?_ NB196_205.out _; (with_reducible repeat (first | refine blk_drewN ?_ _ | refine blk_drew ?_ | refine blk_alloc ?_ _)); refine blk_far ?_ NB196_205.out _; (with_reducible repeat (first | refine blk_drewN ?_ _ | refine blk_drew ?_ | refine blk_alloc ?_ _)); exact BK196.out⟩, ⟨by (with_reducible repeat (first | refine blk_drewN ?_ _ | refine blk_drew ?_ | refine blk_alloc ?_ _)); refine blk_put (cs := #[.int .i64 ((rd_T41 l0_2 x6_3).f3.f0), .int .i64 ((rd_T41 l0_2 x6_3).f3.f1), .int .i64 ((rd_T41 l0_2 x6_3).f3.f2), .int .i64 ((rd_T41 l0_2 x6_3).f3.f3), .slice A204_10 ((rd_T41 l0_2 x6_3).f3.f4).length c204_10, .int .i64 ((rd_T41 l0_2 x6_3).f3.f5), .int .i64 ((rd_T41 l0_2 x6_3).f3.f6), .int .i64 0]) ?_ 7 _ rfl; (with_reducible repeat (first | refine blk_drewN ?_ _ | refine blk_drew ?_ | refine blk_alloc ?_ _)); refine blk_put (cs := #[.int .i64 ((rd_T41 l0_2 x6_3).f3.f0), .int .i64 ((rd_T41 l0_2 x6_3).f3.f1), .int .i64 ((rd_T41 l0_2 x6_3).f3.f2), .int .i64 ((rd_T41 l0_2 x6_3).f3.f3), .slice A204_10 ((rd_T41 l0_2 x6_3).f3.f4).length c204_10, .int .i64 ((rd_T41 l0_2 x6_3).f3.f5), .int .i64 0, .int .i64 0]) ?_ 6 _ rfl; (with_reducible repeat (first | refine blk_drewN ?_ _ | refine blk_drew ?_ | refine blk_alloc ?_ _)); refine blk_put (cs := #[.int .i64 ((rd_T41 l0_2 x6_3).f3.f0), .int .i64 ((rd_T41 l0_2 x6_3).f3.f1), .int .i64 ((rd_T41 l0_2 x6_3).f3.f2), .int .i64 ((rd_T41 l0_2 x6_3).f3.f3), .slice A204_10 ((rd_T41 l0_2 x6_3).f3.f4).length c204_10, .int .i64 0, .int .i64 0, .int .i64 0]) ?_ 5 _ rfl; (with_reducible repeat (first | refine blk_drewN ?_ _ | refine blk_drew ?_ | refine blk_alloc ?_ _)); refine blk_put (cs := #[.int .i64 ((rd_T41 l0_2 x6_3).f3.f0), .int .i64 ((rd_T41 l0_2 x6_3).f3.f1), .int .i64 ((rd_T41 l0_2 x6_3).f3.f2), .int .i64 ((rd_T41 l0_2 x6_3).f3.f3), .slice none 0 0, .int .i64 0, .int .i64 0, .int .i64 0]) ?_ 4 _ rfl; (with_reducible repeat (first | refine blk_drewN ?_ _ | refine blk_drew ?_ | refine blk_alloc ?_ _)); refine blk_put (cs := #[.int .i64 ((rd_T41 l0_2 x6_3).f3.f0), .int .i64 ((rd_T41 l0_2 x6_3).f3.f1), .int .i64 ((rd_T41 l0_2 x6_3).f3.f2), .int .i64 0, .slice none 0 0, .int .i64 0, .int .i64 0, .int .i64 0]) ?_ 3 _ rfl; (with_reducible repeat (first | refine blk_drewN ?_ _ | refine blk_drew ?_ | refine blk_alloc ?_ _)); refine blk_put (cs := #[.int .i64 ((rd_T41 l0_2 x6_3).f3.f0), .int .i64 ((rd_T41 l0_2 x6_3).f3.f1), .int .i64 0, .int .i64 0, .slice none 0 0, .int .i64 0, .int .i64 0, .int .i64 0]) ?_ 2 _ rfl; (with_reducible repeat (first | refine blk_drewN ?_ _ | refine blk_drew ?_ | refine blk_alloc ?_ _)); refine blk_put (cs := #[.int .i64 ((rd_T41 l0_2 x6_3).f3.f0), .int .i64 0, .int .i64 0, .int .i64 0, .slice none 0 0, .int .i64 0, .int .i64 0, .int .i64 0]) ?_ 1 _ rfl; (with_reducible repeat (first | refine blk_drewN ?_ _ | refine blk_drew ?_ | refine blk_alloc ?_ _)); refine blk_put (cs := #[.int .i64 0, .int .i64 0, .int .i64 0, .int .i64 0, .slice none 0 0, .int .i64 0, .int .i64 0, .int .i64 0]) ?_ 0 _ rfl; (with_reducible repeat (first | refine blk_drewN ?_ _ | refine blk_drew ?_ | refine blk_alloc ?_ _)); exact BK205.out⟩, ⟨by repeat (first | (with_reducible first | exact HB.out | apply below_alloc | apply pw_below_drewN | apply below_drew1 | refine below_set ?_ GE196.out | refine below_set ?_ GE205.out) | exact HB.out)⟩⟩
                  ·rw [if_neg c45] at H
                   have c45b0 : (((rd_T41 l0_2 x6_3).f3.f0) == 4) = false := beq_eq_false_iff_ne.mpr c45
                   have c45b1 : (((rd_T41 l0_2 x6_3).f3.f0) != 4) = true := bne_iff_ne.mpr c45
                   have H' := Aside0.mk H
                   clear H
                   obtain ⟨Ao50, co50, eo50⟩ := Kd.R_slice HO_3.out
                   subst eo50
                   have p206 : 0 ≤ (x6_3 : Int) := of_decide_eq_true (by first | (with_reducible assumption) | assumption)
                   have q206 : x6_3 < (x3_3.length : Int) := of_decide_eq_true (by first | (with_reducible assumption) | assumption)
                   obtain ⟨ad206, e206, hx206_0⟩ := Kd.at_bool (Kd.R_reads' HO_3.out).2.2 x6_3 p206 q206
                   (try rw [← Nbq33.out] at hx206_0)
                   cases e206
                   have hn206_0 : ad206.block ≠ gb205 := Kd.own_blk (Kd.R_ne HO_3.out BK205.out (by decide))
                   have hn206_1 : ad206.block ≠ gb205 := Kd.own_blk (Kd.R_ne HO_3.out BK205.out (by decide))
                   have hn206_2 : ad206.block ≠ gb205 := Kd.own_blk (Kd.R_ne HO_3.out BK205.out (by decide))
                   have hn206_3 : ad206.block ≠ gb205 := Kd.own_blk (Kd.R_ne HO_3.out BK205.out (by decide))
                   have hn206_4 : ad206.block ≠ gb205 := Kd.own_blk (Kd.R_ne HO_3.out BK205.out (by decide))
                   have hn206_5 : ad206.block ≠ gb205 := Kd.own_blk (Kd.R_ne HO_3.out BK205.out (by decide))
                   have hn206_6 : ad206.block ≠ gb205 := Kd.own_blk (Kd.R_ne HO_3.out BK205.out (by decide))
                   have hn206_7 : ad206.block ≠ gb205 := Kd.own_blk (Kd.R_ne HO_3.out BK205.out (by decide))
                   replace hx206_0 := (cell_far (p := ⟨gb205, 0, none⟩) (by first | (rw [add_block]; exact hn206_0) | (show (Addr.add _ _).block ≠ _; rw [add_block]; exact hn206_0) | exact hn206_0) (.int .i64 ((rd_T41 l0_2 x6_3).f3.f0))).trans hx206_0
                   replace hx206_0 := (cell_far (p := ⟨gb205, 1, none⟩) (by first | (rw [add_block]; exact hn206_1) | (show (Addr.add _ _).block ≠ _; rw [add_block]; exact hn206_1) | exact hn206_1) (.int .i64 ((rd_T41 l0_2 x6_3).f3.f1))).trans hx206_0
                   replace hx206_0 := (cell_far (p := ⟨gb205, 2, none⟩) (by first | (rw [add_block]; exact hn206_2) | (show (Addr.add _ _).block ≠ _; rw [add_block]; exact hn206_2) | exact hn206_2) (.int .i64 ((rd_T41 l0_2 x6_3).f3.f2))).trans hx206_0
                   replace hx206_0 := (cell_far (p := ⟨gb205, 3, none⟩) (by first | (rw [add_block]; exact hn206_3) | (show (Addr.add _ _).block ≠ _; rw [add_block]; exact hn206_3) | exact hn206_3) (.int .i64 ((rd_T41 l0_2 x6_3).f3.f3))).trans hx206_0
                   replace hx206_0 := (cell_far (p := ⟨gb205, 4, none⟩) (by first | (rw [add_block]; exact hn206_4) | (show (Addr.add _ _).block ≠ _; rw [add_block]; exact hn206_4) | exact hn206_4) (.slice A204_10 ((rd_T41 l0_2 x6_3).f3.f4).length c204_10)).trans hx206_0
                   replace hx206_0 := (cell_far (p := ⟨gb205, 5, none⟩) (by first | (rw [add_block]; exact hn206_5) | (show (Addr.add _ _).block ≠ _; rw [add_block]; exact hn206_5) | exact hn206_5) (.int .i64 ((rd_T41 l0_2 x6_3).f3.f5))).trans hx206_0
                   replace hx206_0 := (cell_far (p := ⟨gb205, 6, none⟩) (by first | (rw [add_block]; exact hn206_6) | (show (Addr.add _ _).block ≠ _; rw [add_block]; exact hn206_6) | exact hn206_6) (.int .i64 ((rd_T41 l0_2 x6_3).f3.f6))).trans hx206_0
                   replace hx206_0 := (cell_far (p := ⟨gb205, 7, none⟩) (by first | (rw [add_block]; exact hn206_7) | (show (Addr.add _ _).block ≠ _; rw [add_block]; exact hn206_7) | exact hn206_7) (.int .i64 ((rd_T41 l0_2 x6_3).f3.f7))).trans hx206_0
                   clear hn206_0
                   clear hn206_1
                   clear hn206_2
                   clear hn206_3
                   clear hn206_4
                   clear hn206_5
                   clear hn206_6
                   clear hn206_7
                   replace p206 := eq_true p206
                   replace q206 := eq_true q206
                   have hnb51 := NB205_196.out
                   have hnc51 := NB196_205.out
                   have hcz52_0 : w29.cell? ⟨gb205, 0, none⟩ = some (.int .i64 0) := (blk_cell BK205.out 0).trans rfl
                   have hcz52_1 : w29.cell? ⟨gb205, 1, none⟩ = some (.int .i64 0) := (blk_cell BK205.out 1).trans rfl
                   have hcz52_2 : w29.cell? ⟨gb205, 2, none⟩ = some (.int .i64 0) := (blk_cell BK205.out 2).trans rfl
                   have hcz52_3 : w29.cell? ⟨gb205, 3, none⟩ = some (.int .i64 0) := (blk_cell BK205.out 3).trans rfl
                   have hcz52_4 : w29.cell? ⟨gb205, 4, none⟩ = some (.slice none 0 0) := (blk_cell BK205.out 4).trans rfl
                   have hcz52_5 : w29.cell? ⟨gb205, 5, none⟩ = some (.int .i64 0) := (blk_cell BK205.out 5).trans rfl
                   have hcz52_6 : w29.cell? ⟨gb205, 6, none⟩ = some (.int .i64 0) := (blk_cell BK205.out 6).trans rfl
                   have hcz52_7 : w29.cell? ⟨gb205, 7, none⟩ = some (.int .i64 0) := (blk_cell BK205.out 7).trans rfl
                   obtain ⟨hfz52_0, hfz52_1, hfz52_2, hfz52_3, hfz52_4, hfz52_5, hfz52_6, hfz52_7⟩ := fz8 BK205.out
                   go_wp2
                   go_meet
                   case rel => exact ⟨_, (false), (by first | rfl | (simp; done) | (simp [*]; done)), H', ⟨by have := HK1.out; have := HK2.out; have := HK3.out; first | omega | exact Nat.le_refl _⟩, ⟨by (with_reducible repeat (first | apply Kd.R_alloc | apply Kd.R_drewN | apply Kd.R_drew)); exact Kd.R_mono (Kd.R_far (p := ⟨gb205, 7, none⟩) (Kd.R_far (p := ⟨gb205, 6, none⟩) (Kd.R_far (p := ⟨gb205, 5, none⟩) (Kd.R_far (p := ⟨gb205, 4, none⟩) (Kd.R_far (p := ⟨gb205, 3, none⟩) (Kd.R_far (p := ⟨gb205, 2, none⟩) (Kd.R_far (p := ⟨gb205, 1, none⟩) (Kd.R_far (p := ⟨gb205, 0, none⟩) (Kd.R_types HO_3.out BK205.out (by decide)) (fun _ hk => hk.2) (.int .i64 ((rd_T41 l0_2 x6_3).f3.f0))) (fun _ hk => hk.2) (.int .i64 ((rd_T41 l0_2 x6_3).f3.f1))) (fun _ hk => hk.2) (.int .i64 ((rd_T41 l0_2 x6_3).f3.f2))) (fun _ hk => hk.2) (.int .i64 ((rd_T41 l0_2 x6_3).f3.f3))) (fun _ hk => hk.2) (.slice A204_10 ((rd_T41 l0_2 x6_3).f3.f4).length c204_10)) (fun _ hk => hk.2) (.int .i64 ((rd_T41 l0_2 x6_3).f3.f5))) (fun _ hk => hk.2) (.int .i64 ((rd_T41 l0_2 x6_3).f3.f6))) (fun _ hk => hk.2) (.int .i64 ((rd_T41 l0_2 x6_3).f3.f7))) (fun _ hk => trivial)⟩, ⟨by (with_reducible repeat (first | refine blk_drewN ?_ _ | refine blk_drew ?_ | refine blk_alloc ?_ _)); refine blk_far ?_ NB196_205.out _; (with_reducible repeat (first | refine blk_drewN ?_ _ | refine blk_drew ?_ | refine blk_alloc ?_ _)); refine blk_far ?_ NB196_205.out _; (with_reducible repeat (first | refine blk_drewN ?_ _ | refine blk_drew ?_ | refine blk_alloc ?_ _)); refine blk_far ?_ NB196_205.out _; (with_reducible repeat (first | refine blk_drewN ?_ _ | refine blk_drew ?_ | refine blk_alloc ?_ _)); refine blk_far ?_ NB196_205.out _; (with_reducible repeat (first | refine blk_drewN ?_ _ | refine blk_drew ?_ | refine blk_alloc ?_ _)); refine blk_far ?_ NB196_205.out _; (with_reducible repeat (first | refine blk_drewN ?_ _ | refine blk_drew ?_ | refine blk_alloc ?_ _)); refine blk_far ?_ NB196_205.out _; (with_reducible repeat (first | refine blk_drewN ?_ _ | refine blk_drew ?_ | refine blk_alloc ?_ _)); refine blk_far ?_ NB196_205.out _; (with_reducible repeat (first | refine blk_drewN ?_ _ | refine blk_drew ?_ | refine blk_alloc ?_ _)); refine blk_far ?_ NB196_205.out _; (with_reducible repeat (first | refine blk_drewN ?_ _ | refine blk_drew ?_ | refine blk_alloc ?_ _)); exact BK196.out⟩, ⟨by (with_reducible repeat (first | refine blk_drewN ?_ _ | refine blk_drew ?_ | refine blk_alloc ?_ _)); refine blk_put (cs := #[.int .i64 ((rd_T41 l0_2 x6_3).f3.f0), .int .i64 ((rd_T41 l0_2 x6_3).f3.f1), .int .i64 ((rd_T41 l0_2 x6_3).f3.f2), .int .i64 ((rd_T41 l0_2 x6_3).f3.f3), .slice A204_10 ((rd_T41 l0_2 x6_3).f3.f4).length c204_10, .int .i64 ((rd_T41 l0_2 x6_3).f3.f5), .int .i64 ((rd_T41 l0_2 x6_3).f3.f6), .int .i64 0]) ?_ 7 _ rfl; (with_reducible repeat (first | refine blk_drewN ?_ _ | refine blk_drew ?_ | refine blk_alloc ?_ _)); refine blk_put (cs := #[.int .i64 ((rd_T41 l0_2 x6_3).f3.f0), .int .i64 ((rd_T41 l0_2 x6_3).f3.f1), .int .i64 ((rd_T41 l0_2 x6_3).f3.f2), .int .i64 ((rd_T41 l0_2 x6_3).f3.f3), .slice A204_10 ((rd_T41 l0_2 x6_3).f3.f4).length c204_10, .int .i64 ((rd_T41 l0_2 x6_3).f3.f5), .int .i64 0, .int .i64 0]) ?_ 6 _ rfl; (with_reducible repeat (first | refine blk_drewN ?_ _ | refine blk_drew ?_ | refine blk_alloc ?_ _)); refine blk_put (cs := #[.int .i64 ((rd_T41 l0_2 x6_3).f3.f0), .int .i64 ((rd_T41 l0_2 x6_3).f3.f1), .int .i64 ((rd_T41 l0_2 x6_3).f3.f2), .int .i64 ((rd_T41 l0_2 x6_3).f3.f3), .slice A204_10 ((rd_T41 l0_2 x6_3).f3.f4).length c204_10, .int .i64 0, .int .i64 0, .int .i64 0]) ?_ 5 _ rfl; (with_reducible repeat (first | refine blk_drewN ?_ _ | refine blk_drew ?_ | refine blk_alloc ?_ _)); refine blk_put (cs := #[.int .i64 ((rd_T41 l0_2 x6_3).f3.f0), .int .i64 ((rd_T41 l0_2 x6_3).f3.f1), .int .i64 ((rd_T41 l0_2 x6_3).f3.f2), .int .i64 ((rd_T41 l0_2 x6_3).f3.f3), .slice none 0 0, .int .i64 0, .int .i64 0, .int .i64 0]) ?_ 4 _ rfl; (with_reducible repeat (first | refine blk_drewN ?_ _ | refine blk_drew ?_ | refine blk_alloc ?_ _)); refine blk_put (cs := #[.int .i64 ((rd_T41 l0_2 x6_3).f3.f0), .int .i64 ((rd_T41 l0_2 x6_3).f3.f1), .int .i64 ((rd_T41 l0_2 x6_3).f3.f2), .int .i64 0, .slice none 0 0, .int .i64 0, .int .i64 0, .int .i64 0]) ?_ 3 _ rfl; (with_reducible repeat (first | refine blk_drewN ?_ _ | refine blk_drew ?_ | refine blk_alloc ?_ _)); refine blk_put (cs := #[.int .i64 ((rd_T41 l0_2 x6_3).f3.f0), .int .i64 ((rd_T41 l0_2 x6_3).f3.f1), .int .i64 0, .int .i64 0, .slice none 0 0, .int .i64 0, .int .i64 0, .int .i64 0]) ?_ 2 _ rfl; (with_reducible repeat (first | refine blk_drewN ?_ _ | refine blk_drew ?_ | refine blk_alloc ?_ _)); refine blk_put (cs := #[.int .i64 ((rd_T41 l0_2 x6_3).f3.f0), .int .i64 0, .int .i64 0, .int .i64 0, .slice none 0 0, .int .i64 0, .int .i64 0, .int .i64 0]) ?_ 1 _ rfl; (with_reducible repeat (first | refine blk_drewN ?_ _ | refine blk_drew ?_ | refine blk_alloc ?_ _)); refine blk_put (cs := #[.int .i64 0, .int .i64 0, .int .i64 0, .int .i64 0, .slice none 0 0, .int .i64 0, .int .i64 0, .int .i64 0]) ?_ 0 _ rfl; (with_reducible repeat (first | refine blk_drewN ?_ _ | refine blk_drew ?_ | refine blk_alloc ?_ _)); exact BK205.out⟩, ⟨by repeat (first | (with_reducible first | exact HB.out | apply below_alloc | apply pw_below_drewN | apply below_drew1 | refine below_set ?_ GE196.out | refine below_set ?_ GE205.out) | exact HB.out)⟩⟩
               ·replace c34 := Bool.eq_false_iff.mpr c34
                subst c34
                have H1 : (davitref02_led.j3 k3 x3_3 x5_2 x6_3 false a0_0 a0_1 l0_2 ((rd_T41 l0_2 x6_3).f3.f0) ((rd_T41 l0_2 x6_3).f3.f1) ((rd_T41 l0_2 x6_3).f3.f2) ((rd_T41 l0_2 x6_3).f3.f3) ((rd_T41 l0_2 x6_3).f3.f4) ((rd_T41 l0_2 x6_3).f3.f5) ((rd_T41 l0_2 x6_3).f3.f6) ((rd_T41 l0_2 x6_3).f3.f7)) = some r := by rw [if_neg (show ¬ (false = true) by decide)] at H; exact H
                clear H
                have H := H1
                clear H1
                have H' := Aside0.mk H
                clear H
                obtain ⟨Ao53, co53, eo53⟩ := Kd.R_slice HO_3.out
                subst eo53
                have p206 : 0 ≤ (x6_3 : Int) := of_decide_eq_true (by first | (with_reducible assumption) | assumption)
                have q206 : x6_3 < (x3_3.length : Int) := of_decide_eq_true (by first | (with_reducible assumption) | assumption)
                obtain ⟨ad206, e206, hx206_0⟩ := Kd.at_bool (Kd.R_reads' HO_3.out).2.2 x6_3 p206 q206
                (try rw [← Nbq33.out] at hx206_0)
                cases e206
                have hn206_0 : ad206.block ≠ gb205 := Kd.own_blk (Kd.R_ne HO_3.out BK205.out (by decide))
                have hn206_1 : ad206.block ≠ gb205 := Kd.own_blk (Kd.R_ne HO_3.out BK205.out (by decide))
                have hn206_2 : ad206.block ≠ gb205 := Kd.own_blk (Kd.R_ne HO_3.out BK205.out (by decide))
                have hn206_3 : ad206.block ≠ gb205 := Kd.own_blk (Kd.R_ne HO_3.out BK205.out (by decide))
                have hn206_4 : ad206.block ≠ gb205 := Kd.own_blk (Kd.R_ne HO_3.out BK205.out (by decide))
                have hn206_5 : ad206.block ≠ gb205 := Kd.own_blk (Kd.R_ne HO_3.out BK205.out (by decide))
                have hn206_6 : ad206.block ≠ gb205 := Kd.own_blk (Kd.R_ne HO_3.out BK205.out (by decide))
                have hn206_7 : ad206.block ≠ gb205 := Kd.own_blk (Kd.R_ne HO_3.out BK205.out (by decide))
                replace hx206_0 := (cell_far (p := ⟨gb205, 0, none⟩) (by first | (rw [add_block]; exact hn206_0) | (show (Addr.add _ _).block ≠ _; rw [add_block]; exact hn206_0) | exact hn206_0) (.int .i64 ((rd_T41 l0_2 x6_3).f3.f0))).trans hx206_0
                replace hx206_0 := (cell_far (p := ⟨gb205, 1, none⟩) (by first | (rw [add_block]; exact hn206_1) | (show (Addr.add _ _).block ≠ _; rw [add_block]; exact hn206_1) | exact hn206_1) (.int .i64 ((rd_T41 l0_2 x6_3).f3.f1))).trans hx206_0
                replace hx206_0 := (cell_far (p := ⟨gb205, 2, none⟩) (by first | (rw [add_block]; exact hn206_2) | (show (Addr.add _ _).block ≠ _; rw [add_block]; exact hn206_2) | exact hn206_2) (.int .i64 ((rd_T41 l0_2 x6_3).f3.f2))).trans hx206_0
                replace hx206_0 := (cell_far (p := ⟨gb205, 3, none⟩) (by first | (rw [add_block]; exact hn206_3) | (show (Addr.add _ _).block ≠ _; rw [add_block]; exact hn206_3) | exact hn206_3) (.int .i64 ((rd_T41 l0_2 x6_3).f3.f3))).trans hx206_0
                replace hx206_0 := (cell_far (p := ⟨gb205, 4, none⟩) (by first | (rw [add_block]; exact hn206_4) | (show (Addr.add _ _).block ≠ _; rw [add_block]; exact hn206_4) | exact hn206_4) (.slice A204_10 ((rd_T41 l0_2 x6_3).f3.f4).length c204_10)).trans hx206_0
                replace hx206_0 := (cell_far (p := ⟨gb205, 5, none⟩) (by first | (rw [add_block]; exact hn206_5) | (show (Addr.add _ _).block ≠ _; rw [add_block]; exact hn206_5) | exact hn206_5) (.int .i64 ((rd_T41 l0_2 x6_3).f3.f5))).trans hx206_0
                replace hx206_0 := (cell_far (p := ⟨gb205, 6, none⟩) (by first | (rw [add_block]; exact hn206_6) | (show (Addr.add _ _).block ≠ _; rw [add_block]; exact hn206_6) | exact hn206_6) (.int .i64 ((rd_T41 l0_2 x6_3).f3.f6))).trans hx206_0
                replace hx206_0 := (cell_far (p := ⟨gb205, 7, none⟩) (by first | (rw [add_block]; exact hn206_7) | (show (Addr.add _ _).block ≠ _; rw [add_block]; exact hn206_7) | exact hn206_7) (.int .i64 ((rd_T41 l0_2 x6_3).f3.f7))).trans hx206_0
                clear hn206_0
                clear hn206_1
                clear hn206_2
                clear hn206_3
                clear hn206_4
                clear hn206_5
                clear hn206_6
                clear hn206_7
                replace p206 := eq_true p206
                replace q206 := eq_true q206
                go_wp2
                go_meet
                case rel => exact ⟨_, (false), (by first | rfl | (simp; done) | (simp [*]; done)), H', ⟨by have := HK1.out; have := HK2.out; have := HK3.out; first | omega | exact Nat.le_refl _⟩, ⟨by (with_reducible repeat (first | apply Kd.R_alloc | apply Kd.R_drewN | apply Kd.R_drew)); exact Kd.R_mono (Kd.R_far (p := ⟨gb205, 7, none⟩) (Kd.R_far (p := ⟨gb205, 6, none⟩) (Kd.R_far (p := ⟨gb205, 5, none⟩) (Kd.R_far (p := ⟨gb205, 4, none⟩) (Kd.R_far (p := ⟨gb205, 3, none⟩) (Kd.R_far (p := ⟨gb205, 2, none⟩) (Kd.R_far (p := ⟨gb205, 1, none⟩) (Kd.R_far (p := ⟨gb205, 0, none⟩) (Kd.R_types HO_3.out BK205.out (by decide)) (fun _ hk => hk.2) (.int .i64 ((rd_T41 l0_2 x6_3).f3.f0))) (fun _ hk => hk.2) (.int .i64 ((rd_T41 l0_2 x6_3).f3.f1))) (fun _ hk => hk.2) (.int .i64 ((rd_T41 l0_2 x6_3).f3.f2))) (fun _ hk => hk.2) (.int .i64 ((rd_T41 l0_2 x6_3).f3.f3))) (fun _ hk => hk.2) (.slice A204_10 ((rd_T41 l0_2 x6_3).f3.f4).length c204_10)) (fun _ hk => hk.2) (.int .i64 ((rd_T41 l0_2 x6_3).f3.f5))) (fun _ hk => hk.2) (.int .i64 ((rd_T41 l0_2 x6_3).f3.f6))) (fun _ hk => hk.2) (.int .i64 ((rd_T41 l0_2 x6_3).f3.f7))) (fun _ hk => trivial)⟩, ⟨by (with_reducible repeat (first | refine blk_drewN ?_ _ | refine blk_drew ?_ | refine blk_alloc ?_ _)); refine blk_far ?_ NB196_205.out _; (with_reducible repeat (first | refine blk_drewN ?_ _ | refine blk_drew ?_ | refine blk_alloc ?_ _)); refine blk_far ?_ NB196_205.out _; (with_reducible repeat (first | refine blk_drewN ?_ _ | refine blk_drew ?_ | refine blk_alloc ?_ _)); refine blk_far ?_ NB196_205.out _; (with_reducible repeat (first | refine blk_drewN ?_ _ | refine blk_drew ?_ | refine blk_alloc ?_ _)); refine blk_far ?_ NB196_205.out _; (with_reducible repeat (first | refine blk_drewN ?_ _ | refine blk_drew ?_ | refine blk_alloc ?_ _)); refine blk_far ?_ NB196_205.out _; (with_reducible repeat (first | refine blk_drewN ?_ _ | refine blk_drew ?_ | refine blk_alloc ?_ _)); refine blk_far ?_ NB196_205.out _; (with_reducible repeat (first | refine blk_drewN ?_ _ | refine blk_drew ?_ | refine blk_alloc ?_ _)); refine blk_far ?_ NB196_205.out _; (with_reducible repeat (first | refine blk_drewN ?_ _ | refine blk_drew ?_ | refine blk_alloc ?_ _)); refine blk_far ?_ NB196_205.out _; (with_reducible repeat (first | refine blk_drewN ?_ _ | refine blk_drew ?_ | refine blk_alloc ?_ _)); exact BK196.out⟩, ⟨by (with_reducible repeat (first | refine blk_drewN ?_ _ | refine blk_drew ?_ | refine blk_alloc ?_ _)); refine blk_put (cs := #[.int .i64 ((rd_T41 l0_2 x6_3).f3.f0), .int .i64 ((rd_T41 l0_2 x6_3).f3.f1), .int .i64 ((rd_T41 l0_2 x6_3).f3.f2), .int .i64 ((rd_T41 l0_2 x6_3).f3.f3), .slice A204_10 ((rd_T41 l0_2 x6_3).f3.f4).length c204_10, .int .i64 ((rd_T41 l0_2 x6_3).f3.f5), .int .i64 ((rd_T41 l0_2 x6_3).f3.f6), .int .i64 0]) ?_ 7 _ rfl; (with_reducible repeat (first | refine blk_drewN ?_ _ | refine blk_drew ?_ | refine blk_alloc ?_ _)); refine blk_put (cs := #[.int .i64 ((rd_T41 l0_2 x6_3).f3.f0), .int .i64 ((rd_T41 l0_2 x6_3).f3.f1), .int .i64 ((rd_T41 l0_2 x6_3).f3.f2), .int .i64 ((rd_T41 l0_2 x6_3).f3.f3), .slice A204_10 ((rd_T41 l0_2 x6_3).f3.f4).length c204_10, .int .i64 ((rd_T41 l0_2 x6_3).f3.f5), .int .i64 0, .int .i64 0]) ?_ 6 _ rfl; (with_reducible repeat (first | refine blk_drewN ?_ _ | refine blk_drew ?_ | refine blk_alloc ?_ _)); refine blk_put (cs := #[.int .i64 ((rd_T41 l0_2 x6_3).f3.f0), .int .i64 ((rd_T41 l0_2 x6_3).f3.f1), .int .i64 ((rd_T41 l0_2 x6_3).f3.f2), .int .i64 ((rd_T41 l0_2 x6_3).f3.f3), .slice A204_10 ((rd_T41 l0_2 x6_3).f3.f4).length c204_10, .int .i64 0, .int .i64 0, .int .i64 0]) ?_ 5 _ rfl; (with_reducible repeat (first | refine blk_drewN ?_ _ | refine blk_drew ?_ | refine blk_alloc ?_ _)); refine blk_put (cs := #[.int .i64 ((rd_T41 l0_2 x6_3).f3.f0), .int .i64 ((rd_T41 l0_2 x6_3).f3.f1), .int .i64 ((rd_T41 l0_2 x6_3).f3.f2), .int .i64 ((rd_T41 l0_2 x6_3).f3.f3), .slice none 0 0, .int .i64 0, .int .i64 0, .int .i64 0]) ?_ 4 _ rfl; (with_reducible repeat (first | refine blk_drewN ?_ _ | refine blk_drew ?_ | refine blk_alloc ?_ _)); refine blk_put (cs := #[.int .i64 ((rd_T41 l0_2 x6_3).f3.f0), .int .i64 ((rd_T41 l0_2 x6_3).f3.f1), .int .i64 ((rd_T41 l0_2 x6_3).f3.f2), .int .i64 0, .slice none 0 0, .int .i64 0, .int .i64 0, .int .i64 0]) ?_ 3 _ rfl; (with_reducible repeat (first | refine blk_drewN ?_ _ | refine blk_drew ?_ | refine blk_alloc ?_ _)); refine blk_put (cs := #[.int .i64 ((rd_T41 l0_2 x6_3).f3.f0), .int .i64 ((rd_T41 l0_2 x6_3).f3.f1), .int .i64 0, .int .i64 0, .slice none 0 0, .int .i64 0, .int .i64 0, .int .i64 0]) ?_ 2 _ rfl; (with_reducible repeat (first | refine blk_drewN ?_ _ | refine blk_drew ?_ | refine blk_alloc ?_ _)); refine blk_put (cs := #[.int .i64 ((rd_T41 l0_2 x6_3).f3.f0), .int .i64 0, .int .i64 0, .int .i64 0, .slice none 0 0, .int .i64 0, .int .i64 0, .int .i64 0]) ?_ 1 _ rfl; (with_reducible repeat (first | refine blk_drewN ?_ _ | refine blk_drew ?_ | refine blk_alloc ?_ _)); refine blk_put (cs := #[.int .i64 0, .int .i64 0, .int .i64 0, .int .i64 0, .slice none 0 0, .int .i64 0, .int .i64 0, .int .i64 0]) ?_ 0 _ rfl; (with_reducible repeat (first | refine blk_drewN ?_ _ | refine blk_drew ?_ | refine blk_alloc ?_ _)); exact BK205.out⟩, ⟨by repeat (first | (with_reducible first | exact HB.out | apply below_alloc | apply pw_below_drewN | apply below_drew1 | refine below_set ?_ GE196.out | refine below_set ?_ GE205.out) | exact HB.out)⟩⟩
              ·rw [if_neg c32] at H
               exact absurd H (by simp)
             case rest =>
              clear HC27
              try clear c1
              try clear p1
              try clear q1
              try clear hx1
              try clear hf1
              try clear c2
              try clear c2b0
              try clear c2b1
              try clear p2
              try clear q2
              try clear hx2
              try clear c3
              try clear c3b0
              try clear c3b1
              try clear q3
              try clear c4
              try clear c5
              try clear p6
              try clear c8
              try clear c8b0
              try clear c9
              try clear c9b0
              try clear q10
              try clear c11
              try clear c12
              try clear c12b0
              try clear p13
              try clear q13
              try clear hx13
              try clear hf13
              try clear c17
              try clear c17b0
              try clear p18
              try clear q18
              try clear hx18
              try clear hf18
              try clear c20
              try clear p20
              try clear q20
              try clear hx20
              try clear c23
              try clear c23b0
              try clear c25
              try clear c25b0
              try clear c26
              try clear c26b0
              try clear c30
              try clear c32
              try clear c32b0
              try clear q33
              try clear c34
              try clear c35
              try clear c35b0
              try clear c35b1
              try clear c38
              try clear c40
              try clear c40b0
              try clear c40b1
              try clear c43
              try clear c45
              try clear c45b0
              try clear c45b1
              try clear c48
              try clear c51
              try clear hcz14_0
              try clear hcz14_1
              try clear hcz14_2
              try clear hcz19_0
              try clear hcz19_1
              try clear hcz19_2
              try clear hcz22_0
              try clear hcz22_1
              try clear hcz22_2
              try clear hcz24_0
              try clear hcz24_1
              try clear hcz24_2
              try clear hcz28_0
              try clear hcz28_1
              try clear hcz28_2
              try clear hcz31_0
              try clear hcz31_1
              try clear hcz31_2
              try clear hcz31_3
              try clear hcz31_4
              try clear hcz31_5
              try clear hcz31_6
              try clear hcz31_7
              try clear hcz39_0
              try clear hcz39_1
              try clear hcz39_2
              try clear hcz39_3
              try clear hcz39_4
              try clear hcz39_5
              try clear hcz39_6
              try clear hcz39_7
              try clear hcz44_0
              try clear hcz44_1
              try clear hcz44_2
              try clear hcz44_3
              try clear hcz44_4
              try clear hcz44_5
              try clear hcz44_6
              try clear hcz44_7
              try clear hcz49_0
              try clear hcz49_1
              try clear hcz49_2
              try clear hcz49_3
              try clear hcz49_4
              try clear hcz49_5
              try clear hcz49_6
              try clear hcz49_7
              try clear hcz52_0
              try clear hcz52_1
              try clear hcz52_2
              try clear hcz52_3
              try clear hcz52_4
              try clear hcz52_5
              try clear hcz52_6
              try clear hcz52_7
              try clear hcz5_0
              try clear hcz5_1
              try clear hcz5_2
              try clear hfz14_0
              try clear hfz14_1
              try clear hfz14_2
              try clear hfz19_0
              try clear hfz19_1
              try clear hfz19_2
              try clear hfz22_0
              try clear hfz22_1
              try clear hfz22_2
              try clear hfz24_0
              try clear hfz24_1
              try clear hfz24_2
              try clear hfz28_0
              try clear hfz28_1
              try clear hfz28_2
              try clear hfz31_0
              try clear hfz31_1
              try clear hfz31_2
              try clear hfz31_3
              try clear hfz31_4
              try clear hfz31_5
              try clear hfz31_6
              try clear hfz31_7
              try clear hfz39_0
              try clear hfz39_1
              try clear hfz39_2
              try clear hfz39_3
              try clear hfz39_4
              try clear hfz39_5
              try clear hfz39_6
              try clear hfz39_7
              try clear hfz44_0
              try clear hfz44_1
              try clear hfz44_2
              try clear hfz44_3
              try clear hfz44_4
              try clear hfz44_5
              try clear hfz44_6
              try clear hfz44_7
              try clear hfz49_0
              try clear hfz49_1
              try clear hfz49_2
              try clear hfz49_3
              try clear hfz49_4
              try clear hfz49_5
              try clear hfz49_6
              try clear hfz49_7
              try clear hfz52_0
              try clear hfz52_1
              try clear hfz52_2
              try clear hfz52_3
              try clear hfz52_4
              try clear hfz52_5
              try clear hfz52_6
              try clear hfz52_7
              try clear hfz5_0
              try clear hfz5_1
              try clear hfz5_2
              try clear hx13_0
              try clear hx18_0
              try clear hx200_0
              try clear hx200_1
              try clear hx200_10
              try clear hx200_11
              try clear hx200_12
              try clear hx200_13
              try clear hx200_2
              try clear hx200_3
              try clear hx200_4
              try clear hx200_5
              try clear hx200_6
              try clear hx200_7
              try clear hx200_8
              try clear hx200_9
              try clear hx201_0
              try clear hx201_1
              try clear hx201_10
              try clear hx201_11
              try clear hx201_12
              try clear hx201_13
              try clear hx201_2
              try clear hx201_3
              try clear hx201_4
              try clear hx201_5
              try clear hx201_6
              try clear hx201_7
              try clear hx201_8
              try clear hx201_9
              try clear hx204_0
              try clear hx204_1
              try clear hx204_10
              try clear hx204_11
              try clear hx204_12
              try clear hx204_13
              try clear hx204_2
              try clear hx204_3
              try clear hx204_4
              try clear hx204_5
              try clear hx204_6
              try clear hx204_7
              try clear hx204_8
              try clear hx204_9
              try clear hx206_0
              try clear p1
              try clear p13
              try clear p18
              try clear p2
              try clear p20
              try clear p200
              try clear p201
              try clear p204
              try clear p206
              try clear p6
              try clear q1
              try clear q10
              try clear q13
              try clear q18
              try clear q2
              try clear q20
              try clear q200
              try clear q201
              try clear q204
              try clear q206
              obtain ⟨kq, x82_26, rfl, HA, HJ26, HO_3, BK196, BK205, HB⟩ := hcut
              cases kq with
              | zero => exact absurd HA.out (by simp [davitref02_led.j3])
              | succ kj26 =>
               have H := HA.out
               clear HA
               simp only [davitref02_led.j3] at H
               have HC54 := Aside0.mk H
               clear H
               go_upto_if 82 with (fail)
               go_cut [] (fun wc => ∃ (kq : Nat) (x3_53 : List Bool), Aside0 (davitref02_led.j4 kq x3_53 x5_2 x6_3 a0_0 a0_1 l0_2 ((rd_T41 l0_2 x6_3).f3.f0) ((rd_T41 l0_2 x6_3).f3.f1) ((rd_T41 l0_2 x6_3).f3.f2) ((rd_T41 l0_2 x6_3).f3.f3) ((rd_T41 l0_2 x6_3).f3.f4) ((rd_T41 l0_2 x6_3).f3.f5) ((rd_T41 l0_2 x6_3).f3.f6) ((rd_T41 l0_2 x6_3).f3.f7) = some r) ∧ Aside0 (kq ≤ kj26) ∧ Aside0 (Kd.R Kd.bool 4 wc w.heap.size (fun _ => True) v198 x3_53) ∧ Aside0 (wc.heap[gb196]? = some (.cells #[.int .i64 a0_0, .int .i64 a0_1, (.slice (some ad204) l0_2.length c0_2)] 27 (0, 0))) ∧ Aside0 (wc.heap[gb205]? = some (.cells #[.int .i64 ((rd_T41 l0_2 x6_3).f3.f0), .int .i64 ((rd_T41 l0_2 x6_3).f3.f1), .int .i64 ((rd_T41 l0_2 x6_3).f3.f2), .int .i64 ((rd_T41 l0_2 x6_3).f3.f3), (.slice A204_10 ((rd_T41 l0_2 x6_3).f3.f4).length c204_10), .int .i64 ((rd_T41 l0_2 x6_3).f3.f5), .int .i64 ((rd_T41 l0_2 x6_3).f3.f6), .int .i64 ((rd_T41 l0_2 x6_3).f3.f7)] 39 (0, 0))) ∧ Aside0 (Below w.heap.size w wc))
               case first =>
                have H := HC54.out
                clear HC54
                by_cases c55 : x82_26 = true
                ·subst c55
                 have H1 : (if 0 ≤ ((rd_T41 l0_2 x6_3).f3.f5) then (if ((rd_T41 l0_2 x6_3).f3.f5) < (x3_3.length : Int) then (davitref02_led.j4 kj26 (x3_3.set (((rd_T41 l0_2 x6_3).f3.f5) : Int).toNat true) x5_2 x6_3 a0_0 a0_1 l0_2 ((rd_T41 l0_2 x6_3).f3.f0) ((rd_T41 l0_2 x6_3).f3.f1) ((rd_T41 l0_2 x6_3).f3.f2) ((rd_T41 l0_2 x6_3).f3.f3) ((rd_T41 l0_2 x6_3).f3.f4) ((rd_T41 l0_2 x6_3).f3.f5) ((rd_T41 l0_2 x6_3).f3.f6) ((rd_T41 l0_2 x6_3).f3.f7)) else (none)) else (none)) = some r := by rw [if_pos rfl] at H; exact H
                 clear H
                 have H := H1
                 clear H1
                 by_cases c56 : 0 ≤ ((rd_T41 l0_2 x6_3).f3.f5)
                 ·rw [if_pos c56] at H
                  have c56b0 : decide (0 ≤ ((rd_T41 l0_2 x6_3).f3.f5)) = true := decide_eq_true c56
                  clear c56
                  (first | rw [c56b0] | (simp only [i64_w, i32_w]; rw [c56b0]) | skip)
                  by_cases c57 : ((rd_T41 l0_2 x6_3).f3.f5) < (x3_3.length : Int)
                  ·rw [if_pos c57] at H
                   have c57b0 : decide (((rd_T41 l0_2 x6_3).f3.f5) < (x3_3.length : Int)) = true := decide_eq_true c57
                   clear c57
                   obtain ⟨y210, hy210⟩ : ∃ y_ : List Bool, y_ = (x3_3.set (((rd_T41 l0_2 x6_3).f3.f5) : Int).toNat true) := ⟨_, rfl⟩
                   replace H : (davitref02_led.j4 kj26 y210 x5_2 x6_3 a0_0 a0_1 l0_2 ((rd_T41 l0_2 x6_3).f3.f0) ((rd_T41 l0_2 x6_3).f3.f1) ((rd_T41 l0_2 x6_3).f3.f2) ((rd_T41 l0_2 x6_3).f3.f3) ((rd_T41 l0_2 x6_3).f3.f4) ((rd_T41 l0_2 x6_3).f3.f5) ((rd_T41 l0_2 x6_3).f3.f6) ((rd_T41 l0_2 x6_3).f3.f7)) = some r := by first | (rw [hy210]; with_reducible exact H) | (have H2_ := (Option.bind_some _ _).symm.trans H; rw [hy210]; with_reducible exact H2_) | (have H2_ := (Option.bind_some _ _).symm.trans H; with_reducible exact H2_) | with_reducible exact H | (rw [hy210]; exact H) | exact H
                   have Ny210 := Aside0.mk hy210
                   clear hy210
                   have H' := Aside0.mk H
                   clear H
                   have hnb59 := NB205_196.out
                   have hnc59 := NB196_205.out
                   have hcz60_0 : wc.cell? ⟨gb205, 0, none⟩ = some (.int .i64 ((rd_T41 l0_2 x6_3).f3.f0)) := (blk_cell BK205.out 0).trans rfl
                   have hcz60_1 : wc.cell? ⟨gb205, 1, none⟩ = some (.int .i64 ((rd_T41 l0_2 x6_3).f3.f1)) := (blk_cell BK205.out 1).trans rfl
                   have hcz60_2 : wc.cell? ⟨gb205, 2, none⟩ = some (.int .i64 ((rd_T41 l0_2 x6_3).f3.f2)) := (blk_cell BK205.out 2).trans rfl
                   have hcz60_3 : wc.cell? ⟨gb205, 3, none⟩ = some (.int .i64 ((rd_T41 l0_2 x6_3).f3.f3)) := (blk_cell BK205.out 3).trans rfl
                   have hcz60_4 : wc.cell? ⟨gb205, 4, none⟩ = some (.slice A204_10 ((rd_T41 l0_2 x6_3).f3.f4).length c204_10) := (blk_cell BK205.out 4).trans rfl
                   have hcz60_5 : wc.cell? ⟨gb205, 5, none⟩ = some (.int .i64 ((rd_T41 l0_2 x6_3).f3.f5)) := (blk_cell BK205.out 5).trans rfl
                   have hcz60_6 : wc.cell? ⟨gb205, 6, none⟩ = some (.int .i64 ((rd_T41 l0_2 x6_3).f3.f6)) := (blk_cell BK205.out 6).trans rfl
                   have hcz60_7 : wc.cell? ⟨gb205, 7, none⟩ = some (.int .i64 ((rd_T41 l0_2 x6_3).f3.f7)) := (blk_cell BK205.out 7).trans rfl
                   obtain ⟨hfz60_0, hfz60_1, hfz60_2, hfz60_3, hfz60_4, hfz60_5, hfz60_6, hfz60_7⟩ := fz8 BK205.out
                   have p58 : 0 ≤ (((rd_T41 l0_2 x6_3).f3.f5) : Int) := of_decide_eq_true (by first | (with_reducible assumption) | assumption)
                   have q58 : (((rd_T41 l0_2 x6_3).f3.f5) : Int) < ((x3_3.length : Int) : Int) := of_decide_eq_true (by first | (with_reducible assumption) | assumption)
                   obtain ⟨go58, co58, eo58, gb58, gl58, cl58, HG58⟩ := Kd.R_form HO_3.out (by omega)
                   (first | cases eo58 | (injection eo58 with ea_ en_ ec_; (first | subst ea_ | (injection ea_ with ea_; subst ea_)); subst ec_; clear en_))
                   have GB58 := Aside0.mk gb58
                   have GG58 := Aside0.mk HG58
                   clear gb58 gl58 HG58
                   obtain ⟨hx58_0, hf58_0⟩ := Kd.R_celln false HO_3.out (((rd_T41 l0_2 x6_3).f3.f5) : Int) p58 q58
                   replace p58 := eq_true p58
                   replace q58 := eq_true q58
                   have HP61 := Kd.R_putg HO_3.out (((rd_T41 l0_2 x6_3).f3.f5) : Int) true
                   go_wp2_with (first | ((with_reducible refine gate_store (t := 4) (p := 86) rfl ?_); refine store_event (t := 4) (p := 86) (v := ?vo_w62) (w1 := (wc.setCell ⟨go58, (((rd_T41 l0_2 x6_3).f3.f5) : Int).toNat, none⟩ (.bool true))) ?hg ?ho ?hn ?hr ?_; (case ho => rfl); (case hg => rfl); (case hn => rfl); (case hr => first | (go_simp; done) | (go_simp; rfl)); intro w62 hw; have hg : wc.grownBy w62 (some go58) := (by rw [hw]; exact HP61.2); have hp_ : Kd.R Kd.bool 4 w62 w.heap.size (fun _ => True) (.slice (some ⟨go58, 0, none⟩) x3_3.length co58) y210 := (by rw [hw, Ny210.out]; exact HP61.1); clear HP61; have n0_ := Aside0.mk (hp_); have n1_ := Aside0.mk (blk_grown (g := gb196) (o := .cells #[.int .i64 a0_0, .int .i64 a0_1, .slice (some ad204) l0_2.length c0_2] 27 (0, 0)) (by (with_reducible repeat (first | refine blk_drewN ?_ _ | refine blk_drew ?_ | refine blk_alloc ?_ _)); exact BK196.out) hg (Kd.R_ne HO_3.out BK196.out (by decide))); have n2_ := Aside0.mk (blk_grown (g := gb205) (o := .cells #[.int .i64 ((rd_T41 l0_2 x6_3).f3.f0), .int .i64 ((rd_T41 l0_2 x6_3).f3.f1), .int .i64 ((rd_T41 l0_2 x6_3).f3.f2), .int .i64 ((rd_T41 l0_2 x6_3).f3.f3), .slice A204_10 ((rd_T41 l0_2 x6_3).f3.f4).length c204_10, .int .i64 ((rd_T41 l0_2 x6_3).f3.f5), .int .i64 ((rd_T41 l0_2 x6_3).f3.f6), .int .i64 ((rd_T41 l0_2 x6_3).f3.f7)] 39 (0, 0)) (by (with_reducible repeat (first | refine blk_drewN ?_ _ | refine blk_drew ?_ | refine blk_alloc ?_ _)); exact BK205.out) hg (Kd.R_ne HO_3.out BK205.out (by decide))); have n3_ := Aside0.mk ((by rw [hw]; exact below_set (HB.out) GB58.out : Below w.heap.size w w62)); clear HO_3; clear BK196; clear BK205; clear HB; have HO_3 := n0_; have BK196 := n1_; have BK205 := n2_; have HB := n3_; clear n0_ n1_ n2_ n3_; clear hg hw hp_))
                   go_meet
                   case rel => exact ⟨_, (y210), H', ⟨by have := HK1.out; have := HK2.out; have := HK3.out; have := HJ26.out; first | omega | exact Nat.le_refl _⟩, ⟨by (with_reducible repeat (first | apply Kd.R_alloc | apply Kd.R_drewN | apply Kd.R_drew)); exact HO_3.out⟩, ⟨by (with_reducible repeat (first | refine blk_drewN ?_ _ | refine blk_drew ?_ | refine blk_alloc ?_ _)); exact BK196.out⟩, ⟨by (with_reducible repeat (first | refine blk_drewN ?_ _ | refine blk_drew ?_ | refine blk_alloc ?_ _)); exact BK205.out⟩, ⟨by repeat (first | (with_reducible first | exact HB.out | apply below_alloc | apply pw_below_drewN | apply below_drew1 | refine below_set ?_ GE196.out | refine below_set ?_ GE205.out) | exact HB.out)⟩⟩
                  ·rw [if_neg c57] at H
                   exact absurd H (by simp)
                 ·rw [if_neg c56] at H
                  exact absurd H (by simp)
                ·replace c55 := Bool.eq_false_iff.mpr c55
                 subst c55
                 have H1 : (davitref02_led.j4 kj26 x3_3 x5_2 x6_3 a0_0 a0_1 l0_2 ((rd_T41 l0_2 x6_3).f3.f0) ((rd_T41 l0_2 x6_3).f3.f1) ((rd_T41 l0_2 x6_3).f3.f2) ((rd_T41 l0_2 x6_3).f3.f3) ((rd_T41 l0_2 x6_3).f3.f4) ((rd_T41 l0_2 x6_3).f3.f5) ((rd_T41 l0_2 x6_3).f3.f6) ((rd_T41 l0_2 x6_3).f3.f7)) = some r := by rw [if_neg (show ¬ (false = true) by decide)] at H; exact H
                 clear H
                 have H := H1
                 clear H1
                 have H' := Aside0.mk H
                 clear H
                 go_wp2
                 go_meet
                 case rel => exact ⟨_, (x3_3), H', ⟨by have := HK1.out; have := HK2.out; have := HK3.out; have := HJ26.out; first | omega | exact Nat.le_refl _⟩, ⟨by (with_reducible repeat (first | apply Kd.R_alloc | apply Kd.R_drewN | apply Kd.R_drew)); exact HO_3.out⟩, ⟨by (with_reducible repeat (first | refine blk_drewN ?_ _ | refine blk_drew ?_ | refine blk_alloc ?_ _)); exact BK196.out⟩, ⟨by (with_reducible repeat (first | refine blk_drewN ?_ _ | refine blk_drew ?_ | refine blk_alloc ?_ _)); exact BK205.out⟩, ⟨by repeat (first | (with_reducible first | exact HB.out | apply below_alloc | apply pw_below_drewN | apply below_drew1 | refine below_set ?_ GE196.out | refine below_set ?_ GE205.out) | exact HB.out)⟩⟩
               case rest =>
                clear HC54
                try clear c1
                try clear p1
                try clear q1
                try clear hx1
                try clear hf1
                try clear c2
                try clear c2b0
                try clear c2b1
                try clear p2
                try clear q2
                try clear hx2
                try clear c3
                try clear c3b0
                try clear c3b1
                try clear q3
                try clear c4
                try clear c5
                try clear p5
                try clear q5
                try clear hx5
                try clear hf5
                try clear p6
                try clear c8
                try clear c8b0
                try clear c9
                try clear c9b0
                try clear q10
                try clear c11
                try clear c12
                try clear c12b0
                try clear p13
                try clear q13
                try clear hx13
                try clear hf13
                try clear c17
                try clear c17b0
                try clear p18
                try clear q18
                try clear hx18
                try clear hf18
                try clear c20
                try clear p20
                try clear q20
                try clear hx20
                try clear c23
                try clear c23b0
                try clear c25
                try clear c25b0
                try clear c26
                try clear c26b0
                try clear c30
                try clear c32
                try clear c32b0
                try clear q33
                try clear c34
                try clear c35
                try clear c35b0
                try clear c35b1
                try clear c38
                try clear c40
                try clear c40b0
                try clear c40b1
                try clear c43
                try clear c45
                try clear c45b0
                try clear c45b1
                try clear c48
                try clear c51
                try clear c55
                try clear c56
                try clear c56b0
                try clear c57
                try clear c57b0
                try clear p58
                try clear q58
                try clear hx58
                try clear hf58
                try clear c59
                try clear hcz14_0
                try clear hcz14_1
                try clear hcz14_2
                try clear hcz19_0
                try clear hcz19_1
                try clear hcz19_2
                try clear hcz22_0
                try clear hcz22_1
                try clear hcz22_2
                try clear hcz24_0
                try clear hcz24_1
                try clear hcz24_2
                try clear hcz28_0
                try clear hcz28_1
                try clear hcz28_2
                try clear hcz31_0
                try clear hcz31_1
                try clear hcz31_2
                try clear hcz31_3
                try clear hcz31_4
                try clear hcz31_5
                try clear hcz31_6
                try clear hcz31_7
                try clear hcz39_0
                try clear hcz39_1
                try clear hcz39_2
                try clear hcz39_3
                try clear hcz39_4
                try clear hcz39_5
                try clear hcz39_6
                try clear hcz39_7
                try clear hcz44_0
                try clear hcz44_1
                try clear hcz44_2
                try clear hcz44_3
                try clear hcz44_4
                try clear hcz44_5
                try clear hcz44_6
                try clear hcz44_7
                try clear hcz49_0
                try clear hcz49_1
                try clear hcz49_2
                try clear hcz49_3
                try clear hcz49_4
                try clear hcz49_5
                try clear hcz49_6
                try clear hcz49_7
                try clear hcz52_0
                try clear hcz52_1
                try clear hcz52_2
                try clear hcz52_3
                try clear hcz52_4
                try clear hcz52_5
                try clear hcz52_6
                try clear hcz52_7
                try clear hcz5_0
                try clear hcz5_1
                try clear hcz5_2
                try clear hcz60_0
                try clear hcz60_1
                try clear hcz60_2
                try clear hcz60_3
                try clear hcz60_4
                try clear hcz60_5
                try clear hcz60_6
                try clear hcz60_7
                try clear hfz14_0
                try clear hfz14_1
                try clear hfz14_2
                try clear hfz19_0
                try clear hfz19_1
                try clear hfz19_2
                try clear hfz22_0
                try clear hfz22_1
                try clear hfz22_2
                try clear hfz24_0
                try clear hfz24_1
                try clear hfz24_2
                try clear hfz28_0
                try clear hfz28_1
                try clear hfz28_2
                try clear hfz31_0
                try clear hfz31_1
                try clear hfz31_2
                try clear hfz31_3
                try clear hfz31_4
                try clear hfz31_5
                try clear hfz31_6
                try clear hfz31_7
                try clear hfz39_0
                try clear hfz39_1
                try clear hfz39_2
                try clear hfz39_3
                try clear hfz39_4
                try clear hfz39_5
                try clear hfz39_6
                try clear hfz39_7
                try clear hfz44_0
                try clear hfz44_1
                try clear hfz44_2
                try clear hfz44_3
                try clear hfz44_4
                try clear hfz44_5
                try clear hfz44_6
                try clear hfz44_7
                try clear hfz49_0
                try clear hfz49_1
                try clear hfz49_2
                try clear hfz49_3
                try clear hfz49_4
                try clear hfz49_5
                try clear hfz49_6
                try clear hfz49_7
                try clear hfz52_0
                try clear hfz52_1
                try clear hfz52_2
                try clear hfz52_3
                try clear hfz52_4
                try clear hfz52_5
                try clear hfz52_6
                try clear hfz52_7
                try clear hfz5_0
                try clear hfz5_1
                try clear hfz5_2
                try clear hfz60_0
                try clear hfz60_1
                try clear hfz60_2
                try clear hfz60_3
                try clear hfz60_4
                try clear hfz60_5
                try clear hfz60_6
                try clear hfz60_7
                try clear hx13_0
                try clear hx18_0
                try clear hx200_0
                try clear hx200_1
                try clear hx200_10
                try clear hx200_11
                try clear hx200_12
                try clear hx200_13
                try clear hx200_2
                try clear hx200_3
                try clear hx200_4
                try clear hx200_5
                try clear hx200_6
                try clear hx200_7
                try clear hx200_8
                try clear hx200_9
                try clear hx201_0
                try clear hx201_1
                try clear hx201_10
                try clear hx201_11
                try clear hx201_12
                try clear hx201_13
                try clear hx201_2
                try clear hx201_3
                try clear hx201_4
                try clear hx201_5
                try clear hx201_6
                try clear hx201_7
                try clear hx201_8
                try clear hx201_9
                try clear hx204_0
                try clear hx204_1
                try clear hx204_10
                try clear hx204_11
                try clear hx204_12
                try clear hx204_13
                try clear hx204_2
                try clear hx204_3
                try clear hx204_4
                try clear hx204_5
                try clear hx204_6
                try clear hx204_7
                try clear hx204_8
                try clear hx204_9
                try clear hx206_0
                try clear hx58_0
                try clear p1
                try clear p13
                try clear p18
                try clear p2
                try clear p20
                try clear p200
                try clear p201
                try clear p204
                try clear p206
                try clear p58
                try clear p6
                try clear q1
                try clear q10
                try clear q13
                try clear q18
                try clear q2
                try clear q20
                try clear q200
                try clear q201
                try clear q204
                try clear q206
                try clear q3
                try clear q33
                try clear q58
                obtain ⟨kq, x3_53, HA, HJ53, HO_3, BK196, BK205, HB⟩ := hcut
                cases kq with
                | zero => exact absurd HA.out (by simp [davitref02_led.j4])
                | succ kj53 =>
                 have H := HA.out
                 clear HA
                 simp only [davitref02_led.j4] at H
                 have HC63 := Aside0.mk H
                 clear H
                 go_upto_region 15 with (fail)
                 go_cut [102] (fun v102 wc => ∃ (kq : Nat) (x102_62 : Bool), v102 = .bool x102_62 ∧ Aside0 (davitref02_led.j5 kq x3_53 x5_2 x6_3 x102_62 a0_0 a0_1 l0_2 ((rd_T41 l0_2 x6_3).f3.f0) ((rd_T41 l0_2 x6_3).f3.f1) ((rd_T41 l0_2 x6_3).f3.f2) ((rd_T41 l0_2 x6_3).f3.f3) ((rd_T41 l0_2 x6_3).f3.f4) ((rd_T41 l0_2 x6_3).f3.f5) ((rd_T41 l0_2 x6_3).f3.f6) ((rd_T41 l0_2 x6_3).f3.f7) = some r) ∧ Aside0 (kq ≤ kj53) ∧ Aside0 (Kd.R Kd.bool 4 wc w.heap.size (fun _ => True) v198 x3_53) ∧ Aside0 (wc.heap[gb196]? = some (.cells #[.int .i64 a0_0, .int .i64 a0_1, (.slice (some ad204) l0_2.length c0_2)] 27 (0, 0))) ∧ Aside0 (wc.heap[gb205]? = some (.cells #[.int .i64 ((rd_T41 l0_2 x6_3).f3.f0), .int .i64 ((rd_T41 l0_2 x6_3).f3.f1), .int .i64 ((rd_T41 l0_2 x6_3).f3.f2), .int .i64 ((rd_T41 l0_2 x6_3).f3.f3), (.slice A204_10 ((rd_T41 l0_2 x6_3).f3.f4).length c204_10), .int .i64 ((rd_T41 l0_2 x6_3).f3.f5), .int .i64 ((rd_T41 l0_2 x6_3).f3.f6), .int .i64 ((rd_T41 l0_2 x6_3).f3.f7)] 39 (0, 0))) ∧ Aside0 (Below w.heap.size w wc))
                 case first =>
                  have H := HC63.out
                  clear HC63
                  by_cases c64 : 0 ≤ x6_3
                  ·rw [if_pos c64] at H
                   have c64b0 : decide (0 ≤ x6_3) = true := decide_eq_true c64
                   clear c64
                   (first | rw [c64b0] | (simp only [i64_w, i32_w]; rw [c64b0]) | skip)
                   by_cases c65 : x6_3 < (x3_53.length : Int)
                   ·rw [if_pos c65] at H
                    have c65b0 : decide (x6_3 < (x3_53.length : Int)) = true := decide_eq_true c65
                    clear c65
                    obtain ⟨bq66, hbq66⟩ : ∃ b_ : Bool, b_ = (rdOf false x3_53 x6_3) := ⟨_, rfl⟩
                    replace H : (if bq66 = true then (if ((rd_T41 l0_2 x6_3).f3.f0) = 3 then ((davitref02_within.f ((rd_T41 l0_2 x6_3).f3.f6) (x3_53.length : Int)).bind fun t212 => (davitref02_led.j5 kj53 x3_53 x5_2 x6_3 t212 a0_0 a0_1 l0_2 ((rd_T41 l0_2 x6_3).f3.f0) ((rd_T41 l0_2 x6_3).f3.f1) ((rd_T41 l0_2 x6_3).f3.f2) ((rd_T41 l0_2 x6_3).f3.f3) ((rd_T41 l0_2 x6_3).f3.f4) ((rd_T41 l0_2 x6_3).f3.f5) ((rd_T41 l0_2 x6_3).f3.f6) ((rd_T41 l0_2 x6_3).f3.f7))) else (davitref02_led.j5 kj53 x3_53 x5_2 x6_3 false a0_0 a0_1 l0_2 ((rd_T41 l0_2 x6_3).f3.f0) ((rd_T41 l0_2 x6_3).f3.f1) ((rd_T41 l0_2 x6_3).f3.f2) ((rd_T41 l0_2 x6_3).f3.f3) ((rd_T41 l0_2 x6_3).f3.f4) ((rd_T41 l0_2 x6_3).f3.f5) ((rd_T41 l0_2 x6_3).f3.f6) ((rd_T41 l0_2 x6_3).f3.f7))) else (davitref02_led.j5 kj53 x3_53 x5_2 x6_3 false a0_0 a0_1 l0_2 ((rd_T41 l0_2 x6_3).f3.f0) ((rd_T41 l0_2 x6_3).f3.f1) ((rd_T41 l0_2 x6_3).f3.f2) ((rd_T41 l0_2 x6_3).f3.f3) ((rd_T41 l0_2 x6_3).f3.f4) ((rd_T41 l0_2 x6_3).f3.f5) ((rd_T41 l0_2 x6_3).f3.f6) ((rd_T41 l0_2 x6_3).f3.f7))) = some r := by rw [← hbq66] at H; exact H
                    have Nbq66 := Aside0.mk hbq66
                    clear hbq66
                    by_cases c67 : bq66 = true
                    ·subst c67
                     have H1 : (if ((rd_T41 l0_2 x6_3).f3.f0) = 3 then ((davitref02_within.f ((rd_T41 l0_2 x6_3).f3.f6) (x3_53.length : Int)).bind fun t212 => (davitref02_led.j5 kj53 x3_53 x5_2 x6_3 t212 a0_0 a0_1 l0_2 ((rd_T41 l0_2 x6_3).f3.f0) ((rd_T41 l0_2 x6_3).f3.f1) ((rd_T41 l0_2 x6_3).f3.f2) ((rd_T41 l0_2 x6_3).f3.f3) ((rd_T41 l0_2 x6_3).f3.f4) ((rd_T41 l0_2 x6_3).f3.f5) ((rd_T41 l0_2 x6_3).f3.f6) ((rd_T41 l0_2 x6_3).f3.f7))) else (davitref02_led.j5 kj53 x3_53 x5_2 x6_3 false a0_0 a0_1 l0_2 ((rd_T41 l0_2 x6_3).f3.f0) ((rd_T41 l0_2 x6_3).f3.f1) ((rd_T41 l0_2 x6_3).f3.f2) ((rd_T41 l0_2 x6_3).f3.f3) ((rd_T41 l0_2 x6_3).f3.f4) ((rd_T41 l0_2 x6_3).f3.f5) ((rd_T41 l0_2 x6_3).f3.f6) ((rd_T41 l0_2 x6_3).f3.f7))) = some r := by rw [if_pos rfl] at H; exact H
                     clear H
                     have H := H1
                     clear H1
                     by_cases c68 : ((rd_T41 l0_2 x6_3).f3.f0) = 3
                     ·rw [if_pos c68] at H
                      have c68b0 : (((rd_T41 l0_2 x6_3).f3.f0) == 3) = true := beq_iff_eq.mpr c68
                      have c68b1 : (((rd_T41 l0_2 x6_3).f3.f0) != 3) = false := bne_eq_false_iff_eq.mpr c68
                      clear c68
                      replace H := Option.bind_eq_some_iff.mp H
                      obtain ⟨t212, A690, H⟩ := H
                      replace H : (davitref02_led.j5 kj53 x3_53 x5_2 x6_3 t212 a0_0 a0_1 l0_2 ((rd_T41 l0_2 x6_3).f3.f0) ((rd_T41 l0_2 x6_3).f3.f1) ((rd_T41 l0_2 x6_3).f3.f2) ((rd_T41 l0_2 x6_3).f3.f3) ((rd_T41 l0_2 x6_3).f3.f4) ((rd_T41 l0_2 x6_3).f3.f5) ((rd_T41 l0_2 x6_3).f3.f6) ((rd_T41 l0_2 x6_3).f3.f7)) = some r := H
                      have A69 := Aside0.mk A690
                      clear A690
                      have H' := Aside0.mk H
                      clear H
                      obtain ⟨Ao70, co70, eo70⟩ := Kd.R_slice HO_3.out
                      subst eo70
                      have p211 : 0 ≤ (x6_3 : Int) := of_decide_eq_true (by first | (with_reducible assumption) | assumption)
                      have q211 : x6_3 < (x3_53.length : Int) := of_decide_eq_true (by first | (with_reducible assumption) | assumption)
                      obtain ⟨ad211, e211, hx211_0⟩ := Kd.at_bool (Kd.R_reads' HO_3.out).2.2 x6_3 p211 q211
                      (try rw [← Nbq66.out] at hx211_0)
                      cases e211
                      replace p211 := eq_true p211
                      replace q211 := eq_true q211
                      have hnb71 := NB205_196.out
                      have hnc71 := NB196_205.out
                      have hcz72_0 : wc.cell? ⟨gb205, 0, none⟩ = some (.int .i64 ((rd_T41 l0_2 x6_3).f3.f0)) := (blk_cell BK205.out 0).trans rfl
                      have hcz72_1 : wc.cell? ⟨gb205, 1, none⟩ = some (.int .i64 ((rd_T41 l0_2 x6_3).f3.f1)) := (blk_cell BK205.out 1).trans rfl
                      have hcz72_2 : wc.cell? ⟨gb205, 2, none⟩ = some (.int .i64 ((rd_T41 l0_2 x6_3).f3.f2)) := (blk_cell BK205.out 2).trans rfl
                      have hcz72_3 : wc.cell? ⟨gb205, 3, none⟩ = some (.int .i64 ((rd_T41 l0_2 x6_3).f3.f3)) := (blk_cell BK205.out 3).trans rfl
                      have hcz72_4 : wc.cell? ⟨gb205, 4, none⟩ = some (.slice A204_10 ((rd_T41 l0_2 x6_3).f3.f4).length c204_10) := (blk_cell BK205.out 4).trans rfl
                      have hcz72_5 : wc.cell? ⟨gb205, 5, none⟩ = some (.int .i64 ((rd_T41 l0_2 x6_3).f3.f5)) := (blk_cell BK205.out 5).trans rfl
                      have hcz72_6 : wc.cell? ⟨gb205, 6, none⟩ = some (.int .i64 ((rd_T41 l0_2 x6_3).f3.f6)) := (blk_cell BK205.out 6).trans rfl
                      have hcz72_7 : wc.cell? ⟨gb205, 7, none⟩ = some (.int .i64 ((rd_T41 l0_2 x6_3).f3.f7)) := (blk_cell BK205.out 7).trans rfl
                      obtain ⟨hfz72_0, hfz72_1, hfz72_2, hfz72_3, hfz72_4, hfz72_5, hfz72_6, hfz72_7⟩ := fz8 BK205.out
                      go_wp2_with (first | (go_at_call 88; (with_reducible refine (davitref02_within.calls ((rd_T41 l0_2 x6_3).f3.f6) (x3_53.length : Int) t212 _ A69.out).mono ?_); rintro e w' ⟨rfl, ⟨nd, rfl⟩⟩))
                      go_meet
                      case rel => exact ⟨_, (t212), (by first | rfl | (simp; done) | (simp [*]; done)), H', ⟨by have := HK1.out; have := HK2.out; have := HK3.out; have := HJ26.out; have := HJ53.out; first | omega | exact Nat.le_refl _⟩, ⟨by (with_reducible repeat (first | apply Kd.R_alloc | apply Kd.R_drewN | apply Kd.R_drew)); exact HO_3.out⟩, ⟨by (with_reducible repeat (first | refine blk_drewN ?_ _ | refine blk_drew ?_ | refine blk_alloc ?_ _)); exact BK196.out⟩, ⟨by (with_reducible repeat (first | refine blk_drewN ?_ _ | refine blk_drew ?_ | refine blk_alloc ?_ _)); exact BK205.out⟩, ⟨by repeat (first | (with_reducible first | exact HB.out | apply below_alloc | apply pw_below_drewN | apply below_drew1 | refine below_set ?_ GE196.out | refine below_set ?_ GE205.out) | exact HB.out)⟩⟩
                     ·rw [if_neg c68] at H
                      have c68b0 : (((rd_T41 l0_2 x6_3).f3.f0) == 3) = false := beq_eq_false_iff_ne.mpr c68
                      have c68b1 : (((rd_T41 l0_2 x6_3).f3.f0) != 3) = true := bne_iff_ne.mpr c68
                      have H' := Aside0.mk H
                      clear H
                      obtain ⟨Ao73, co73, eo73⟩ := Kd.R_slice HO_3.out
                      subst eo73
                      have p211 : 0 ≤ (x6_3 : Int) := of_decide_eq_true (by first | (with_reducible assumption) | assumption)
                      have q211 : x6_3 < (x3_53.length : Int) := of_decide_eq_true (by first | (with_reducible assumption) | assumption)
                      obtain ⟨ad211, e211, hx211_0⟩ := Kd.at_bool (Kd.R_reads' HO_3.out).2.2 x6_3 p211 q211
                      (try rw [← Nbq66.out] at hx211_0)
                      cases e211
                      replace p211 := eq_true p211
                      replace q211 := eq_true q211
                      have hnb74 := NB205_196.out
                      have hnc74 := NB196_205.out
                      have hcz75_0 : wc.cell? ⟨gb205, 0, none⟩ = some (.int .i64 ((rd_T41 l0_2 x6_3).f3.f0)) := (blk_cell BK205.out 0).trans rfl
                      have hcz75_1 : wc.cell? ⟨gb205, 1, none⟩ = some (.int .i64 ((rd_T41 l0_2 x6_3).f3.f1)) := (blk_cell BK205.out 1).trans rfl
                      have hcz75_2 : wc.cell? ⟨gb205, 2, none⟩ = some (.int .i64 ((rd_T41 l0_2 x6_3).f3.f2)) := (blk_cell BK205.out 2).trans rfl
                      have hcz75_3 : wc.cell? ⟨gb205, 3, none⟩ = some (.int .i64 ((rd_T41 l0_2 x6_3).f3.f3)) := (blk_cell BK205.out 3).trans rfl
                      have hcz75_4 : wc.cell? ⟨gb205, 4, none⟩ = some (.slice A204_10 ((rd_T41 l0_2 x6_3).f3.f4).length c204_10) := (blk_cell BK205.out 4).trans rfl
                      have hcz75_5 : wc.cell? ⟨gb205, 5, none⟩ = some (.int .i64 ((rd_T41 l0_2 x6_3).f3.f5)) := (blk_cell BK205.out 5).trans rfl
                      have hcz75_6 : wc.cell? ⟨gb205, 6, none⟩ = some (.int .i64 ((rd_T41 l0_2 x6_3).f3.f6)) := (blk_cell BK205.out 6).trans rfl
                      have hcz75_7 : wc.cell? ⟨gb205, 7, none⟩ = some (.int .i64 ((rd_T41 l0_2 x6_3).f3.f7)) := (blk_cell BK205.out 7).trans rfl
                      obtain ⟨hfz75_0, hfz75_1, hfz75_2, hfz75_3, hfz75_4, hfz75_5, hfz75_6, hfz75_7⟩ := fz8 BK205.out
                      go_wp2
                      go_meet
                      case rel => exact ⟨_, (false), (by first | rfl | (simp; done) | (simp [*]; done)), H', ⟨by have := HK1.out; have := HK2.out; have := HK3.out; have := HJ26.out; have := HJ53.out; first | omega | exact Nat.le_refl _⟩, ⟨by (with_reducible repeat (first | apply Kd.R_alloc | apply Kd.R_drewN | apply Kd.R_drew)); exact HO_3.out⟩, ⟨by (with_reducible repeat (first | refine blk_drewN ?_ _ | refine blk_drew ?_ | refine blk_alloc ?_ _)); exact BK196.out⟩, ⟨by (with_reducible repeat (first | refine blk_drewN ?_ _ | refine blk_drew ?_ | refine blk_alloc ?_ _)); exact BK205.out⟩, ⟨by repeat (first | (with_reducible first | exact HB.out | apply below_alloc | apply pw_below_drewN | apply below_drew1 | refine below_set ?_ GE196.out | refine below_set ?_ GE205.out) | exact HB.out)⟩⟩
                    ·replace c67 := Bool.eq_false_iff.mpr c67
                     subst c67
                     have H1 : (davitref02_led.j5 kj53 x3_53 x5_2 x6_3 false a0_0 a0_1 l0_2 ((rd_T41 l0_2 x6_3).f3.f0) ((rd_T41 l0_2 x6_3).f3.f1) ((rd_T41 l0_2 x6_3).f3.f2) ((rd_T41 l0_2 x6_3).f3.f3) ((rd_T41 l0_2 x6_3).f3.f4) ((rd_T41 l0_2 x6_3).f3.f5) ((rd_T41 l0_2 x6_3).f3.f6) ((rd_T41 l0_2 x6_3).f3.f7)) = some r := by rw [if_neg (show ¬ (false = true) by decide)] at H; exact H
                     clear H
                     have H := H1
                     clear H1
                     have H' := Aside0.mk H
                     clear H
                     obtain ⟨Ao76, co76, eo76⟩ := Kd.R_slice HO_3.out
                     subst eo76
                     have p211 : 0 ≤ (x6_3 : Int) := of_decide_eq_true (by first | (with_reducible assumption) | assumption)
                     have q211 : x6_3 < (x3_53.length : Int) := of_decide_eq_true (by first | (with_reducible assumption) | assumption)
                     obtain ⟨ad211, e211, hx211_0⟩ := Kd.at_bool (Kd.R_reads' HO_3.out).2.2 x6_3 p211 q211
                     (try rw [← Nbq66.out] at hx211_0)
                     cases e211
                     replace p211 := eq_true p211
                     replace q211 := eq_true q211
                     go_wp2
                     go_meet
                     case rel => exact ⟨_, (false), (by first | rfl | (simp; done) | (simp [*]; done)), H', ⟨by have := HK1.out; have := HK2.out; have := HK3.out; have := HJ26.out; have := HJ53.out; first | omega | exact Nat.le_refl _⟩, ⟨by (with_reducible repeat (first | apply Kd.R_alloc | apply Kd.R_drewN | apply Kd.R_drew)); exact HO_3.out⟩, ⟨by (with_reducible repeat (first | refine blk_drewN ?_ _ | refine blk_drew ?_ | refine blk_alloc ?_ _)); exact BK196.out⟩, ⟨by (with_reducible repeat (first | refine blk_drewN ?_ _ | refine blk_drew ?_ | refine blk_alloc ?_ _)); exact BK205.out⟩, ⟨by repeat (first | (with_reducible first | exact HB.out | apply below_alloc | apply pw_below_drewN | apply below_drew1 | refine below_set ?_ GE196.out | refine below_set ?_ GE205.out) | exact HB.out)⟩⟩
                   ·rw [if_neg c65] at H
                    exact absurd H (by simp)
                  ·rw [if_neg c64] at H
                   exact absurd H (by simp)
                 case rest =>
                  clear HC63
                  try clear c1
                  try clear p1
                  try clear q1
                  try clear hx1
                  try clear hf1
                  try clear c2
                  try clear c2b0
                  try clear c2b1
                  try clear p2
                  try clear q2
                  try clear hx2
                  try clear c3
                  try clear c3b0
                  try clear c3b1
                  try clear q3
                  try clear c4
                  try clear c5
                  try clear p5
                  try clear q5
                  try clear hx5
                  try clear hf5
                  try clear c6
                  try clear p6
                  try clear q6
                  try clear c7
                  try clear c8
                  try clear c8b0
                  try clear c9
                  try clear c9b0
                  try clear q10
                  try clear c11
                  try clear c12
                  try clear c12b0
                  try clear p13
                  try clear q13
                  try clear hx13
                  try clear hf13
                  try clear c17
                  try clear c17b0
                  try clear p18
                  try clear q18
                  try clear hx18
                  try clear hf18
                  try clear c20
                  try clear p20
                  try clear q20
                  try clear hx20
                  try clear p21
                  try clear q21
                  try clear hx21
                  try clear c23
                  try clear c23b0
                  try clear c25
                  try clear c25b0
                  try clear c26
                  try clear c26b0
                  try clear c30
                  try clear c32
                  try clear c32b0
                  try clear q33
                  try clear c34
                  try clear c35
                  try clear c35b0
                  try clear c35b1
                  try clear c38
                  try clear c40
                  try clear c40b0
                  try clear c40b1
                  try clear c43
                  try clear c45
                  try clear c45b0
                  try clear c45b1
                  try clear c48
                  try clear c51
                  try clear c55
                  try clear c56
                  try clear c56b0
                  try clear c57
                  try clear c57b0
                  try clear p58
                  try clear q58
                  try clear hx58
                  try clear hf58
                  try clear c59
                  try clear c64
                  try clear c64b0
                  try clear c65
                  try clear c65b0
                  try clear q66
                  try clear c67
                  try clear c68
                  try clear c68b0
                  try clear c68b1
                  try clear c71
                  try clear c74
                  try clear hcz14_0
                  try clear hcz14_1
                  try clear hcz14_2
                  try clear hcz19_0
                  try clear hcz19_1
                  try clear hcz19_2
                  try clear hcz22_0
                  try clear hcz22_1
                  try clear hcz22_2
                  try clear hcz24_0
                  try clear hcz24_1
                  try clear hcz24_2
                  try clear hcz28_0
                  try clear hcz28_1
                  try clear hcz28_2
                  try clear hcz31_0
                  try clear hcz31_1
                  try clear hcz31_2
                  try clear hcz31_3
                  try clear hcz31_4
                  try clear hcz31_5
                  try clear hcz31_6
                  try clear hcz31_7
                  try clear hcz39_0
                  try clear hcz39_1
                  try clear hcz39_2
                  try clear hcz39_3
                  try clear hcz39_4
                  try clear hcz39_5
                  try clear hcz39_6
                  try clear hcz39_7
                  try clear hcz44_0
                  try clear hcz44_1
                  try clear hcz44_2
                  try clear hcz44_3
                  try clear hcz44_4
                  try clear hcz44_5
                  try clear hcz44_6
                  try clear hcz44_7
                  try clear hcz49_0
                  try clear hcz49_1
                  try clear hcz49_2
                  try clear hcz49_3
                  try clear hcz49_4
                  try clear hcz49_5
                  try clear hcz49_6
                  try clear hcz49_7
                  try clear hcz52_0
                  try clear hcz52_1
                  try clear hcz52_2
                  try clear hcz52_3
                  try clear hcz52_4
                  try clear hcz52_5
                  try clear hcz52_6
                  try clear hcz52_7
                  try clear hcz5_0
                  try clear hcz5_1
                  try clear hcz5_2
                  try clear hcz60_0
                  try clear hcz60_1
                  try clear hcz60_2
                  try clear hcz60_3
                  try clear hcz60_4
                  try clear hcz60_5
                  try clear hcz60_6
                  try clear hcz60_7
                  try clear hcz72_0
                  try clear hcz72_1
                  try clear hcz72_2
                  try clear hcz72_3
                  try clear hcz72_4
                  try clear hcz72_5
                  try clear hcz72_6
                  try clear hcz72_7
                  try clear hcz75_0
                  try clear hcz75_1
                  try clear hcz75_2
                  try clear hcz75_3
                  try clear hcz75_4
                  try clear hcz75_5
                  try clear hcz75_6
                  try clear hcz75_7
                  try clear hfz14_0
                  try clear hfz14_1
                  try clear hfz14_2
                  try clear hfz19_0
                  try clear hfz19_1
                  try clear hfz19_2
                  try clear hfz22_0
                  try clear hfz22_1
                  try clear hfz22_2
                  try clear hfz24_0
                  try clear hfz24_1
                  try clear hfz24_2
                  try clear hfz28_0
                  try clear hfz28_1
                  try clear hfz28_2
                  try clear hfz31_0
                  try clear hfz31_1
                  try clear hfz31_2
                  try clear hfz31_3
                  try clear hfz31_4
                  try clear hfz31_5
                  try clear hfz31_6
                  try clear hfz31_7
                  try clear hfz39_0
                  try clear hfz39_1
                  try clear hfz39_2
                  try clear hfz39_3
                  try clear hfz39_4
                  try clear hfz39_5
                  try clear hfz39_6
                  try clear hfz39_7
                  try clear hfz44_0
                  try clear hfz44_1
                  try clear hfz44_2
                  try clear hfz44_3
                  try clear hfz44_4
                  try clear hfz44_5
                  try clear hfz44_6
                  try clear hfz44_7
                  try clear hfz49_0
                  try clear hfz49_1
                  try clear hfz49_2
                  try clear hfz49_3
                  try clear hfz49_4
                  try clear hfz49_5
                  try clear hfz49_6
                  try clear hfz49_7
                  try clear hfz52_0
                  try clear hfz52_1
                  try clear hfz52_2
                  try clear hfz52_3
                  try clear hfz52_4
                  try clear hfz52_5
                  try clear hfz52_6
                  try clear hfz52_7
                  try clear hfz5_0
                  try clear hfz5_1
                  try clear hfz5_2
                  try clear hfz60_0
                  try clear hfz60_1
                  try clear hfz60_2
                  try clear hfz60_3
                  try clear hfz60_4
                  try clear hfz60_5
                  try clear hfz60_6
                  try clear hfz60_7
                  try clear hfz72_0
                  try clear hfz72_1
                  try clear hfz72_2
                  try clear hfz72_3
                  try clear hfz72_4
                  try clear hfz72_5
                  try clear hfz72_6
                  try clear hfz72_7
                  try clear hfz75_0
                  try clear hfz75_1
                  try clear hfz75_2
                  try clear hfz75_3
                  try clear hfz75_4
                  try clear hfz75_5
                  try clear hfz75_6
                  try clear hfz75_7
                  try clear hx13_0
                  try clear hx18_0
                  try clear hx200_0
                  try clear hx200_1
                  try clear hx200_10
                  try clear hx200_11
                  try clear hx200_12
                  try clear hx200_13
                  try clear hx200_2
                  try clear hx200_3
                  try clear hx200_4
                  try clear hx200_5
                  try clear hx200_6
                  try clear hx200_7
                  try clear hx200_8
                  try clear hx200_9
                  try clear hx201_0
                  try clear hx201_1
                  try clear hx201_10
                  try clear hx201_11
                  try clear hx201_12
                  try clear hx201_13
                  try clear hx201_2
                  try clear hx201_3
                  try clear hx201_4
                  try clear hx201_5
                  try clear hx201_6
                  try clear hx201_7
                  try clear hx201_8
                  try clear hx201_9
                  try clear hx204_0
                  try clear hx204_1
                  try clear hx204_10
                  try clear hx204_11
                  try clear hx204_12
                  try clear hx204_13
                  try clear hx204_2
                  try clear hx204_3
                  try clear hx204_4
                  try clear hx204_5
                  try clear hx204_6
                  try clear hx204_7
                  try clear hx204_8
                  try clear hx204_9
                  try clear hx206_0
                  try clear hx211_0
                  try clear hx58_0
                  try clear p1
                  try clear p13
                  try clear p18
                  try clear p2
                  try clear p20
                  try clear p200
                  try clear p201
                  try clear p204
                  try clear p206
                  try clear p211
                  try clear p5
                  try clear p58
                  try clear p6
                  try clear q1
                  try clear q10
                  try clear q13
                  try clear q18
                  try clear q2
                  try clear q20
                  try clear q200
                  try clear q201
                  try clear q204
                  try clear q206
                  try clear q211
                  try clear q3
                  try clear q33
                  try clear q5
                  try clear q58
                  obtain ⟨kq, x102_62, rfl, HA, HJ62, HO_3, BK196, BK205, HB⟩ := hcut
                  cases kq with
                  | zero => exact absurd HA.out (by simp [davitref02_led.j5])
                  | succ kj62 =>
                   have H := HA.out
                   clear HA
                   simp only [davitref02_led.j5] at H
                   by_cases c77 : x102_62 = true
                   ·subst c77
                    have H1 : (if 0 ≤ ((rd_T41 l0_2 x6_3).f3.f6) then (if ((rd_T41 l0_2 x6_3).f3.f6) < (x3_53.length : Int) then (davitref02_led.l2 kj62 (x3_53.set (((rd_T41 l0_2 x6_3).f3.f6) : Int).toNat true) x5_2 (wrap64 (x6_3 + 1)) a0_0 a0_1 l0_2) else (none)) else (none)) = some r := by rw [if_pos rfl] at H; exact H
                    clear H
                    have H := H1
                    clear H1
                    by_cases c78 : 0 ≤ ((rd_T41 l0_2 x6_3).f3.f6)
                    ·rw [if_pos c78] at H
                     have c78b0 : decide (0 ≤ ((rd_T41 l0_2 x6_3).f3.f6)) = true := decide_eq_true c78
                     clear c78
                     by_cases c79 : ((rd_T41 l0_2 x6_3).f3.f6) < (x3_53.length : Int)
                     ·rw [if_pos c79] at H
                      have c79b0 : decide (((rd_T41 l0_2 x6_3).f3.f6) < (x3_53.length : Int)) = true := decide_eq_true c79
                      clear c79
                      obtain ⟨y213, hy213⟩ : ∃ y_ : List Bool, y_ = (x3_53.set (((rd_T41 l0_2 x6_3).f3.f6) : Int).toNat true) := ⟨_, rfl⟩
                      replace H : (davitref02_led.l2 kj62 y213 x5_2 (wrap64 (x6_3 + 1)) a0_0 a0_1 l0_2) = some r := by first | (rw [hy213]; with_reducible exact H) | (have H2_ := (Option.bind_some _ _).symm.trans H; rw [hy213]; with_reducible exact H2_) | (have H2_ := (Option.bind_some _ _).symm.trans H; with_reducible exact H2_) | with_reducible exact H | (rw [hy213]; exact H) | exact H
                      have Ny213 := Aside0.mk hy213
                      clear hy213
                      have H' := Aside0.mk H
                      clear H
                      have hnb81 := NB205_196.out
                      have hnc81 := NB196_205.out
                      have hcz82_0 : wc.cell? ⟨gb205, 0, none⟩ = some (.int .i64 ((rd_T41 l0_2 x6_3).f3.f0)) := (blk_cell BK205.out 0).trans rfl
                      have hcz82_1 : wc.cell? ⟨gb205, 1, none⟩ = some (.int .i64 ((rd_T41 l0_2 x6_3).f3.f1)) := (blk_cell BK205.out 1).trans rfl
                      have hcz82_2 : wc.cell? ⟨gb205, 2, none⟩ = some (.int .i64 ((rd_T41 l0_2 x6_3).f3.f2)) := (blk_cell BK205.out 2).trans rfl
                      have hcz82_3 : wc.cell? ⟨gb205, 3, none⟩ = some (.int .i64 ((rd_T41 l0_2 x6_3).f3.f3)) := (blk_cell BK205.out 3).trans rfl
                      have hcz82_4 : wc.cell? ⟨gb205, 4, none⟩ = some (.slice A204_10 ((rd_T41 l0_2 x6_3).f3.f4).length c204_10) := (blk_cell BK205.out 4).trans rfl
                      have hcz82_5 : wc.cell? ⟨gb205, 5, none⟩ = some (.int .i64 ((rd_T41 l0_2 x6_3).f3.f5)) := (blk_cell BK205.out 5).trans rfl
                      have hcz82_6 : wc.cell? ⟨gb205, 6, none⟩ = some (.int .i64 ((rd_T41 l0_2 x6_3).f3.f6)) := (blk_cell BK205.out 6).trans rfl
                      have hcz82_7 : wc.cell? ⟨gb205, 7, none⟩ = some (.int .i64 ((rd_T41 l0_2 x6_3).f3.f7)) := (blk_cell BK205.out 7).trans rfl
                      obtain ⟨hfz82_0, hfz82_1, hfz82_2, hfz82_3, hfz82_4, hfz82_5, hfz82_6, hfz82_7⟩ := fz8 BK205.out
                      have p80 : 0 ≤ (((rd_T41 l0_2 x6_3).f3.f6) : Int) := of_decide_eq_true (by first | (with_reducible assumption) | assumption)
                      have q80 : (((rd_T41 l0_2 x6_3).f3.f6) : Int) < ((x3_53.length : Int) : Int) := of_decide_eq_true (by first | (with_reducible assumption) | assumption)
                      obtain ⟨go80, co80, eo80, gb80, gl80, cl80, HG80⟩ := Kd.R_form HO_3.out (by omega)
                      (first | cases eo80 | (injection eo80 with ea_ en_ ec_; (first | subst ea_ | (injection ea_ with ea_; subst ea_)); subst ec_; clear en_))
                      have GB80 := Aside0.mk gb80
                      have GG80 := Aside0.mk HG80
                      clear gb80 gl80 HG80
                      obtain ⟨hx80_0, hf80_0⟩ := Kd.R_celln false HO_3.out (((rd_T41 l0_2 x6_3).f3.f6) : Int) p80 q80
                      replace p80 := eq_true p80
                      replace q80 := eq_true q80
                      have HP83 := Kd.R_putg HO_3.out (((rd_T41 l0_2 x6_3).f3.f6) : Int) true
                      go_wp2_with (first | ((with_reducible refine gate_store (t := 4) (p := 106) rfl ?_); refine store_event (t := 4) (p := 106) (v := ?vo_w84) (w1 := (wc.setCell ⟨go80, (((rd_T41 l0_2 x6_3).f3.f6) : Int).toNat, none⟩ (.bool true))) ?hg ?ho ?hn ?hr ?_; (case ho => rfl); (case hg => rfl); (case hn => rfl); (case hr => first | (go_simp; done) | (go_simp; rfl)); intro w84 hw; have hg : wc.grownBy w84 (some go80) := (by rw [hw]; exact HP83.2); have hp_ : Kd.R Kd.bool 4 w84 w.heap.size (fun _ => True) (.slice (some ⟨go80, 0, none⟩) x3_53.length co80) y213 := (by rw [hw, Ny213.out]; exact HP83.1); clear HP83; have n0_ := Aside0.mk (hp_); have n1_ := Aside0.mk (blk_grown (g := gb196) (o := .cells #[.int .i64 a0_0, .int .i64 a0_1, .slice (some ad204) l0_2.length c0_2] 27 (0, 0)) (by (with_reducible repeat (first | refine blk_drewN ?_ _ | refine blk_drew ?_ | refine blk_alloc ?_ _)); exact BK196.out) hg (Kd.R_ne HO_3.out BK196.out (by decide))); have n2_ := Aside0.mk (blk_grown (g := gb205) (o := .cells #[.int .i64 ((rd_T41 l0_2 x6_3).f3.f0), .int .i64 ((rd_T41 l0_2 x6_3).f3.f1), .int .i64 ((rd_T41 l0_2 x6_3).f3.f2), .int .i64 ((rd_T41 l0_2 x6_3).f3.f3), .slice A204_10 ((rd_T41 l0_2 x6_3).f3.f4).length c204_10, .int .i64 ((rd_T41 l0_2 x6_3).f3.f5), .int .i64 ((rd_T41 l0_2 x6_3).f3.f6), .int .i64 ((rd_T41 l0_2 x6_3).f3.f7)] 39 (0, 0)) (by (with_reducible repeat (first | refine blk_drewN ?_ _ | refine blk_drew ?_ | refine blk_alloc ?_ _)); exact BK205.out) hg (Kd.R_ne HO_3.out BK205.out (by decide))); have n3_ := Aside0.mk ((by rw [hw]; exact below_set (HB.out) GB80.out : Below w.heap.size w w84)); clear HO_3; clear BK196; clear BK205; clear HB; have HO_3 := n0_; have BK196 := n1_; have BK205 := n2_; have HB := n3_; clear n0_ n1_ n2_ n3_; clear hg hw hp_))
                      go_roundg kj62
                      case measure => have := HK1.out; have := HK2.out; have := HK3.out; have := HJ26.out; have := HJ53.out; have := HJ62.out; omega
                      case rel => exact ⟨(y213), (wrap64 (x6_3 + 1)), (by first | rfl | (simp; done) | (simp [*]; done)), H', ⟨by have := HK1.out; have := HK2.out; have := HK3.out; have := HJ26.out; have := HJ53.out; have := HJ62.out; omega⟩, ⟨by (with_reducible repeat (first | apply Kd.R_alloc | apply Kd.R_drewN | apply Kd.R_drew)); exact HO_3.out⟩, ⟨by (with_reducible repeat (first | refine blk_drewN ?_ _ | refine blk_drew ?_ | refine blk_alloc ?_ _)); exact BK196.out⟩, ⟨by repeat (first | (with_reducible first | exact HB.out | apply below_alloc | apply pw_below_drewN | apply below_drew1 | refine below_set ?_ GE196.out | refine below_set ?_ GE205.out) | exact HB.out)⟩⟩
                     ·rw [if_neg c79] at H
                      exact absurd H (by simp)
                    ·rw [if_neg c78] at H
                     exact absurd H (by simp)
                   ·replace c77 := Bool.eq_false_iff.mpr c77
                    subst c77
                    have H1 : (davitref02_led.l2 kj62 x3_53 x5_2 (wrap64 (x6_3 + 1)) a0_0 a0_1 l0_2) = some r := by rw [if_neg (show ¬ (false = true) by decide)] at H; exact H
                    clear H
                    have H := H1
                    clear H1
                    have H' := Aside0.mk H
                    clear H
                    go_wp2
                    go_roundg kj62
                    case measure => have := HK1.out; have := HK2.out; have := HK3.out; have := HJ26.out; have := HJ53.out; have := HJ62.out; omega
                    case rel => exact ⟨(x3_53), (wrap64 (x6_3 + 1)), (by first | rfl | (simp; done) | (simp [*]; done)), H', ⟨by have := HK1.out; have := HK2.out; have := HK3.out; have := HJ26.out; have := HJ53.out; have := HJ62.out; omega⟩, ⟨by (with_reducible repeat (first | apply Kd.R_alloc | apply Kd.R_drewN | apply Kd.R_drew)); exact HO_3.out⟩, ⟨by (with_reducible repeat (first | refine blk_drewN ?_ _ | refine blk_drew ?_ | refine blk_alloc ?_ _)); exact BK196.out⟩, ⟨by repeat (first | (with_reducible first | exact HB.out | apply below_alloc | apply pw_below_drewN | apply below_drew1 | refine below_set ?_ GE196.out | refine below_set ?_ GE205.out) | exact HB.out)⟩⟩
            ·rw [if_neg c26] at H
             exact absurd H (by simp)
           ·rw [if_neg c25] at H
            have c25b0 : decide (x6_3 < (l0_2.length : Int)) = false := decide_eq_false c25
            clear c25
            have H' := Aside0.mk H
            clear H
            have hcz85_0 : wr.cell? ⟨gb196, 0, none⟩ = some (.int .i64 a0_0) := (blk_cell BK196.out 0).trans rfl
            have hcz85_1 : wr.cell? ⟨gb196, 1, none⟩ = some (.int .i64 a0_1) := (blk_cell BK196.out 1).trans rfl
            have hcz85_2 : wr.cell? ⟨gb196, 2, none⟩ = some (.slice A0_2 l0_2.length c0_2) := (blk_cell BK196.out 2).trans rfl
            obtain ⟨hfz85_0, hfz85_1, hfz85_2⟩ := fz3 BK196.out
            go_wp2
            go_roundg k3
            case measure => have := HK1.out; have := HK2.out; have := HK3.out; omega
            case rel => exact ⟨(x3_3), (wrap64 (x5_2 + 1)), (by first | rfl | (simp; done) | (simp [*]; done)), H', ⟨by have := HK1.out; have := HK2.out; have := HK3.out; omega⟩, ⟨by (with_reducible repeat (first | apply Kd.R_alloc | apply Kd.R_drewN | apply Kd.R_drew)); exact HO_3.out⟩, ⟨by (with_reducible repeat (first | refine blk_drewN ?_ _ | refine blk_drew ?_ | refine blk_alloc ?_ _)); exact BK196.out⟩, ⟨by repeat (first | (with_reducible first | exact HB.out | apply below_alloc | apply pw_below_drewN | apply below_drew1 | refine below_set ?_ GE196.out) | exact HB.out)⟩⟩
        ·rw [if_neg c23] at H
         have c23b0 : decide (x5_2 < (l0_2.length : Int)) = false := decide_eq_false c23
         clear c23
         obtain rfl := Option.some.inj H
         have hcz86_0 : wr.cell? ⟨gb196, 0, none⟩ = some (.int .i64 a0_0) := (blk_cell BK196.out 0).trans rfl
         have hcz86_1 : wr.cell? ⟨gb196, 1, none⟩ = some (.int .i64 a0_1) := (blk_cell BK196.out 1).trans rfl
         have hcz86_2 : wr.cell? ⟨gb196, 2, none⟩ = some (.slice A0_2 l0_2.length c0_2) := (blk_cell BK196.out 2).trans rfl
         obtain ⟨hfz86_0, hfz86_1, hfz86_2⟩ := fz3 BK196.out
         go_wp2
         go_ret
         exact ⟨_, by first | rfl | (simp [errW_none, errW_some] <;> rfl) | (simp [*, errW_none, errW_some] <;> rfl), by (with_reducible repeat (first | apply Kd.R_alloc | apply Kd.R_drewN | apply Kd.R_drew)); exact HO_3.out, by repeat (first | (with_reducible first | exact HB.out | apply below_alloc | apply pw_below_drewN | apply below_drew1 | refine below_set ?_ GE196.out) | exact HB.out)⟩
  ·rw [if_neg c3] at H
   exact absurd H (by simp)
 ·rw [if_neg c2] at H
  exact absurd H (by simp)
end
end Go.Proofs.Ytbfialebaoeicaa.X
namespace Go.Proofs.Ytbfialebaoeicaa.X
open Go.RowKit Go.Proofs.YtbfialebaoeicaaW.PrintWords Go.Proofs.YtbfialebaoeicaaW.PrintLast Go.Proofs.YtbfialebaoeicaaW.PrintMore
attribute [local go_sem] max2_int min2_int max_two min_two max_three min_three max_four min_four
set_option linter.all false
noncomputable section
def davitref02_Cleans.f (k : Nat) (a0_0 : Int) (a0_1 : Int) (l0_2 : List (S41)) : Option (List Bool) := (davitref02_led.f k a0_0 a0_1 l0_2).bind fun t215 => (some t215)
theorem davitref02_Cleans.mono : ∀ a0 a1 a2 k, LeO (davitref02_Cleans.f k a0 a1 a2) (davitref02_Cleans.f (k + 1) a0 a1 a2) := by
 intro a0 a1 a2 k
 unfold davitref02_Cleans.f
 repeat' first
   | (with_reducible exact davitref02_led.mono _ _ _ _)
   | (with_reducible exact LeO.refl _)
   | (with_reducible exact LeO.none _)
   | (with_reducible refine LeO.ite ?_ ?_)
   | (with_reducible refine LeO.bind ?_ (fun _ => ?_))
   | exact davitref02_led.mono _ _ _ _
   | exact LeO.none _
   | refine LeO.ite ?_ ?_
   | refine LeO.bind ?_ (fun _ => ?_)
set_option maxHeartbeats 8000000 in
set_option maxRecDepth 100000 in
theorem davitref02_Cleans.calls (k : Nat) (a0_0 : Int) (a0_1 : Int) (A0_2 : Option Addr) (c0_2 : Nat) (l0_2 : List (S41)) (r : List Bool) (w : World) (hr0_2 : Kd.C k41 w A0_2 l0_2.length l0_2) (hc0_2 : l0_2.length ≤ c0_2) (h : davitref02_Cleans.f k a0_0 a0_1 l0_2 = some r) :
  Calls Try.prog 21 #[.agg #[.int .i64 a0_0, .int .i64 a0_1, .slice A0_2 l0_2.length c0_2]] w fun e w' => ∃ v0_ : Value, e = .returned (v0_) ∧ Kd.R Kd.bool 4 w' w.heap.size (fun _ => True) v0_ r ∧ Below w.heap.size w w' := by
 have hu27 := Try.underlying27
 have HR0_2 := Aside0.mk hr0_2
 have HC0_2 := Aside0.mk hc0_2
 clear hr0_2 hc0_2
 have HB := Aside0.mk (Below.refl w.heap.size w)
 have H : ((davitref02_led.f k a0_0 a0_1 l0_2).bind fun t215 => (some t215)) = some r := h
 clear h
 replace H := Option.bind_eq_some_iff.mp H
 obtain ⟨t215, A20, H⟩ := H
 replace H : (some t215) = some r := H
 have A2 := Aside0.mk A20
 clear A20
 obtain rfl := Option.some.inj H
 go_enter Try.func21, Try.ntmps21
 go_wp2_with (first | ((with_reducible refine gate_dst (N := 1) rfl ?_); refine box_event ?hg (N := 1) ?hd (cs := #[.int .i64 a0_0, .int .i64 a0_1, .slice A0_2 l0_2.length c0_2]) (t := 27) ?hr ?_; (case hd => rfl); (case hg => rfl); (case hr => first | (go_simp; done) | (go_simp; rfl)); intro gb214 hg w3 hbox hb; have n0_ := Aside0.mk (below_step (by repeat (first | (with_reducible first | exact HB.out | apply below_alloc | apply pw_below_drewN | apply below_drew1) | exact HB.out)) hb); have n1_ := Aside0.mk (hbox); have n2_ := Aside0.mk ((by rw [hg]; exact (below_size (by repeat (first | (with_reducible first | exact HB.out | apply below_alloc | apply pw_below_drewN | apply below_drew1) | exact HB.out))) : w.heap.size ≤ gb214)); have n3_ := Aside0.mk ((by rw [hg]; exact (below_size (by repeat (first | (with_reducible first | exact HB.out | apply below_alloc | apply pw_below_drewN | apply below_drew1) | exact HB.out))) : w.heap.size ≤ gb214)); clear HB; have HB := n0_; have BK214 := n1_; have GW214 := n2_; have GE214 := n3_; clear n0_ n1_ n2_ n3_; clear hb hbox hg; have hcz4_0 : w3.cell? ⟨gb214, 0, none⟩ = some (.int .i64 a0_0) := (blk_cell BK214.out 0).trans rfl; have hcz4_1 : w3.cell? ⟨gb214, 1, none⟩ = some (.int .i64 a0_1) := (blk_cell BK214.out 1).trans rfl; have hcz4_2 : w3.cell? ⟨gb214, 2, none⟩ = some (.slice A0_2 l0_2.length c0_2) := (blk_cell BK214.out 2).trans rfl; obtain ⟨hfz4_0, hfz4_1, hfz4_2⟩ := fz3 BK214.out) | ((with_reducible refine gate_callee (f := 58) rfl ?_); refine goesL_ (some 4) rfl rfl Try.func58 (by kernel_rfl) rfl #[.agg #[.int .i64 a0_0, .int .i64 a0_1, .slice A0_2 l0_2.length c0_2]] rfl (by (try simp only [List.map_toArray, List.map_cons, List.map_nil]); first | done | rfl | (simp only [List.length_drop, List.length_take]; rfl)) ?_; (with_reducible refine (davitref02_led.calls k a0_0 a0_1 _ _ l0_2 t215 _ ?side1 ?side2 A2.out).mono ?_); (case side1 => repeat (first | exact (Kd.C_below HR0_2.out HB.out) | (with_reducible refine Kd.C_alloc ?_ _) | (with_reducible refine Kd.C_drewN ?_ _) | (with_reducible refine Kd.C_drew ?_))); (case side2 => exact HC0_2.out); rintro e w5 ⟨v216, rfl, ho0, hb⟩; refine ⟨_, rfl, ?_⟩; have n0_ := Aside0.mk (Kd.R_lower ho0 (below_size (by repeat (first | (with_reducible first | exact HB.out | apply below_alloc | apply pw_below_drewN | apply below_drew1 | refine below_set ?_ GE214.out) | exact HB.out)))); have n1_ := Aside0.mk (blk_below (g := gb214) (o := .cells #[.int .i64 a0_0, .int .i64 a0_1, .slice A0_2 l0_2.length c0_2] 27 (0, 0)) (by (with_reducible repeat (first | refine blk_drewN ?_ _ | refine blk_drew ?_ | refine blk_alloc ?_ _)); exact BK214.out) hb); have n2_ := Aside0.mk (below_step (by repeat (first | (with_reducible first | exact HB.out | apply below_alloc | apply pw_below_drewN | apply below_drew1 | refine below_set ?_ GE214.out) | exact HB.out)) hb); clear BK214; clear HB; have HO217 := n0_; have BK214 := n1_; have HB := n2_; clear n0_ n1_ n2_; (try clear hb); (try clear hb2); (try clear hk); (try clear hi); (try clear ho0)))
 go_ret
 exact ⟨_, by first | rfl | (simp [errW_none, errW_some] <;> rfl) | (simp [*, errW_none, errW_some] <;> rfl), by (with_reducible repeat (first | apply Kd.R_alloc | apply Kd.R_drewN | apply Kd.R_drew)); exact HO217.out, by repeat (first | (with_reducible first | exact HB.out | apply below_alloc | apply pw_below_drewN | apply below_drew1 | refine below_set ?_ GE214.out) | exact HB.out)⟩
end
end Go.Proofs.Ytbfialebaoeicaa.X
namespace Go.Proofs.Ytbfialebaoeicaa.X
open Go.RowKit Go.Proofs.YtbfialebaoeicaaW.PrintWords Go.Proofs.YtbfialebaoeicaaW.PrintLast Go.Proofs.YtbfialebaoeicaaW.PrintMore
open Go.Proofs.Ytbfialebaoeicaa.G
set_option linter.all false
section
variable {a0 a1 s i : Int} {bs : List S41} {b : S41} {out : List Bool} {t : Bool} {r : List Bool} {z0 z1 z2 z3 z5 z6 z7 : Int} {z4 : List Int}
theorem led_within (n m : Int) : davitref02_within.f n m = some (decide (0 ≤ n ∧ n < m)) := by
 unfold davitref02_within.f
 by_cases h : 0 ≤ n
 ·rw [if_pos h]; simp [h]
 ·rw [if_neg h]; simp [h]
def onIf (t : Bool) (out : List Bool) (x : Int) : List Bool := if t = true then out.set x.toNat true else out
theorem onIf_mono {x : Int} {k : Nat} (hx : t = true → x.toNat < out.length) (h : Cl.gt out k = true) : Cl.gt (onIf t out x) k = true := by
 unfold onIf
 split
 ·rename_i ht; exact (Cl.gt_set (hx ht)).2 (.inr h)
 ·exact h
theorem onIf_on {x : Int} (hx : x.toNat < out.length) (ht : t = true) : Cl.gt (onIf t out x) x.toNat = true := by
 unfold onIf; rw [if_pos ht]; exact (Cl.gt_set hx).2 (.inl rfl)
theorem led_j5 (hE : t = true → 0 ≤ z6 ∧ z6 < (out.length : Int)) (h0 : 0 ≤ i) (h1 : i < 1000000) (h : Evt (fun k => davitref02_led.l2 k (onIf t out z6) s (i + 1) a0 a1 bs) r) : Evt (fun k => davitref02_led.j5 k out s i t a0 a1 bs z0 z1 z2 z3 z4 z5 z6 z7) r := by
 refine Evt.succ (Evt.congr h fun k => ?_)
 rw [davitref02_led.j5, wrap_in _ (by omega) (by omega)]
 cases t with
 | false => rfl
 | true => rw [if_pos rfl, if_pos (hE rfl).1, if_pos (hE rfl).2]; rfl
theorem led_j4 (h0 : 0 ≤ i) (h1 : i < (out.length : Int)) (h : Evt (fun k => davitref02_led.j5 k out s i (Cl.gt out i.toNat && (z0 == 3) && decide (0 ≤ z6 ∧ z6 < (out.length : Int))) a0 a1 bs z0 z1 z2 z3 z4 z5 z6 z7) r) : Evt (fun k => davitref02_led.j4 k out s i a0 a1 bs z0 z1 z2 z3 z4 z5 z6 z7) r := by
 refine Evt.succ (Evt.congr h fun k => ?_)
 rw [davitref02_led.j4, if_pos h0, if_pos h1, led_within, gt_bool]
 by_cases hg : Cl.gt out i.toNat = true
 ·rw [if_pos hg]
  by_cases hz : z0 = 3
  ·rw [if_pos hz, hg, hz]; simp
  ·rw [if_neg hz, beq_eq_false_iff_ne.2 hz, Bool.and_false, Bool.false_and]
 ·rw [if_neg hg, (Bool.not_eq_true _).mp hg, Bool.false_and, Bool.false_and]
theorem led_j3 (hE : t = true → 0 ≤ z5 ∧ z5 < (out.length : Int)) (h : Evt (fun k => davitref02_led.j4 k (onIf t out z5) s i a0 a1 bs z0 z1 z2 z3 z4 z5 z6 z7) r) : Evt (fun k => davitref02_led.j3 k out s i t a0 a1 bs z0 z1 z2 z3 z4 z5 z6 z7) r := by
 refine Evt.succ (Evt.congr h fun k => ?_)
 rw [davitref02_led.j3]
 cases t with
 | false => rfl
 | true => rw [if_pos rfl, if_pos (hE rfl).1, if_pos (hE rfl).2]; rfl
theorem led_l2 (hn : i < (bs.length : Int)) (h0 : 0 ≤ i) (h1 : i < (out.length : Int)) (h : Evt (fun k => davitref02_led.j3 k out s i (Cl.gt out i.toNat && ((rd_T41 bs i).f3.f0 == 2 || (rd_T41 bs i).f3.f0 == 3 || (rd_T41 bs i).f3.f0 == 4) && decide (0 ≤ (rd_T41 bs i).f3.f5 ∧ (rd_T41 bs i).f3.f5 < (out.length : Int))) a0 a1 bs (rd_T41 bs i).f3.f0 (rd_T41 bs i).f3.f1 (rd_T41 bs i).f3.f2 (rd_T41 bs i).f3.f3 (rd_T41 bs i).f3.f4 (rd_T41 bs i).f3.f5 (rd_T41 bs i).f3.f6 (rd_T41 bs i).f3.f7) r) : Evt (fun k => davitref02_led.l2 k out s i a0 a1 bs) r := by
 refine Evt.succ (Evt.congr h fun k => ?_)
 rw [davitref02_led.l2, if_pos hn, if_pos h0, if_pos h1, led_within, gt_bool]
 by_cases hg : Cl.gt out i.toNat = true
 ·rw [if_pos hg]
  by_cases h2 : (rd_T41 bs i).f3.f0 = 2
  ·rw [if_pos h2, hg, h2]; simp
  ·rw [if_neg h2]
   by_cases h3 : (rd_T41 bs i).f3.f0 = 3
   ·rw [if_pos h3, hg, h3]; simp
   ·rw [if_neg h3]
    by_cases h4 : (rd_T41 bs i).f3.f0 = 4
    ·rw [if_pos h4, hg, h4]; simp
    ·rw [if_neg h4, beq_eq_false_iff_ne.2 h2, beq_eq_false_iff_ne.2 h3, beq_eq_false_iff_ne.2 h4]; simp only [Bool.or_false, Bool.and_false, Bool.false_and]
 ·rw [if_neg hg, (Bool.not_eq_true _).mp hg, Bool.false_and, Bool.false_and]
theorem rr_onIf {n : Nat} {st : Nat → Bool} {gs : Nat → List Int} {o0 : List Bool} {i : Nat} {x : Int} (h : Cl.RR n st gs o0 i out) (ht : t = true → Cl.gt out i = true ∧ x ∈ gs i ∧ 0 ≤ x ∧ x < n) : Cl.RR n st gs o0 i (onIf t out x) := by
 unfold onIf
 split
 ·rename_i e
  obtain ⟨g1, g2, g3, g4⟩ := ht e
  exact h.put g1 g2 g3 g4
 ·exact h
theorem led_round (hN : bs.length ≤ 1000000) (P : List Bool → Prop) {o0 : List Bool} (K : ∀ out', Cl.RR bs.length (stB bs) (gsB bs) o0 bs.length out' → ∃ r, Evt (fun k => davitref02_led.l1 k out' (wrap64 (s + 1)) a0 a1 bs) r ∧ P r) :
  ∀ (d i : Nat) (out : List Bool), i + d = bs.length → Cl.RR bs.length (stB bs) (gsB bs) o0 i out → ∃ r, Evt (fun k => davitref02_led.l2 k out s (i : Int) a0 a1 bs) r ∧ P r := by
 intro d
 induction d with
 | zero =>
  intro i out hi hr
  obtain rfl : i = bs.length := by omega
  obtain ⟨r, h1, h2⟩ := K out hr
  refine ⟨r, Evt.succ (Evt.congr h1 fun k => ?_), h2⟩
  rw [davitref02_led.l2, if_neg (by omega)]
 | succ d ih =>
  intro i out hi hr
  have hl := hr.ri.len
  have hgs : gsB bs i = glB (rd_T41 bs (i : Int)) := rfl
  obtain ⟨b, hb⟩ : ∃ b, rd_T41 bs (i : Int) = b := ⟨_, rfl⟩
  rw [hb] at hgs
  obtain ⟨t1, ht1⟩ : ∃ t1, t1 = (Cl.gt out (i : Int).toNat && (b.f3.f0 == 2 || b.f3.f0 == 3 || b.f3.f0 == 4) && decide (0 ≤ b.f3.f5 ∧ b.f3.f5 < (out.length : Int))) := ⟨_, rfl⟩
  have f1 : t1 = true → Cl.gt out i = true ∧ (b.f3.f0 = 2 ∨ b.f3.f0 = 3 ∨ b.f3.f0 = 4) ∧ 0 ≤ b.f3.f5 ∧ b.f3.f5 < (out.length : Int) := by
   intro e
   rw [ht1] at e
   simp only [Bool.and_eq_true, Bool.or_eq_true, beq_iff_eq, decide_eq_true_eq, Int.toNat_natCast] at e
   exact ⟨e.1.1, by omega, e.2⟩
  have r1 : Cl.RR bs.length (stB bs) (gsB bs) o0 i (onIf t1 out b.f3.f5) := rr_onIf hr (fun e => by
   obtain ⟨g1, g2, g3, g4⟩ := f1 e
   refine ⟨g1, ?_, g3, by rw [← hl]; exact g4⟩
   rw [hgs]
   unfold glB
   rcases g2 with g2 | g2 | g2 <;> simp [g2])
  have hl1 := r1.ri.len
  obtain ⟨out1, ho1⟩ : ∃ o, o = onIf t1 out b.f3.f5 := ⟨_, rfl⟩
  rw [← ho1] at r1 hl1
  obtain ⟨t2, ht2⟩ : ∃ t2, t2 = (Cl.gt out1 (i : Int).toNat && (b.f3.f0 == 3) && decide (0 ≤ b.f3.f6 ∧ b.f3.f6 < (out1.length : Int))) := ⟨_, rfl⟩
  have f2 : t2 = true → Cl.gt out1 i = true ∧ b.f3.f0 = 3 ∧ 0 ≤ b.f3.f6 ∧ b.f3.f6 < (out1.length : Int) := by
   intro e
   rw [ht2] at e
   simp only [Bool.and_eq_true, beq_iff_eq, decide_eq_true_eq, Int.toNat_natCast] at e
   exact ⟨e.1.1, e.1.2, e.2⟩
  have r2 : Cl.RR bs.length (stB bs) (gsB bs) o0 i (onIf t2 out1 b.f3.f6) := rr_onIf r1 (fun e => by
   obtain ⟨g1, g2, g3, g4⟩ := f2 e
   refine ⟨g1, ?_, g3, by rw [← hl1]; exact g4⟩
   rw [hgs]
   unfold glB
   simp [g2])
  obtain ⟨out2, ho2⟩ : ∃ o, o = onIf t2 out1 b.f3.f6 := ⟨_, rfl⟩
  rw [← ho2] at r2
  have m1 : ∀ k, Cl.gt out k = true → Cl.gt out1 k = true := fun k hk => by rw [ho1]; exact onIf_mono (fun e => by have := f1 e; omega) hk
  have m2 : ∀ k, Cl.gt out1 k = true → Cl.gt out2 k = true := fun k hk => by rw [ho2]; exact onIf_mono (fun e => by have := f2 e; omega) hk
  have r3 : Cl.RR bs.length (stB bs) (gsB bs) o0 (i + 1) out2 := r2.next (fun hg j hj hjl => by
   have hgi : Cl.gt out i = true := by
    rcases Bool.eq_false_or_eq_true (Cl.gt out i) with e | e
    ·exact e
    ·have e1 : t1 = false := by rw [ht1, Int.toNat_natCast, e]; rfl
     have e2 : out1 = out := by rw [ho1, e1]; rfl
     have e3 : t2 = false := by rw [ht2, Int.toNat_natCast, e2, e]; rfl
     rw [ho2, e3, e2] at hg
     exact absurd (hg.symm.trans e) (by simp)
   rw [hgs] at hj
   unfold glB at hj
   have too : ∀ (_ : b.f3.f0 = 2 ∨ b.f3.f0 = 3 ∨ b.f3.f0 = 4), (j : Int) = b.f3.f5 → Cl.gt out2 j = true := fun hk e => by
    have ht : t1 = true := by
     rw [ht1, Int.toNat_natCast, hgi, decide_eq_true (by rw [hl]; omega)]
     rcases hk with hk | hk | hk <;> simp [hk]
    have h1 := onIf_on (out := out) (x := b.f3.f5) (by rw [hl]; omega) ht
    rw [← ho1, ← e, Int.toNat_natCast] at h1
    exact m2 _ h1
   split at hj
   ·rename_i hk
    exact too (by omega) (by simpa using hj)
   ·split at hj
    ·rename_i _ hk
     simp only [List.mem_cons, List.not_mem_nil, or_false] at hj
     rcases hj with e | e
     ·exact too (by omega) e
     ·have ht : t2 = true := by
       rw [ht2, Int.toNat_natCast, m1 _ hgi, decide_eq_true (by rw [hl1]; omega), hk]; rfl
      have h1 := onIf_on (out := out1) (x := b.f3.f6) (by rw [hl1]; omega) ht
      rw [← ho2, ← e, Int.toNat_natCast] at h1
      exact h1
    ·cases hj)
  obtain ⟨r, h1, h2⟩ := ih (i + 1) out2 (by omega) r3
  rw [cast_succ] at h1
  refine ⟨r, led_l2 (by omega) (by omega) (by omega) ?_, h2⟩
  rw [hb, ← ht1]
  refine led_j3 (fun e => (f1 e).2.2) ?_
  rw [← ho1]
  refine led_j4 (by omega) (by omega) ?_
  rw [← ht2]
  refine led_j5 (fun e => (f2 e).2.2) (by omega) (by omega) ?_
  rw [← ho2]
  exact h1
def LedP (bs : List S41) (r : List Bool) : Prop := r.length = bs.length ∧ ∀ i, i < bs.length → (Cl.gt r i = true ↔ Cl.Rch bs.length (stB bs) (gsB bs) i)
theorem led_l1 (hN : bs.length ≤ 1000000) : ∀ (d s : Nat) (out : List Bool), s + d = bs.length → Cl.RS bs.length (stB bs) (gsB bs) s out → ∃ r, Evt (fun k => davitref02_led.l1 k out (s : Int) a0 a1 bs) r ∧ LedP bs r := by
 intro d
 induction d with
 | zero =>
  intro s out hs hr
  obtain rfl : s = bs.length := by omega
  refine ⟨out, Evt.succ (Evt.congr (Evt.pure _) fun k => ?_), hr.ri.len, hr.done⟩
  rw [davitref02_led.l1, if_neg (by omega)]
 | succ d ih =>
  intro s out hs hr
  obtain ⟨r, h1, h2⟩ := led_round (a0 := a0) (a1 := a1) (s := (s : Int)) hN (LedP bs) (o0 := out) (fun out' hr' => by
   obtain ⟨r, g1, g2⟩ := ih (s + 1) out' (by omega) (hr.next hr')
   rw [cast_succ] at g1
   rw [wrap_in _ (by omega) (by omega)]
   exact ⟨r, g1, g2⟩) bs.length 0 out (by omega) (Cl.RR.start hr.ri)
  refine ⟨r, Evt.succ (Evt.congr h1 fun k => ?_), h2⟩
  rw [davitref02_led.l1, if_pos (by omega)]
  rfl
theorem led_l0 (hN : bs.length ≤ 1000000) : ∀ (d i : Nat) (out : List Bool), i + d = bs.length → out.length = bs.length → (∀ k, Cl.gt out k = true ↔ (k < i ∧ stB bs k = true)) → ∃ r, Evt (fun k => davitref02_led.l0 k out (i : Int) a0 a1 bs) r ∧ LedP bs r := by
 intro d
 induction d with
 | zero =>
  intro i out hi hl hg
  obtain rfl : i = bs.length := by omega
  obtain ⟨r, h1, h2⟩ := led_l1 (a0 := a0) (a1 := a1) hN bs.length 0 out (by omega) (Cl.RS.start ⟨hl, fun k hk => by have := (hg k).1 hk; exact .st this.1 this.2, fun k hk hs => (hg k).2 ⟨hk, hs⟩⟩)
  refine ⟨r, Evt.succ (Evt.congr h1 fun k => ?_), h2⟩
  rw [davitref02_led.l0, if_neg (by omega)]
  rfl
 | succ d ih =>
  intro i out hi hl hg
  have hset : ∀ v : Bool, v = stB bs i → ∀ k, Cl.gt (out.set i v) k = true ↔ (k < i + 1 ∧ stB bs k = true) := by
   intro v hv k
   by_cases hk : k = i
   ·subst hk
    have : Cl.gt (out.set k v) k = v := by simp [Cl.gt, List.getD_eq_getElem?_getD, List.getElem?_set_self (show k < out.length by omega)]
    rw [this, hv]
    exact ⟨fun h => ⟨by omega, h⟩, fun h => h.2⟩
   ·have : Cl.gt (out.set i v) k = Cl.gt out k := by simp [Cl.gt, List.getD_eq_getElem?_getD, List.getElem?_set_ne (Ne.symm hk)]
    rw [this, hg]
    exact ⟨fun h => ⟨by omega, h.2⟩, fun h => ⟨by omega, h.2⟩⟩
  obtain ⟨r, h1, h2⟩ := ih (i + 1) (out.set i (stB bs i)) (by omega) (by rw [List.length_set]; exact hl) (hset _ rfl)
  rw [cast_succ] at h1
  refine ⟨r, Evt.succ (Evt.congr h1 fun k => ?_), h2⟩
  rw [davitref02_led.l0, if_pos (by omega), if_pos (by omega), wrap_in _ (by omega) (by omega), Int.toNat_natCast]
  by_cases hf : (rd_T41 bs (i : Int)).f0 = true
  ·rw [if_pos hf, if_pos (by omega)]; unfold stB; rw [hf]; rfl
  ·rw [if_neg hf, if_pos (by omega)]; unfold stB; simp only [Bool.not_eq_true] at hf; rw [hf]; rfl
theorem led_f (hN : bs.length ≤ 1000000) : ∃ k r, davitref02_Cleans.f k a0 a1 bs = some r ∧ LedP bs r := by
 obtain ⟨r, h1, h2⟩ := led_l0 (a0 := a0) (a1 := a1) hN bs.length 0 (List.replicate bs.length false) (by omega) (by simp) (fun k => by
  refine ⟨fun h => ?_, fun h => by omega⟩
  have hl := Cl.gt_lt h
  rw [List.length_replicate] at hl
  simp [Cl.gt, List.getD_eq_getElem?_getD, hl] at h)
 obtain ⟨k, hk⟩ := h1.ex
 refine ⟨k, r, ?_, h2⟩
 unfold davitref02_Cleans.f davitref02_led.f
 rw [if_pos (by omega), if_pos (by omega)]
 show ((davitref02_led.l0 k (List.replicate (bs.length : Int).toNat false) 0 a0 a1 bs).bind fun t => some t) = some r
 rw [Int.toNat_natCast]
 have hk' : davitref02_led.l0 k (List.replicate bs.length false) 0 a0 a1 bs = some r := hk
 rw [hk']
 rfl
end
theorem rcleans_c (f : S27) (A1 : Option Addr) (c1 : Nat) (w : World) (hC : Kd.C k41 w A1 f.f2.length f.f2) (hc : f.f2.length ≤ c1) (hn : f.f2.length ≤ 1000000) :
  Calls Try.prog 21 #[.agg #[.int .i64 f.f0, .int .i64 f.f1, .slice A1 f.f2.length c1]] w fun e w' => (∃ A, (∃ c, e = .returned (.slice A f.f2.length c)) ∧ ClnP f.f2 w' A) ∧ Below w.heap.size w w' := by
 obtain ⟨k, r, h1, h2⟩ := led_f (a0 := f.f0) (a1 := f.f1) (bs := f.f2) hn
 refine (davitref02_Cleans.calls k f.f0 f.f1 A1 c1 f.f2 r w hC hc h1).mono ?_
 rintro e w' ⟨v, rfl, hr, hb⟩
 obtain ⟨A, c, rfl, _, hC⟩ := Kd.R_reads hr
 refine ⟨⟨A, ⟨c, by rw [h2.1]⟩, r, by rw [← h2.1]; exact hC, h2.1, h2.2⟩, hb⟩
end Go.Proofs.Ytbfialebaoeicaa.X
namespace Go.Proofs.Ytbfialebaoeicaa.X
open Go.Shelf Go.RowKit Go.Proofs.YtbfialebaoeicaaW.PrintWords Go.Proofs.YtbfialebaoeicaaW.PrintLast Go.Proofs.YtbfialebaoeicaaW.PrintMore
set_option linter.all false
theorem sl_Clone_u16 (A0 : Option Addr) (c0 : Nat) (l0 : List Int) (w : World) (hr0 : Kd.C (Kd.int .u16) w A0 l0.length l0) (hc0 : l0.length ≤ c0) (hl : l0.length < 1000000) :
  Calls Try.prog 61 #[.slice A0 l0.length c0] w fun e w' => ∃ v0_ : Value, e = .returned (v0_) ∧ Kd.R (Kd.int .u16) 44 w' w.heap.size (fun _ => True) v0_ l0 ∧ Below w.heap.size w w' := by
 have HR0 := Aside0.mk hr0
 have HL := Aside0.mk hl
 clear hr0 hl
 cases A0 with
 | none =>
  obtain rfl : l0 = [] := by
   rcases Nat.eq_zero_or_pos l0.length with h | h
   ·exact List.eq_nil_of_length_eq_zero h
   ·obtain ⟨ad, e, _⟩ := HR0.out.2.2 h
    cases e
  have he : ∀ w : World, (binOp .eql 33 (.slice none 0 c0) (.slice none 0 0)).run Try.prog w = .ok (.bool true) w := fun w => Lib.run_eql_slice_nil (P := Try.prog) w 33 44 none 0 c0 0 0 Try.underlying33
  go_enter Try.func61, Try.ntmps61
  go_wp2
  go_ret
  exact ⟨_, rfl, Kd.R_nil _ _ _ _ _, Below.refl _ _⟩
 | some ad =>
  have he : ∀ w : World, (binOp .eql 33 (.slice (some ad) l0.length c0) (.slice none 0 0)).run Try.prog w = .ok (.bool false) w := fun w => Lib.run_eql_slice_nil (P := Try.prog) w 33 44 (some ad) l0.length c0 0 0 Try.underlying33
  go_enter Try.func61, Try.ntmps61
  go_wp2_with (first | ((with_reducible refine gate_dst (N := 5) rfl ?_); refine Kd.R_lit (Kd.int .u16) _ 44 ?hg (N := 5) ?hd (xs := ([] : List Int)) (inner := []) (ok := fun _ => True) (okp := fun _ => True) ?hr ?hp (fun _ hk => hk) trivial (Below.refl _ _) (Nat.le_refl _) (by simp) ?_; (case hd => rfl); (case hg => rfl); (case hr => first | (go_simp; done) | (go_simp; rfl)); (case hp => exact (Reps.none _ _)); intro v5 w5 ho5 hb5 hg_ hnew_; clear hg_ hnew_; have HO5 := Aside0.mk ho5; have HB5 := Aside0.mk hb5; clear ho5 hb5) | ((with_reducible refine gate_builtin (b := .append) (xs := #[.tmp 5, .tmp 6]) rfl ?_); at_builtin; refine Kd.R_append_rows (Kd.int .u16) (w0 := w) w.heap.size rfl (.tmp 5) (.tmp 6) 33 44 (.int .u16 0) 2 rfl Try.underlying33 (by kernel_rfl) rfl (by decide) (by omega) v5 ([] : List Int) l0 _ _ _ (fun _ => True) (fun _ => False) rfl rfl ?aO ?aR (fun _ _ h => h) (fun _ h => h.elim) ?aF ?aB ?aS ?aL ?_; (case aR => exact Kd.C_below HR0.out HB5.out); (case aB => exact HB5.out); (case aF => exact (fun _ _ => trivial)); (case aO => exact HO5.out); (case aS => exact (below_size HB5.out)); (case aL => have := HL.out; simp; omega); intro v7 w7 ho hb hg hat; rw [List.nil_append] at ho; have HO7 := Aside0.mk ho; have HB7 := Aside0.mk hb; clear ho hb hg hat))
  go_ret
  exact ⟨_, rfl, HO7.out, HB7.out⟩
theorem sl_Clone_int (A0 : Option Addr) (c0 : Nat) (l0 : List Int) (w : World) (hr0 : Kd.C (Kd.int .i64) w A0 l0.length l0) (hc0 : l0.length ≤ c0) (hl : l0.length < 1000000) :
  Calls Try.prog 63 #[.slice A0 l0.length c0] w fun e w' => ∃ v0_ : Value, e = .returned (v0_) ∧ Kd.R (Kd.int .i64) 3 w' w.heap.size (fun _ => True) v0_ l0 ∧ Below w.heap.size w w' := by
 have HR0 := Aside0.mk hr0
 have HL := Aside0.mk hl
 clear hr0 hl
 cases A0 with
 | none =>
  obtain rfl : l0 = [] := by
   rcases Nat.eq_zero_or_pos l0.length with h | h
   ·exact List.eq_nil_of_length_eq_zero h
   ·obtain ⟨ad, e, _⟩ := HR0.out.2.2 h
    cases e
  have he : ∀ w : World, (binOp .eql 37 (.slice none 0 c0) (.slice none 0 0)).run Try.prog w = .ok (.bool true) w := fun w => Lib.run_eql_slice_nil (P := Try.prog) w 37 3 none 0 c0 0 0 Try.underlying37
  go_enter Try.func63, Try.ntmps63
  go_wp2
  go_ret
  exact ⟨_, rfl, Kd.R_nil _ _ _ _ _, Below.refl _ _⟩
 | some ad =>
  have he : ∀ w : World, (binOp .eql 37 (.slice (some ad) l0.length c0) (.slice none 0 0)).run Try.prog w = .ok (.bool false) w := fun w => Lib.run_eql_slice_nil (P := Try.prog) w 37 3 (some ad) l0.length c0 0 0 Try.underlying37
  go_enter Try.func63, Try.ntmps63
  go_wp2_with (first | ((with_reducible refine gate_dst (N := 5) rfl ?_); refine Kd.R_lit (Kd.int .i64) _ 3 ?hg (N := 5) ?hd (xs := ([] : List Int)) (inner := []) (ok := fun _ => True) (okp := fun _ => True) ?hr ?hp (fun _ hk => hk) trivial (Below.refl _ _) (Nat.le_refl _) (by simp) ?_; (case hd => rfl); (case hg => rfl); (case hr => first | (go_simp; done) | (go_simp; rfl)); (case hp => exact (Reps.none _ _)); intro v5 w5 ho5 hb5 hg_ hnew_; clear hg_ hnew_; have HO5 := Aside0.mk ho5; have HB5 := Aside0.mk hb5; clear ho5 hb5) | ((with_reducible refine gate_builtin (b := .append) (xs := #[.tmp 5, .tmp 6]) rfl ?_); at_builtin; refine Kd.R_append_rows (Kd.int .i64) (w0 := w) w.heap.size rfl (.tmp 5) (.tmp 6) 37 3 (.int .i64 0) 8 rfl Try.underlying37 (by kernel_rfl) rfl (by decide) (by omega) v5 ([] : List Int) l0 _ _ _ (fun _ => True) (fun _ => False) rfl rfl ?aO ?aR (fun _ _ h => h) (fun _ h => h.elim) ?aF ?aB ?aS ?aL ?_; (case aR => exact Kd.C_below HR0.out HB5.out); (case aB => exact HB5.out); (case aF => exact (fun _ _ => trivial)); (case aO => exact HO5.out); (case aS => exact (below_size HB5.out)); (case aL => have := HL.out; simp; omega); intro v7 w7 ho hb hg hat; rw [List.nil_append] at ho; have HO7 := Aside0.mk ho; have HB7 := Aside0.mk hb; clear ho hb hg hat))
  go_ret
  exact ⟨_, rfl, HO7.out, HB7.out⟩
end Go.Proofs.Ytbfialebaoeicaa.X
namespace Go.Proofs.Ytbfialebaoeicaa.X
open Go.RowKit Go.Proofs.YtbfialebaoeicaaW.PrintWords Go.Proofs.YtbfialebaoeicaaW.PrintLast Go.Proofs.YtbfialebaoeicaaW.PrintMore
set_option linter.all false
def seg (l : List Value) (sz j : Nat) : List Value := (l.drop (j * sz)).take sz
theorem seg_get (l : List Value) (sz j o : Nat) (ho : o < sz) : (seg l sz j)[o]? = l[j * sz + o]? := by
 unfold seg
 rw [List.getElem?_take, if_pos ho, List.getElem?_drop]
theorem seg_get_ge (l : List Value) (sz j o : Nat) (ho : ¬ o < sz) : (seg l sz j)[o]? = none := by
 unfold seg
 rw [List.getElem?_take, if_neg ho]
theorem seg_ext {l l' : List Value} {sz j : Nat} (h : ∀ o, o < sz → l[j * sz + o]? = l'[j * sz + o]?) : seg l sz j = seg l' sz j := by
 apply List.ext_getElem?
 intro o
 by_cases ho : o < sz
 ·rw [seg_get _ _ _ _ ho, seg_get _ _ _ _ ho, h o ho]
 ·rw [seg_get_ge _ _ _ _ ho, seg_get_ge _ _ _ _ ho]
theorem seg_ne {sz j j' o o' : Nat} (ho : o < sz) (ho' : o' < sz) (h : j' ≠ j) : j * sz + o ≠ j' * sz + o' := by
 intro e
 have h1 : (j * sz + o) / sz = j := by rw [Nat.mul_comm, Nat.mul_add_div (by omega), Nat.div_eq_of_lt ho, Nat.add_zero]
 have h2 : (j' * sz + o') / sz = j' := by rw [Nat.mul_comm, Nat.mul_add_div (by omega), Nat.div_eq_of_lt ho', Nat.add_zero]
 rw [e, h2] at h1
 exact h h1
theorem seg_set_ne (l : List Value) {sz j j' o : Nat} (u : Value) (ho : o < sz) (h : j' ≠ j) : seg (l.set (j * sz + o) u) sz j' = seg l sz j' :=
 seg_ext fun o' ho' => by rw [List.getElem?_set_ne (seg_ne ho ho' h)]
theorem seg_set_eq (l : List Value) {sz j o : Nat} (u : Value) (ho : o < sz) : seg (l.set (j * sz + o) u) sz j = (seg l sz j).set o u := by
 apply List.ext_getElem?
 intro i
 by_cases hi : i < sz
 ·rw [seg_get _ _ _ _ hi, List.getElem?_set, List.getElem?_set]
  by_cases he : o = i
  ·subst he
   rw [if_pos rfl, if_pos rfl]
   by_cases hl : j * sz + o < l.length
   ·rw [if_pos hl, if_pos (by unfold seg; rw [List.length_take, List.length_drop]; omega)]
   ·rw [if_neg hl, if_neg (by unfold seg; rw [List.length_take, List.length_drop]; omega)]
  ·rw [if_neg (by omega), if_neg he, seg_get _ _ _ _ hi]
 ·rw [seg_get_ge _ _ _ _ hi, List.getElem?_eq_none]
  rw [List.length_set]
  unfold seg
  rw [List.length_take]
  omega
def PL {α : Type} (d : Kd α) (e : Nat) (w0 w : World) (base bE N : Nat) (v : Value) (xs : List α) (i i' : Nat) (inner : List Value) : Prop :=
 (base ≤ bE ∧ ∀ k, v.ownBlock = some k → k < N) ∧ w.ownsRow base e d.sz v xs.length inner ∧ inner.length = xs.length * d.sz ∧
  (∃ tag : Nat → Nat, ∀ j x, xs[j]? = some x → j < i → d.M w bE (fun k => k < N ∧ some k ≠ v.ownBlock ∧ tag k = j) x (seg inner d.sz j)) ∧
  ∀ j x, xs[j]? = some x → i' ≤ j → d.K w0 x (seg inner d.sz j)
def asRead {α : Type} (d : Kd α) (w0 : World) : Kd α where
 sz := d.sz
 E := []
 K := fun _ x cs => d.K w0 x cs
 M := fun _ _ _ x cs => d.K w0 x cs
 K_len := fun h => d.K_len h
 K_one := fun h => d.K_one h
 K_below := fun _ h => h
 K_of_M := fun h => h
 M_mono := fun _ h => h
 M_bound := fun h => h
 M_move := fun _ h => h
 M_lower := fun _ h => h
theorem C_asRead {α : Type} {d : Kd α} {w0 w : World} {A : Option Addr} {n : Nat} {xs : List α} (h : d.C w0 A n xs) (hb : Below w0.heap.size w0 w) : (asRead d w0).C w A n xs := ReadsRow.imp_ h hb (fun _ _ hp => hp)
section
variable {α : Type} {d : Kd α} {e : Nat} {w0 w w1 : World} {base bE N : Nat} {v : Value} {xs : List α} {i i' : Nat} {inner : List Value}
theorem PL_zero {ok : Nat → Prop} (h : (asRead d w0).R e w base ok v xs) (bE : Nat) (hb : base ≤ bE) : ∃ inner, PL d e w0 w base bE w.heap.size v xs 0 0 inner := by
 obtain ⟨_, inner, ho, hl, hr⟩ := h
 exact ⟨inner, ⟨hb, fun k hk => own_lt ho k hk⟩, ho, hl, ⟨fun _ => 0, fun j x _ h => absurd h (by omega)⟩, fun j x hj _ => hr j x hj⟩
theorem PL_rebase {bE' : Nat} (h : PL d e w0 w base bE N v xs 0 i' inner) (hb : base ≤ bE') : PL d e w0 w base bE' N v xs 0 i' inner :=
 ⟨⟨hb, h.1.2⟩, h.2.1, h.2.2.1, ⟨fun _ => 0, fun j x _ h => absurd h (by omega)⟩, h.2.2.2.2⟩
theorem PL_step (h : PL d e w0 w base bE N v xs i i' inner) (hm : ∀ k, base ≤ k → k < N → k < w.heap.size → w1.heap[k]? = w.heap[k]?) : PL d e w0 w1 base bE N v xs i i' inner := by
 obtain ⟨⟨hb, h0⟩, ho, hl, ⟨tag, hr⟩, hs⟩ := h
 exact ⟨⟨hb, h0⟩, own_move ho (fun k hk => hm k (own_base ho k hk) (h0 k hk) (own_lt ho k hk)), hl, ⟨tag, fun j x hj hi => d.M_mono (fun k hk => hk.1) (d.M_move (fun k hk => hm k (Nat.le_trans hb hk.2.1) hk.1.1 hk.2.2.1) (d.M_bound (hr j x hj hi)))⟩, hs⟩
theorem PL_up {N' : Nat} (h : PL d e w0 w base bE N v xs i i' inner) (hn : N ≤ N') : PL d e w0 w base bE N' v xs i i' inner := by
 obtain ⟨⟨hb, h0⟩, ho, hl, ⟨tag, hr⟩, hs⟩ := h
 exact ⟨⟨hb, fun k hk => Nat.lt_of_lt_of_le (h0 k hk) hn⟩, ho, hl, ⟨tag, fun j x hj hi => d.M_mono (fun k hk => ⟨Nat.lt_of_lt_of_le hk.1 hn, hk.2⟩) (hr j x hj hi)⟩, hs⟩
theorem size_set (w : World) (p : Addr) (u : Value) : (w.setCell p u).heap.size = w.heap.size := by simp [World.setCell]
theorem PL_elder (h : PL d e w0 w base bE N v xs i i' inner) {p : Addr} (hp : p.block < base) (u : Value) : PL d e w0 (w.setCell p u) base bE N v xs i i' inner :=
 PL_step h (fun k hk _ _ => Below.heap_setCell w p u k (by omega))
theorem PL_young (h : PL d e w0 w base bE N v xs i i' inner) {p : Addr} (hp : N ≤ p.block) (u : Value) : PL d e w0 (w.setCell p u) base bE N v xs i i' inner :=
 PL_step h (fun k _ hk _ => Below.heap_setCell w p u k (by omega))
theorem PL_below (h : PL d e w0 w base bE N v xs i i' inner) (hb : Below w.heap.size w w1) : PL d e w0 w1 base bE N v xs i i' inner := PL_step h (fun k _ _ hlt => hb.block k hlt)
theorem PL_open (h : PL d e w0 w base bE N v xs i i inner) {x : α} (hx : xs[i]? = some x) : d.K w0 x (seg inner d.sz i) ∧ PL d e w0 w base bE N v xs i (i + 1) inner :=
 ⟨h.2.2.2.2 i x hx (Nat.le_refl _), h.1, h.2.1, h.2.2.1, h.2.2.2.1, fun j x hj hi => h.2.2.2.2 j x hj (by omega)⟩
theorem PL_set {g n c : Nat} (h : PL d e w0 w base bE N (.slice (some ⟨g, 0, none⟩) n c) xs i (i + 1) inner) (o : Nat) (ho' : o < d.sz) (u : Value) :
  PL d e w0 (w.setCell ⟨g, i * d.sz + o, none⟩ u) base bE N (.slice (some ⟨g, 0, none⟩) n c) xs i (i + 1) (inner.set (i * d.sz + o) u) := by
 obtain ⟨h0, ho, hl, ⟨tag, hr⟩, hs⟩ := h
 have hn : n = xs.length := by
  rcases ho.2 with ⟨h', _⟩ | ⟨g', cap', cur, h', _⟩
  ·cases h'
  ·injection h'
 subst hn
 refine ⟨h0, (ho.stored (i * d.sz + o) u).1, by rw [List.length_set]; exact hl, ⟨tag, fun j x hj hi => ?_⟩, fun j x hj hi => ?_⟩
 ·rw [seg_set_ne _ _ ho' (by omega)]
  refine Kd.M_far (hr j x hj hi) (fun k hk => ?_) u
  intro e'
  exact hk.2.1 (by rw [e']; rfl)
 ·rw [seg_set_ne _ _ ho' (by omega)]
  exact hs j x hj hi
theorem PL_next (h : PL d e w0 w base bE N v xs i (i + 1) inner) {x : α} (hx : xs[i]? = some x) (hN : N ≤ w.heap.size) (hM : d.M w bE (fun k => N ≤ k) x (seg inner d.sz i)) : PL d e w0 w base bE w.heap.size v xs (i + 1) (i + 1) inner := by
 obtain ⟨⟨hb, h0⟩, ho, hl, ⟨tag, hr⟩, hs⟩ := h
 refine ⟨⟨hb, fun k hk => own_lt ho k hk⟩, ho, hl, ⟨fun k => if k < N then tag k else i, fun j y hj hi => ?_⟩, hs⟩
 by_cases hj' : j < i
 ·refine d.M_mono (fun k hk => ?_) (d.M_bound (hr j y hj hj'))
  refine ⟨hk.2.2.1, hk.1.2.1, ?_⟩
  show (if k < N then tag k else i) = j
  rw [if_pos hk.1.1]
  exact hk.1.2.2
 ·obtain rfl : j = i := by omega
  obtain rfl : y = x := by rw [hx] at hj; exact (Option.some.inj hj).symm
  refine d.M_mono (fun k hk => ?_) (d.M_bound hM)
  refine ⟨hk.2.2.1, fun e' => ?_, ?_⟩
  ·have h1 := h0 k e'.symm
   have h2 := hk.1
   omega
  ·show (if k < N then tag k else j) = j
   rw [if_neg (by have := hk.1; omega)]
theorem PL_all (h : PL d e w0 w base bE N v xs i i' inner) (hi : xs.length ≤ i) : Kd.S d e w base (fun k => k < N ∧ (v.ownBlock = some k ∨ bE ≤ k)) v xs := by
 obtain ⟨⟨hb, h0⟩, ho, hl, ⟨tag, hr⟩, hs⟩ := h
 refine ⟨tag, fun k hk => ⟨h0 k hk, .inl hk⟩, inner, by rw [List.length_zipIdx]; exact ho, by rw [List.length_zipIdx]; exact hl, fun j p hj => ?_⟩
 rw [List.getElem?_zipIdx, Nat.zero_add] at hj
 obtain ⟨x, hx, rfl⟩ := Option.map_eq_some_iff.1 hj
 exact d.M_lower hb (d.M_mono (fun k hk => ⟨⟨⟨hk.1.1, .inr hk.2.1⟩, hk.1.2.1⟩, hk.1.2.2⟩) (d.M_bound (hr j x hx (by have := (List.getElem?_eq_some_iff.1 hx).1; omega))))
theorem PL_cell {g n c : Nat} (h : PL d e w0 w base bE N (.slice (some ⟨g, 0, none⟩) n c) xs i i' inner) {p : Nat} {u : Value} (hu : inner[p]? = some u) : w.cell? ⟨g, p, none⟩ = some u ∧ w.frozen? ⟨g, p, none⟩ = false := by
 obtain ⟨h0, ho, hl, _⟩ := h
 constructor
 ·have hc := ho.cells (g := g) rfl p u hu
  rwa [add_plain] at hc
 ·rcases ho.2 with ⟨h', _⟩ | ⟨g', cap', cur, h', _, hh, _⟩
  ·cases h'
  ·have : g = g' := by injection h' with h'; injection h' with h'; injection h' with h'
   subst this
   simp [World.frozen?, hh]
theorem PL_form (h : PL d e w0 w base bE N v xs i i' inner) (hp : 0 < xs.length) : ∃ g c, v = .slice (some ⟨g, 0, none⟩) xs.length c ∧ base ≤ g ∧ g < N := by
 obtain ⟨⟨hb, h0⟩, ho, hl, _⟩ := h
 rcases ho.2 with ⟨_, hn⟩ | ⟨g, c, cur, rfl, hb', _⟩
 ·omega
 ·exact ⟨g, c, rfl, hb', h0 g (by simp [Value.ownBlock])⟩
theorem PL_typed {g n c : Nat} (h : PL d e w0 w base bE N (.slice (some ⟨g, 0, none⟩) n c) xs i i' inner) : ∃ cells, w.heap[g]? = some (.cells cells e (0, 0)) := own_typed h.2.1 g rfl
theorem PL_seg (h : PL d e w0 w base bE N v xs i i' inner) {g n c p : Nat} {u : Value} (hv : v = .slice (some ⟨g, 0, none⟩) n c) (o : Nat) (ho : o < d.sz) {cs : List Value} (hs : seg inner d.sz p = cs) (hu : cs[o]? = some u) : w.cell? ⟨g, p * d.sz + o, none⟩ = some u ∧ w.frozen? ⟨g, p * d.sz + o, none⟩ = false := by
 subst hv
 exact PL_cell h ((seg_get inner d.sz p o ho).symm.trans (by rw [hs]; exact hu))
end
end Go.Proofs.Ytbfialebaoeicaa.X
namespace Go.Proofs.Ytbfialebaoeicaa.X
open Go.RowKit Go.Proofs.YtbfialebaoeicaaW.PrintWords Go.Proofs.YtbfialebaoeicaaW.PrintLast Go.Proofs.YtbfialebaoeicaaW.PrintMore
set_option linter.all false
def sB : Kd S41 where
 sz := 14
 E := 44 :: 49 :: 3 :: k49.E
 K := k41.K
 M := fun w base ok x cs => ∃ (v2 v5 v10 : Value) (t : Nat → Nat), cs = [.bool x.f0, .int .i64 x.f1.f0, v2, .bool x.f1.f2, .bool x.f1.f3, v5, .int .i64 x.f3.f0, .int .i64 x.f3.f1, .int .i64 x.f3.f2, .int .i64 x.f3.f3, v10, .int .i64 x.f3.f5, .int .i64 x.f3.f6, .int .i64 x.f3.f7] ∧ (Kd.int .u16).R 44 w base (fun k => ok k ∧ t k = 0) v2 x.f1.f1 ∧ Kd.S k49 49 w base (fun k => ok k ∧ t k = 1) v5 x.f2 ∧ (Kd.int .i64).R 3 w base (fun k => ok k ∧ t k = 2) v10 x.f3.f4
 K_len := fun h => k41.K_len h
 K_one := fun h => k41.K_one h
 K_below := fun hb h => k41.K_below hb h
 K_of_M := by
  rintro w base ok x cs ⟨v2, v5, v10, t, rfl, h2, h5, h10⟩
  obtain ⟨A2, c2, rfl, l2, g2⟩ := Kd.R_reads h2
  obtain ⟨A5, c5, rfl, l5, g5⟩ := Kd.R_reads (Kd.S_R h5)
  obtain ⟨A10, c10, rfl, l10, g10⟩ := Kd.R_reads h10
  exact k41_mk w x l2 g2 l5 g5 l10 g10
 M_mono := by
  rintro w base ok ok' x cs hok ⟨v2, v5, v10, t, rfl, h2, h5, h10⟩
  exact ⟨v2, v5, v10, t, rfl, Kd.R_mono h2 (fun k hk => ⟨hok k hk.1, hk.2⟩), Kd.S_mono h5 (fun k hk => ⟨hok k hk.1, hk.2⟩), Kd.R_mono h10 (fun k hk => ⟨hok k hk.1, hk.2⟩)⟩
 M_bound := by
  rintro w base ok x cs ⟨v2, v5, v10, t, rfl, h2, h5, h10⟩
  refine ⟨v2, v5, v10, t, rfl, Kd.R_mono (Kd.R_bound h2) ?_, Kd.S_mono (Kd.S_bound h5) ?_, Kd.R_mono (Kd.R_bound h10) ?_⟩
  ·rintro k ⟨⟨h1, h2⟩, h3, h4, q, hq, hc⟩
   refine ⟨⟨h1, h3, h4, q, ?_, hc⟩, h2⟩
   rcases List.mem_cons.1 hq with rfl | hq
   ·simp
   ·exact absurd hq (by simp [Kd.int, Kd.scalar])
  ·rintro k ⟨⟨h1, h2⟩, h3, h4, q, hq, hc⟩
   refine ⟨⟨h1, h3, h4, q, ?_, hc⟩, h2⟩
   rcases List.mem_cons.1 hq with rfl | hq
   ·simp
   ·simp [hq]
  ·rintro k ⟨⟨h1, h2⟩, h3, h4, q, hq, hc⟩
   refine ⟨⟨h1, h3, h4, q, ?_, hc⟩, h2⟩
   rcases List.mem_cons.1 hq with rfl | hq
   ·simp
   ·exact absurd hq (by simp [Kd.int, Kd.scalar])
 M_move := by
  rintro w w1 base ok x cs hm ⟨v2, v5, v10, t, rfl, h2, h5, h10⟩
  exact ⟨v2, v5, v10, t, rfl, Kd.R_move h2 (fun k hk => hm k hk.1), Kd.S_move h5 (fun k hk => hm k hk.1), Kd.R_move h10 (fun k hk => hm k hk.1)⟩
 M_lower := by
  rintro w base base' ok x cs hb ⟨v2, v5, v10, t, rfl, h2, h5, h10⟩
  exact ⟨v2, v5, v10, t, rfl, Kd.R_lower h2 hb, Kd.S_lower h5 hb, Kd.R_lower h10 hb⟩
theorem sB_of {w : World} {base : Nat} {ok ok2 ok5 ok10 : Nat → Prop} {x : S41} {v2 v5 v10 : Value} (h2 : (Kd.int .u16).R 44 w base ok2 v2 x.f1.f1) (h5 : Kd.S k49 49 w base ok5 v5 x.f2) (h10 : (Kd.int .i64).R 3 w base ok10 v10 x.f3.f4)
  (k2 : ∀ k, ok2 k → ok k) (k5 : ∀ k, ok5 k → ok k) (k10 : ∀ k, ok10 k → ok k) (d1 : ∀ k, ok2 k → ¬ ok5 k) (d2 : ∀ k, ok2 k → ¬ ok10 k) (d3 : ∀ k, ok5 k → ¬ ok10 k) : sB.M w base ok x [.bool x.f0, .int .i64 x.f1.f0, v2, .bool x.f1.f2, .bool x.f1.f3, v5, .int .i64 x.f3.f0, .int .i64 x.f3.f1, .int .i64 x.f3.f2, .int .i64 x.f3.f3, v10, .int .i64 x.f3.f5, .int .i64 x.f3.f6, .int .i64 x.f3.f7] := by
 classical
 refine ⟨v2, v5, v10, fun k => if ok2 k then 0 else if ok5 k then 1 else 2, rfl, Kd.R_mono h2 (fun k hk => ⟨k2 k hk, if_pos hk⟩), Kd.S_mono h5 (fun k hk => ⟨k5 k hk, ?_⟩), Kd.R_mono h10 (fun k hk => ⟨k10 k hk, ?_⟩)⟩
 ·show (if ok2 k then 0 else if ok5 k then 1 else 2) = 1
  rw [if_neg (fun h => d1 k h hk), if_pos hk]
 ·show (if ok2 k then 0 else if ok5 k then 1 else 2) = 2
  rw [if_neg (fun h => d2 k h hk), if_neg (fun h => d3 k h hk)]
def sF : Kd S27 where
 sz := 3
 E := 41 :: sB.E
 K := k27.K
 M := fun w base ok x cs => ∃ v2 : Value, cs = [.int .i64 x.f0, .int .i64 x.f1, v2] ∧ Kd.S sB 41 w base ok v2 x.f2
 K_len := fun h => k27.K_len h
 K_one := fun h => k27.K_one h
 K_below := fun hb h => k27.K_below hb h
 K_of_M := by
  rintro w base ok x cs ⟨v2, rfl, h2⟩
  obtain ⟨A2, c2, rfl, l2, g2⟩ := Kd.R_reads (Kd.S_R h2)
  exact k27_mk w x l2 g2
 M_mono := by
  rintro w base ok ok' x cs hok ⟨v2, rfl, h2⟩
  exact ⟨v2, rfl, Kd.S_mono h2 hok⟩
 M_bound := by
  rintro w base ok x cs ⟨v2, rfl, h2⟩
  exact ⟨v2, rfl, Kd.S_bound h2⟩
 M_move := by
  rintro w w1 base ok x cs hm ⟨v2, rfl, h2⟩
  exact ⟨v2, rfl, Kd.S_move h2 hm⟩
 M_lower := by
  rintro w base base' ok x cs hb ⟨v2, rfl, h2⟩
  exact ⟨v2, rfl, Kd.S_lower h2 hb⟩
def SM (w : World) (base : Nat) (ok : Nat → Prop) (v : Value) (m : List S27) : Prop := Kd.S sF 27 w base ok v m
end Go.Proofs.Ytbfialebaoeicaa.X
namespace Go.Proofs.Ytbfialebaoeicaa.X
open Go.Shelf Go.RowKit Go.Proofs.YtbfialebaoeicaaW.PrintWords Go.Proofs.YtbfialebaoeicaaW.PrintLast Go.Proofs.YtbfialebaoeicaaW.PrintMore
set_option linter.all false
theorem infoI : (Try.prog.info? 49).map (fun i => (i.zero, i.size, i.bytes)) = some (some (.agg #[(.int .i64 0), (.int .i64 0), (.int .i64 0), (.int .i64 0), (.int .u16 0), (.int .i64 0), (.slice none 0 0)]), 7, 72) := by kernel_rfl
theorem infoB : (Try.prog.info? 41).map (fun i => (i.zero, i.size, i.bytes)) = some (some (.agg #[(.bool false), (.int .i64 0), (.slice none 0 0), (.bool false), (.bool false), (.slice none 0 0), (.int .i64 0), (.int .i64 0), (.int .i64 0), (.int .i64 0), (.slice none 0 0), (.int .i64 0), (.int .i64 0), (.int .i64 0)]), 14, 152) := by kernel_rfl
theorem infoF : (Try.prog.info? 27).map (fun i => (i.zero, i.size, i.bytes)) = some (some (.agg #[(.int .i64 0), (.int .i64 0), (.slice none 0 0)]), 3, 40) := by kernel_rfl
theorem sl_Clone_I (w0 : World) (A0 : Option Addr) (c0 : Nat) (l0 : List S49) (w : World) (hr0 : Kd.C (asRead k49 w0) w A0 l0.length l0) (hc0 : l0.length ≤ c0) (hl : l0.length < 1000000) :
  Calls Try.prog 62 #[.slice A0 l0.length c0] w fun e w' => ∃ v0_ : Value, e = .returned (v0_) ∧ Kd.R (asRead k49 w0) 49 w' w.heap.size (fun _ => True) v0_ l0 ∧ Below w.heap.size w w' := by
 have HR0 := Aside0.mk hr0
 have HL := Aside0.mk hl
 clear hr0 hl
 cases A0 with
 | none =>
  obtain rfl : l0 = [] := by
   rcases Nat.eq_zero_or_pos l0.length with h | h
   ·exact List.eq_nil_of_length_eq_zero h
   ·obtain ⟨ad, e, _⟩ := HR0.out.2.2 h
    cases e
  have he : ∀ w : World, (binOp .eql 36 (.slice none 0 c0) (.slice none 0 0)).run Try.prog w = .ok (.bool true) w := fun w => Lib.run_eql_slice_nil (P := Try.prog) w 36 49 none 0 c0 0 0 Try.underlying36
  go_enter Try.func62, Try.ntmps62
  go_wp2
  go_ret
  exact ⟨_, rfl, Kd.R_nil _ _ _ _ _, Below.refl _ _⟩
 | some ad =>
  have he : ∀ w : World, (binOp .eql 36 (.slice (some ad) l0.length c0) (.slice none 0 0)).run Try.prog w = .ok (.bool false) w := fun w => Lib.run_eql_slice_nil (P := Try.prog) w 36 49 (some ad) l0.length c0 0 0 Try.underlying36
  go_enter Try.func62, Try.ntmps62
  go_wp2_with (first | ((with_reducible refine gate_dst (N := 5) rfl ?_); refine Kd.R_lit (asRead k49 w0) _ 49 ?hg (N := 5) ?hd (xs := ([] : List S49)) (inner := []) (ok := fun _ => True) (okp := fun _ => True) ?hr ?hp (fun _ hk => hk) trivial (Below.refl _ _) (Nat.le_refl _) (by simp) ?_; (case hd => rfl); (case hg => rfl); (case hr => first | (go_simp; done) | (go_simp; rfl)); (case hp => exact (Reps.none _ _)); intro v5 w5 ho5 hb5 hg_ hnew_; clear hg_ hnew_; have HO5 := Aside0.mk ho5; have HB5 := Aside0.mk hb5; clear ho5 hb5) | ((with_reducible refine gate_builtin (b := .append) (xs := #[.tmp 5, .tmp 6]) rfl ?_); at_builtin; refine Kd.R_append_rows (asRead k49 w0) (w0 := w) w.heap.size rfl (.tmp 5) (.tmp 6) 36 49 _ _ rfl Try.underlying36 infoI rfl (Nat.succ_pos _) (by omega) v5 ([] : List S49) l0 _ _ _ (fun _ => True) (fun _ => False) rfl rfl ?aO ?aR (fun _ _ h => h) (fun _ h => h.elim) ?aF ?aB ?aS ?aL ?_; (case aR => exact Kd.C_below HR0.out HB5.out); (case aB => exact HB5.out); (case aF => exact (fun _ _ => trivial)); (case aO => exact HO5.out); (case aS => exact (below_size HB5.out)); (case aL => have := HL.out; simp; omega); intro v7 w7 ho hb hg hat; rw [List.nil_append] at ho; have HO7 := Aside0.mk ho; have HB7 := Aside0.mk hb; clear ho hb hg hat))
  go_ret
  exact ⟨_, rfl, HO7.out, HB7.out⟩
theorem cl_I (w0 : World) (A0 : Option Addr) (c0 : Nat) (l0 : List S49) (w : World) (h : Kd.C k49 w0 A0 l0.length l0) (hb : Below w0.heap.size w0 w) (hc : l0.length ≤ c0) (hl : l0.length ≤ 999999) :
  Calls Try.prog 62 #[.slice A0 l0.length c0] w fun e w' => (∃ A c inner, e = .returned (.slice A l0.length c) ∧ l0.length ≤ c ∧ PL k49 49 w0 w' w.heap.size w.heap.size w'.heap.size (.slice A l0.length c) l0 0 0 inner) ∧ Below w.heap.size w w' := by
 refine (sl_Clone_I w0 A0 c0 l0 w (C_asRead (d := k49) h hb) hc (by omega)).mono ?_
 rintro e w' ⟨v, rfl, hr, hb'⟩
 obtain ⟨A, c, rfl, hlc, _⟩ := Kd.R_reads hr
 obtain ⟨inner, hp⟩ := PL_zero (d := k49) hr _ (Nat.le_refl _)
 exact ⟨⟨A, c, inner, rfl, hlc, hp⟩, hb'⟩
theorem sl_Clone_B (w0 : World) (A0 : Option Addr) (c0 : Nat) (l0 : List S41) (w : World) (hr0 : Kd.C (asRead sB w0) w A0 l0.length l0) (hc0 : l0.length ≤ c0) (hl : l0.length < 1000000) :
  Calls Try.prog 60 #[.slice A0 l0.length c0] w fun e w' => ∃ v0_ : Value, e = .returned (v0_) ∧ Kd.R (asRead sB w0) 41 w' w.heap.size (fun _ => True) v0_ l0 ∧ Below w.heap.size w w' := by
 have HR0 := Aside0.mk hr0
 have HL := Aside0.mk hl
 clear hr0 hl
 cases A0 with
 | none =>
  obtain rfl : l0 = [] := by
   rcases Nat.eq_zero_or_pos l0.length with h | h
   ·exact List.eq_nil_of_length_eq_zero h
   ·obtain ⟨ad, e, _⟩ := HR0.out.2.2 h
    cases e
  have he : ∀ w : World, (binOp .eql 25 (.slice none 0 c0) (.slice none 0 0)).run Try.prog w = .ok (.bool true) w := fun w => Lib.run_eql_slice_nil (P := Try.prog) w 25 41 none 0 c0 0 0 Try.underlying25
  go_enter Try.func60, Try.ntmps60
  go_wp2
  go_ret
  exact ⟨_, rfl, Kd.R_nil _ _ _ _ _, Below.refl _ _⟩
 | some ad =>
  have he : ∀ w : World, (binOp .eql 25 (.slice (some ad) l0.length c0) (.slice none 0 0)).run Try.prog w = .ok (.bool false) w := fun w => Lib.run_eql_slice_nil (P := Try.prog) w 25 41 (some ad) l0.length c0 0 0 Try.underlying25
  go_enter Try.func60, Try.ntmps60
  go_wp2_with (first | ((with_reducible refine gate_dst (N := 5) rfl ?_); refine Kd.R_lit (asRead sB w0) _ 41 ?hg (N := 5) ?hd (xs := ([] : List S41)) (inner := []) (ok := fun _ => True) (okp := fun _ => True) ?hr ?hp (fun _ hk => hk) trivial (Below.refl _ _) (Nat.le_refl _) (by simp) ?_; (case hd => rfl); (case hg => rfl); (case hr => first | (go_simp; done) | (go_simp; rfl)); (case hp => exact (Reps.none _ _)); intro v5 w5 ho5 hb5 hg_ hnew_; clear hg_ hnew_; have HO5 := Aside0.mk ho5; have HB5 := Aside0.mk hb5; clear ho5 hb5) | ((with_reducible refine gate_builtin (b := .append) (xs := #[.tmp 5, .tmp 6]) rfl ?_); at_builtin; refine Kd.R_append_rows (asRead sB w0) (w0 := w) w.heap.size rfl (.tmp 5) (.tmp 6) 25 41 _ _ rfl Try.underlying25 infoB rfl (Nat.succ_pos _) (by omega) v5 ([] : List S41) l0 _ _ _ (fun _ => True) (fun _ => False) rfl rfl ?aO ?aR (fun _ _ h => h) (fun _ h => h.elim) ?aF ?aB ?aS ?aL ?_; (case aR => exact Kd.C_below HR0.out HB5.out); (case aB => exact HB5.out); (case aF => exact (fun _ _ => trivial)); (case aO => exact HO5.out); (case aS => exact (below_size HB5.out)); (case aL => have := HL.out; simp; omega); intro v7 w7 ho hb hg hat; rw [List.nil_append] at ho; have HO7 := Aside0.mk ho; have HB7 := Aside0.mk hb; clear ho hb hg hat))
  go_ret
  exact ⟨_, rfl, HO7.out, HB7.out⟩
theorem cl_B (w0 : World) (A0 : Option Addr) (c0 : Nat) (l0 : List S41) (w : World) (h : Kd.C k41 w0 A0 l0.length l0) (hb : Below w0.heap.size w0 w) (hc : l0.length ≤ c0) (hl : l0.length ≤ 999999) :
  Calls Try.prog 60 #[.slice A0 l0.length c0] w fun e w' => (∃ A c inner, e = .returned (.slice A l0.length c) ∧ l0.length ≤ c ∧ PL sB 41 w0 w' w.heap.size w.heap.size w'.heap.size (.slice A l0.length c) l0 0 0 inner) ∧ Below w.heap.size w w' := by
 refine (sl_Clone_B w0 A0 c0 l0 w (C_asRead (d := sB) h hb) hc (by omega)).mono ?_
 rintro e w' ⟨v, rfl, hr, hb'⟩
 obtain ⟨A, c, rfl, hlc, _⟩ := Kd.R_reads hr
 obtain ⟨inner, hp⟩ := PL_zero (d := sB) hr _ (Nat.le_refl _)
 exact ⟨⟨A, c, inner, rfl, hlc, hp⟩, hb'⟩
theorem sl_Clone_F (w0 : World) (A0 : Option Addr) (c0 : Nat) (l0 : List S27) (w : World) (hr0 : Kd.C (asRead sF w0) w A0 l0.length l0) (hc0 : l0.length ≤ c0) (hl : l0.length < 1000000) :
  Calls Try.prog 59 #[.slice A0 l0.length c0] w fun e w' => ∃ v0_ : Value, e = .returned (v0_) ∧ Kd.R (asRead sF w0) 27 w' w.heap.size (fun _ => True) v0_ l0 ∧ Below w.heap.size w w' := by
 have HR0 := Aside0.mk hr0
 have HL := Aside0.mk hl
 clear hr0 hl
 cases A0 with
 | none =>
  obtain rfl : l0 = [] := by
   rcases Nat.eq_zero_or_pos l0.length with h | h
   ·exact List.eq_nil_of_length_eq_zero h
   ·obtain ⟨ad, e, _⟩ := HR0.out.2.2 h
    cases e
  have he : ∀ w : World, (binOp .eql 22 (.slice none 0 c0) (.slice none 0 0)).run Try.prog w = .ok (.bool true) w := fun w => Lib.run_eql_slice_nil (P := Try.prog) w 22 27 none 0 c0 0 0 Try.underlying22
  go_enter Try.func59, Try.ntmps59
  go_wp2
  go_ret
  exact ⟨_, rfl, Kd.R_nil _ _ _ _ _, Below.refl _ _⟩
 | some ad =>
  have he : ∀ w : World, (binOp .eql 22 (.slice (some ad) l0.length c0) (.slice none 0 0)).run Try.prog w = .ok (.bool false) w := fun w => Lib.run_eql_slice_nil (P := Try.prog) w 22 27 (some ad) l0.length c0 0 0 Try.underlying22
  go_enter Try.func59, Try.ntmps59
  go_wp2_with (first | ((with_reducible refine gate_dst (N := 5) rfl ?_); refine Kd.R_lit (asRead sF w0) _ 27 ?hg (N := 5) ?hd (xs := ([] : List S27)) (inner := []) (ok := fun _ => True) (okp := fun _ => True) ?hr ?hp (fun _ hk => hk) trivial (Below.refl _ _) (Nat.le_refl _) (by simp) ?_; (case hd => rfl); (case hg => rfl); (case hr => first | (go_simp; done) | (go_simp; rfl)); (case hp => exact (Reps.none _ _)); intro v5 w5 ho5 hb5 hg_ hnew_; clear hg_ hnew_; have HO5 := Aside0.mk ho5; have HB5 := Aside0.mk hb5; clear ho5 hb5) | ((with_reducible refine gate_builtin (b := .append) (xs := #[.tmp 5, .tmp 6]) rfl ?_); at_builtin; refine Kd.R_append_rows (asRead sF w0) (w0 := w) w.heap.size rfl (.tmp 5) (.tmp 6) 22 27 _ _ rfl Try.underlying22 infoF rfl (Nat.succ_pos _) (by omega) v5 ([] : List S27) l0 _ _ _ (fun _ => True) (fun _ => False) rfl rfl ?aO ?aR (fun _ _ h => h) (fun _ h => h.elim) ?aF ?aB ?aS ?aL ?_; (case aR => exact Kd.C_below HR0.out HB5.out); (case aB => exact HB5.out); (case aF => exact (fun _ _ => trivial)); (case aO => exact HO5.out); (case aS => exact (below_size HB5.out)); (case aL => have := HL.out; simp; omega); intro v7 w7 ho hb hg hat; rw [List.nil_append] at ho; have HO7 := Aside0.mk ho; have HB7 := Aside0.mk hb; clear ho hb hg hat))
  go_ret
  exact ⟨_, rfl, HO7.out, HB7.out⟩
theorem cl_F (w0 : World) (A0 : Option Addr) (c0 : Nat) (l0 : List S27) (w : World) (h : Kd.C k27 w0 A0 l0.length l0) (hb : Below w0.heap.size w0 w) (hc : l0.length ≤ c0) (hl : l0.length ≤ 999999) :
  Calls Try.prog 59 #[.slice A0 l0.length c0] w fun e w' => (∃ A c inner, e = .returned (.slice A l0.length c) ∧ l0.length ≤ c ∧ PL sF 27 w0 w' w.heap.size w.heap.size w'.heap.size (.slice A l0.length c) l0 0 0 inner) ∧ Below w.heap.size w w' := by
 refine (sl_Clone_F w0 A0 c0 l0 w (C_asRead (d := sF) h hb) hc (by omega)).mono ?_
 rintro e w' ⟨v, rfl, hr, hb'⟩
 obtain ⟨A, c, rfl, hlc, _⟩ := Kd.R_reads hr
 obtain ⟨inner, hp⟩ := PL_zero (d := sF) hr _ (Nat.le_refl _)
 exact ⟨⟨A, c, inner, rfl, hlc, hp⟩, hb'⟩
end Go.Proofs.Ytbfialebaoeicaa.X
