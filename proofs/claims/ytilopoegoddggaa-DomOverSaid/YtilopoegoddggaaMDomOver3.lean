/- Part 4 of the proof of the statement DomOver: the words of the walks, the walks through the functions that it reaches, and the plain laws of what they compute. -/
import Derived.Test.YtilopoegoddggaaMDomOver2
import Derived.RowKit
namespace Go.Proofs.Ytilopoegoddggaa.X
open Go.RowKit Go.Proofs.YtilopoegoddggaaW.PrintWords Go.Proofs.YtilopoegoddggaaW.PrintLast Go.Proofs.YtilopoegoddggaaW.PrintMore
attribute [local go_sem] max2_int min2_int max_two min_two max_three min_three max_four min_four
set_option linter.all false
noncomputable section
mutual
def davitlaw08_DomOver.j0 : Nat → Int → Int → Int → List Int → Bool → Int → Int → List (S50) → Option (Bool)
 | 0, _, _, _, _, _, _, _, _ => none
 | k + 1, x1, x2, x3, x4, x30, x264000, x264001, x264002 => if x30 = true then (some true) else (if (x264002.length : Int) = 0 then (none) else ((flow_Reached.f x264000 x264001 x264002).bind fun t265 => (if 0 ≤ (Int.tmod (wrap64 (x3)) (x264002.length : Int)) then (if (Int.tmod (wrap64 (x3)) (x264002.length : Int)) < (t265.length : Int) then ((dom_Is.f k x264000 x264001 x264002 0 (Int.tmod (wrap64 (x3)) (x264002.length : Int))).bind fun t269 => (if ((rdOf false t265 (Int.tmod (wrap64 (x3)) (x264002.length : Int))) != t269) = true then (davitlaw08_DomOver.j1 k x4 (Int.tmod (wrap64 (x1)) (x264002.length : Int)) (Int.tmod (wrap64 (x2)) (x264002.length : Int)) (Int.tmod (wrap64 (x3)) (x264002.length : Int)) true x264000 x264001 x264002) else ((flow_Reached.f x264000 x264001 x264002).bind fun t270 => (if (Int.tmod (wrap64 (x3)) (x264002.length : Int)) < (t270.length : Int) then ((dom_Is.f k x264000 x264001 x264002 (Int.tmod (wrap64 (x3)) (x264002.length : Int)) (Int.tmod (wrap64 (x3)) (x264002.length : Int))).bind fun t274 => (davitlaw08_DomOver.j1 k x4 (Int.tmod (wrap64 (x1)) (x264002.length : Int)) (Int.tmod (wrap64 (x2)) (x264002.length : Int)) (Int.tmod (wrap64 (x3)) (x264002.length : Int)) ((rdOf false t270 (Int.tmod (wrap64 (x3)) (x264002.length : Int))) != t274) x264000 x264001 x264002)) else (none))))) else (none)) else (none))))
def davitlaw08_DomOver.j1 : Nat → List Int → Int → Int → Int → Bool → Int → Int → List (S50) → Option (Bool)
 | 0, _, _, _, _, _, _, _, _ => none
 | k + 1, x4, x12, x13, x14, x66, x264000, x264001, x264002 => if x66 = true then (some false) else ((dom_Is.f k x264000 x264001 x264002 x12 x14).bind fun t275 => (if t275 = true then ((dom_Is.f k x264000 x264001 x264002 x13 x14).bind fun t276 => (if t276 = true then ((dom_Is.f k x264000 x264001 x264002 x12 x13).bind fun t277 => (if t277 = true then (davitlaw08_DomOver.j2 k x4 x12 false x264000 x264001 x264002) else ((dom_Is.f k x264000 x264001 x264002 x13 x12).bind fun t278 => (davitlaw08_DomOver.j2 k x4 x12 (!t278) x264000 x264001 x264002)))) else (davitlaw08_DomOver.j2 k x4 x12 false x264000 x264001 x264002))) else (davitlaw08_DomOver.j2 k x4 x12 false x264000 x264001 x264002)))
def davitlaw08_DomOver.j2 : Nat → List Int → Int → Bool → Int → Int → List (S50) → Option (Bool)
 | 0, _, _, _, _, _, _ => none
 | k + 1, x4, x12, x90, x264000, x264001, x264002 => if x90 = true then (some false) else (davitlaw08_DomOver.l0 k x4 x12 0 (x12 == 0) 0 x264000 x264001 x264002)
def davitlaw08_DomOver.l0 : Nat → List Int → Int → Int → Bool → Int → Int → Int → List (S50) → Option (Bool)
 | 0, _, _, _, _, _, _, _, _ => none
 | k + 1, x4, x12, x15, x16, x17, x264000, x264001, x264002 => if x17 < (x4.length : Int) then (davitlaw08_DomOver.j4 k x4 x12 x15 x16 x17 (decide (x17 < 100)) x264000 x264001 x264002) else (davitlaw08_DomOver.j4 k x4 x12 x15 x16 x17 false x264000 x264001 x264002)
def davitlaw08_DomOver.j4 : Nat → List Int → Int → Int → Bool → Int → Bool → Int → Int → List (S50) → Option (Bool)
 | 0, _, _, _, _, _, _, _, _, _ => none
 | k + 1, x4, x12, x15, x16, x17, x100, x264000, x264001, x264002 => if x100 = true then ((dom_Is.f k x264000 x264001 x264002 x12 x15).bind fun t279 => (if t279 = true then (davitlaw08_DomOver.j5 k x4 x12 x15 x16 x17 (!x16) x264000 x264001 x264002) else (davitlaw08_DomOver.j5 k x4 x12 x15 x16 x17 false x264000 x264001 x264002))) else (some true)
def davitlaw08_DomOver.j5 : Nat → List Int → Int → Int → Bool → Int → Bool → Int → Int → List (S50) → Option (Bool)
 | 0, _, _, _, _, _, _, _, _, _ => none
 | k + 1, x4, x12, x15, x16, x17, x110, x264000, x264001, x264002 => if x110 = true then (some false) else ((flow_Next.f x264000 x264001 x264002 x15).bind fun t280 => (if (t280.length : Int) = 0 then (some true) else (if 0 ≤ x17 then (if x17 < (x4.length : Int) then (if 0 ≤ (Int.tmod (wrap64 (rd x4 x17)) (t280.length : Int)) then (if (Int.tmod (wrap64 (rd x4 x17)) (t280.length : Int)) < (t280.length : Int) then (if x16 = true then (davitlaw08_DomOver.l0 k x4 x12 (rd t280 (Int.tmod (wrap64 (rd x4 x17)) (t280.length : Int))) true (wrap64 (x17 + 1)) x264000 x264001 x264002) else (davitlaw08_DomOver.l0 k x4 x12 (rd t280 (Int.tmod (wrap64 (rd x4 x17)) (t280.length : Int))) ((rd t280 (Int.tmod (wrap64 (rd x4 x17)) (t280.length : Int))) == x12) (wrap64 (x17 + 1)) x264000 x264001 x264002)) else (none)) else (none)) else (none)) else (none))))
end
def davitlaw08_DomOver.f (k : Nat) (a0_0 : Int) (a0_1 : Int) (l0_2 : List (S50)) (a1 : Int) (a2 : Int) (a3 : Int) (l4 : List Int) : Option (Bool) := (davitlaw08_awake.f k).bind fun t264 => (if t264 = true then (if (l0_2.length : Int) > 30 then (davitlaw08_DomOver.j0 k a1 a2 a3 l4 true a0_0 a0_1 l0_2) else (davitlaw08_DomOver.j0 k a1 a2 a3 l4 ((l0_2.length : Int) == 0) a0_0 a0_1 l0_2)) else (some false))
theorem davitlaw08_DomOver.mono_l : ∀ k, (∀ y0 y1 y2 y3 y4 y5 y6 y7, LeO (davitlaw08_DomOver.j0 k y0 y1 y2 y3 y4 y5 y6 y7) (davitlaw08_DomOver.j0 (k + 1) y0 y1 y2 y3 y4 y5 y6 y7)) ∧ (∀ y0 y1 y2 y3 y4 y5 y6 y7, LeO (davitlaw08_DomOver.j1 k y0 y1 y2 y3 y4 y5 y6 y7) (davitlaw08_DomOver.j1 (k + 1) y0 y1 y2 y3 y4 y5 y6 y7)) ∧ (∀ y0 y1 y2 y3 y4 y5, LeO (davitlaw08_DomOver.j2 k y0 y1 y2 y3 y4 y5) (davitlaw08_DomOver.j2 (k + 1) y0 y1 y2 y3 y4 y5)) ∧ (∀ y0 y1 y2 y3 y4 y5 y6 y7, LeO (davitlaw08_DomOver.l0 k y0 y1 y2 y3 y4 y5 y6 y7) (davitlaw08_DomOver.l0 (k + 1) y0 y1 y2 y3 y4 y5 y6 y7)) ∧ (∀ y0 y1 y2 y3 y4 y5 y6 y7 y8, LeO (davitlaw08_DomOver.j4 k y0 y1 y2 y3 y4 y5 y6 y7 y8) (davitlaw08_DomOver.j4 (k + 1) y0 y1 y2 y3 y4 y5 y6 y7 y8)) ∧ (∀ y0 y1 y2 y3 y4 y5 y6 y7 y8, LeO (davitlaw08_DomOver.j5 k y0 y1 y2 y3 y4 y5 y6 y7 y8) (davitlaw08_DomOver.j5 (k + 1) y0 y1 y2 y3 y4 y5 y6 y7 y8))
 | 0 => ⟨fun _ _ _ _ _ _ _ _ r h => by simp [davitlaw08_DomOver.j0] at h, fun _ _ _ _ _ _ _ _ r h => by simp [davitlaw08_DomOver.j1] at h, fun _ _ _ _ _ _ r h => by simp [davitlaw08_DomOver.j2] at h, fun _ _ _ _ _ _ _ _ r h => by simp [davitlaw08_DomOver.l0] at h, fun _ _ _ _ _ _ _ _ _ r h => by simp [davitlaw08_DomOver.j4] at h, fun _ _ _ _ _ _ _ _ _ r h => by simp [davitlaw08_DomOver.j5] at h⟩
 | k + 1 => by
  obtain ⟨ih0, ih1, ih2, ih3, ih4, ih5⟩ := davitlaw08_DomOver.mono_l k
  refine ⟨?_, ?_, ?_, ?_, ?_, ?_⟩
  ·intro y0 y1 y2 y3 y4 y5 y6 y7
   unfold davitlaw08_DomOver.j0
   repeat' first
   | (with_reducible exact ih0 _ _ _ _ _ _ _ _)
   | (with_reducible exact ih1 _ _ _ _ _ _ _ _)
   | (with_reducible exact ih2 _ _ _ _ _ _)
   | (with_reducible exact ih3 _ _ _ _ _ _ _ _)
   | (with_reducible exact ih4 _ _ _ _ _ _ _ _ _)
   | (with_reducible exact ih5 _ _ _ _ _ _ _ _ _)
   | (with_reducible exact davitlaw08_awake.mono _)
   | (with_reducible exact dom_Is.mono _ _ _ _ _ _)
   | (with_reducible exact LeO.refl _)
   | (with_reducible exact LeO.none _)
   | (with_reducible refine LeO.ite ?_ ?_)
   | (with_reducible refine LeO.bind ?_ (fun _ => ?_))
   | exact ih0 _ _ _ _ _ _ _ _
   | exact ih1 _ _ _ _ _ _ _ _
   | exact ih2 _ _ _ _ _ _
   | exact ih3 _ _ _ _ _ _ _ _
   | exact ih4 _ _ _ _ _ _ _ _ _
   | exact ih5 _ _ _ _ _ _ _ _ _
   | exact davitlaw08_awake.mono _
   | exact dom_Is.mono _ _ _ _ _ _
   | exact LeO.none _
   | refine LeO.ite ?_ ?_
   | refine LeO.bind ?_ (fun _ => ?_)
  ·intro y0 y1 y2 y3 y4 y5 y6 y7
   unfold davitlaw08_DomOver.j1
   repeat' first
   | (with_reducible exact ih0 _ _ _ _ _ _ _ _)
   | (with_reducible exact ih1 _ _ _ _ _ _ _ _)
   | (with_reducible exact ih2 _ _ _ _ _ _)
   | (with_reducible exact ih3 _ _ _ _ _ _ _ _)
   | (with_reducible exact ih4 _ _ _ _ _ _ _ _ _)
   | (with_reducible exact ih5 _ _ _ _ _ _ _ _ _)
   | (with_reducible exact davitlaw08_awake.mono _)
   | (with_reducible exact dom_Is.mono _ _ _ _ _ _)
   | (with_reducible exact LeO.refl _)
   | (with_reducible exact LeO.none _)
   | (with_reducible refine LeO.ite ?_ ?_)
   | (with_reducible refine LeO.bind ?_ (fun _ => ?_))
   | exact ih0 _ _ _ _ _ _ _ _
   | exact ih1 _ _ _ _ _ _ _ _
   | exact ih2 _ _ _ _ _ _
   | exact ih3 _ _ _ _ _ _ _ _
   | exact ih4 _ _ _ _ _ _ _ _ _
   | exact ih5 _ _ _ _ _ _ _ _ _
   | exact davitlaw08_awake.mono _
   | exact dom_Is.mono _ _ _ _ _ _
   | exact LeO.none _
   | refine LeO.ite ?_ ?_
   | refine LeO.bind ?_ (fun _ => ?_)
  ·intro y0 y1 y2 y3 y4 y5
   unfold davitlaw08_DomOver.j2
   repeat' first
   | (with_reducible exact ih0 _ _ _ _ _ _ _ _)
   | (with_reducible exact ih1 _ _ _ _ _ _ _ _)
   | (with_reducible exact ih2 _ _ _ _ _ _)
   | (with_reducible exact ih3 _ _ _ _ _ _ _ _)
   | (with_reducible exact ih4 _ _ _ _ _ _ _ _ _)
   | (with_reducible exact ih5 _ _ _ _ _ _ _ _ _)
   | (with_reducible exact davitlaw08_awake.mono _)
   | (with_reducible exact dom_Is.mono _ _ _ _ _ _)
   | (with_reducible exact LeO.refl _)
   | (with_reducible exact LeO.none _)
   | (with_reducible refine LeO.ite ?_ ?_)
   | (with_reducible refine LeO.bind ?_ (fun _ => ?_))
   | exact ih0 _ _ _ _ _ _ _ _
   | exact ih1 _ _ _ _ _ _ _ _
   | exact ih2 _ _ _ _ _ _
   | exact ih3 _ _ _ _ _ _ _ _
   | exact ih4 _ _ _ _ _ _ _ _ _
   | exact ih5 _ _ _ _ _ _ _ _ _
   | exact davitlaw08_awake.mono _
   | exact dom_Is.mono _ _ _ _ _ _
   | exact LeO.none _
   | refine LeO.ite ?_ ?_
   | refine LeO.bind ?_ (fun _ => ?_)
  ·intro y0 y1 y2 y3 y4 y5 y6 y7
   unfold davitlaw08_DomOver.l0
   repeat' first
   | (with_reducible exact ih0 _ _ _ _ _ _ _ _)
   | (with_reducible exact ih1 _ _ _ _ _ _ _ _)
   | (with_reducible exact ih2 _ _ _ _ _ _)
   | (with_reducible exact ih3 _ _ _ _ _ _ _ _)
   | (with_reducible exact ih4 _ _ _ _ _ _ _ _ _)
   | (with_reducible exact ih5 _ _ _ _ _ _ _ _ _)
   | (with_reducible exact davitlaw08_awake.mono _)
   | (with_reducible exact dom_Is.mono _ _ _ _ _ _)
   | (with_reducible exact LeO.refl _)
   | (with_reducible exact LeO.none _)
   | (with_reducible refine LeO.ite ?_ ?_)
   | (with_reducible refine LeO.bind ?_ (fun _ => ?_))
   | exact ih0 _ _ _ _ _ _ _ _
   | exact ih1 _ _ _ _ _ _ _ _
   | exact ih2 _ _ _ _ _ _
   | exact ih3 _ _ _ _ _ _ _ _
   | exact ih4 _ _ _ _ _ _ _ _ _
   | exact ih5 _ _ _ _ _ _ _ _ _
   | exact davitlaw08_awake.mono _
   | exact dom_Is.mono _ _ _ _ _ _
   | exact LeO.none _
   | refine LeO.ite ?_ ?_
   | refine LeO.bind ?_ (fun _ => ?_)
  ·intro y0 y1 y2 y3 y4 y5 y6 y7 y8
   unfold davitlaw08_DomOver.j4
   repeat' first
   | (with_reducible exact ih0 _ _ _ _ _ _ _ _)
   | (with_reducible exact ih1 _ _ _ _ _ _ _ _)
   | (with_reducible exact ih2 _ _ _ _ _ _)
   | (with_reducible exact ih3 _ _ _ _ _ _ _ _)
   | (with_reducible exact ih4 _ _ _ _ _ _ _ _ _)
   | (with_reducible exact ih5 _ _ _ _ _ _ _ _ _)
   | (with_reducible exact davitlaw08_awake.mono _)
   | (with_reducible exact dom_Is.mono _ _ _ _ _ _)
   | (with_reducible exact LeO.refl _)
   | (with_reducible exact LeO.none _)
   | (with_reducible refine LeO.ite ?_ ?_)
   | (with_reducible refine LeO.bind ?_ (fun _ => ?_))
   | exact ih0 _ _ _ _ _ _ _ _
   | exact ih1 _ _ _ _ _ _ _ _
   | exact ih2 _ _ _ _ _ _
   | exact ih3 _ _ _ _ _ _ _ _
   | exact ih4 _ _ _ _ _ _ _ _ _
   | exact ih5 _ _ _ _ _ _ _ _ _
   | exact davitlaw08_awake.mono _
   | exact dom_Is.mono _ _ _ _ _ _
   | exact LeO.none _
   | refine LeO.ite ?_ ?_
   | refine LeO.bind ?_ (fun _ => ?_)
  ·intro y0 y1 y2 y3 y4 y5 y6 y7 y8
   unfold davitlaw08_DomOver.j5
   repeat' first
   | (with_reducible exact ih0 _ _ _ _ _ _ _ _)
   | (with_reducible exact ih1 _ _ _ _ _ _ _ _)
   | (with_reducible exact ih2 _ _ _ _ _ _)
   | (with_reducible exact ih3 _ _ _ _ _ _ _ _)
   | (with_reducible exact ih4 _ _ _ _ _ _ _ _ _)
   | (with_reducible exact ih5 _ _ _ _ _ _ _ _ _)
   | (with_reducible exact davitlaw08_awake.mono _)
   | (with_reducible exact dom_Is.mono _ _ _ _ _ _)
   | (with_reducible exact LeO.refl _)
   | (with_reducible exact LeO.none _)
   | (with_reducible refine LeO.ite ?_ ?_)
   | (with_reducible refine LeO.bind ?_ (fun _ => ?_))
   | exact ih0 _ _ _ _ _ _ _ _
   | exact ih1 _ _ _ _ _ _ _ _
   | exact ih2 _ _ _ _ _ _
   | exact ih3 _ _ _ _ _ _ _ _
   | exact ih4 _ _ _ _ _ _ _ _ _
   | exact ih5 _ _ _ _ _ _ _ _ _
   | exact davitlaw08_awake.mono _
   | exact dom_Is.mono _ _ _ _ _ _
   | exact LeO.none _
   | refine LeO.ite ?_ ?_
   | refine LeO.bind ?_ (fun _ => ?_)
theorem davitlaw08_DomOver.mono : ∀ a0 a1 a2 a3 a4 a5 a6 k, LeO (davitlaw08_DomOver.f k a0 a1 a2 a3 a4 a5 a6) (davitlaw08_DomOver.f (k + 1) a0 a1 a2 a3 a4 a5 a6) := by
 intro a0 a1 a2 a3 a4 a5 a6 k
 obtain ⟨ih0, ih1, ih2, ih3, ih4, ih5⟩ := davitlaw08_DomOver.mono_l k
 unfold davitlaw08_DomOver.f
 repeat' first
   | (with_reducible exact ih0 _ _ _ _ _ _ _ _)
   | (with_reducible exact ih1 _ _ _ _ _ _ _ _)
   | (with_reducible exact ih2 _ _ _ _ _ _)
   | (with_reducible exact ih3 _ _ _ _ _ _ _ _)
   | (with_reducible exact ih4 _ _ _ _ _ _ _ _ _)
   | (with_reducible exact ih5 _ _ _ _ _ _ _ _ _)
   | (with_reducible exact davitlaw08_awake.mono _)
   | (with_reducible exact dom_Is.mono _ _ _ _ _ _)
   | (with_reducible exact LeO.refl _)
   | (with_reducible exact LeO.none _)
   | (with_reducible refine LeO.ite ?_ ?_)
   | (with_reducible refine LeO.bind ?_ (fun _ => ?_))
   | exact ih0 _ _ _ _ _ _ _ _
   | exact ih1 _ _ _ _ _ _ _ _
   | exact ih2 _ _ _ _ _ _
   | exact ih3 _ _ _ _ _ _ _ _
   | exact ih4 _ _ _ _ _ _ _ _ _
   | exact ih5 _ _ _ _ _ _ _ _ _
   | exact davitlaw08_awake.mono _
   | exact dom_Is.mono _ _ _ _ _ _
   | exact LeO.none _
   | refine LeO.ite ?_ ?_
   | refine LeO.bind ?_ (fun _ => ?_)
def davitlaw08_DomOver.T6 : Bool × List (List Nat × List Nat) := (true, [([], []), ([0], [0]), ([], []), ([1, 2], [1, 2]), ([], []), ([4], [4]), ([], []), ([5, 6], [5, 6]), ([], []), ([8], [8]), ([], []), ([9, 10], [9, 10]), ([3, 0, 1, 2, 3], [3]), ([7, 12, 0, 1, 2, 3, 4, 5, 6, 7, 12], [7]), ([11, 13, 0, 1, 2, 3, 4, 5, 6, 7, 8, 9, 10, 11, 12, 13], [11])])
def davitlaw08_DomOver.B6 : List Nat := [0, 1, 0, 7, 0, 16, 0, 112, 0, 256, 0, 1792, 15, 4351, 16383]
theorem davitlaw08_DomOver.tab6 : rtab .any (opsOf Try.f4 6) = davitlaw08_DomOver.T6 := by kernel_rfl
theorem davitlaw08_DomOver.bits6 : waitsOk davitlaw08_DomOver.T6.2 davitlaw08_DomOver.B6 = true := by kernel_rfl
def davitlaw08_DomOver.T7 : Bool × List (List Nat × List Nat) := (true, [([], []), ([0], [0]), ([], []), ([1, 2], [1, 2]), ([3], [3]), ([], []), ([], []), ([5, 6, 1], [5, 6]), ([4, 7], [4, 7]), ([8, 7], [8]), ([9], [9]), ([10, 9, 9], [9, 10]), ([9], [9]), ([11, 12, 9], [9, 11, 12]), ([13, 9], [9, 13]), ([9], [9]), ([9], [9]), ([9], [9]), ([15, 16, 17, 11, 9], [9, 15, 16, 17]), ([14, 18, 9], [9, 14, 18]), ([9, 19], [9, 19])])
def davitlaw08_DomOver.B7 : List Nat := [0, 1, 0, 7, 15, 0, 0, 99, 255, 511, 1023, 2047, 1023, 8191, 16383, 1023, 1023, 1023, 233471, 524287, 1048575]
theorem davitlaw08_DomOver.tab7 : rtab .any (opsOf Try.f4 7) = davitlaw08_DomOver.T7 := by kernel_rfl
theorem davitlaw08_DomOver.bits7 : waitsOk davitlaw08_DomOver.T7.2 davitlaw08_DomOver.B7 = true := by kernel_rfl
set_option maxHeartbeats 8000000 in
set_option maxRecDepth 100000 in
theorem davitlaw08_DomOver.calls (k : Nat) (a0_0 : Int) (a0_1 : Int) (A0_2 : Option Addr) (c0_2 : Nat) (l0_2 : List (S50)) (a1 : Int) (a2 : Int) (a3 : Int) (A4 : Option Addr) (c4 : Nat) (l4 : List Int) (r : Bool) (w : World) (hr0_2 : Kd.C k50 w A0_2 l0_2.length l0_2) (hc0_2 : l0_2.length ≤ c0_2) (hr4 : Kd.C (Kd.int .u8) w A4 l4.length l4) (hc4 : l4.length ≤ c4) (h : davitlaw08_DomOver.f k a0_0 a0_1 l0_2 a1 a2 a3 l4 = some r) :
  Calls Try.prog 4 #[.agg #[.int .i64 a0_0, .int .i64 a0_1, .slice A0_2 l0_2.length c0_2], .int .u8 a1, .int .u8 a2, .int .u8 a3, .slice A4 l4.length c4] w fun e w' => e = .returned (.bool r) ∧ Below w.heap.size w w' := by
 have hu24 := Try.underlying24
 have HR0_2 := Aside0.mk hr0_2
 have HC0_2 := Aside0.mk hc0_2
 clear hr0_2 hc0_2
 have HR4 := Aside0.mk hr4
 have HC4 := Aside0.mk hc4
 clear hr4 hc4
 have HB := Aside0.mk (Below.refl w.heap.size w)
 have H : ((davitlaw08_awake.f k).bind fun t264 => (if t264 = true then (if (l0_2.length : Int) > 30 then (davitlaw08_DomOver.j0 k a1 a2 a3 l4 true a0_0 a0_1 l0_2) else (davitlaw08_DomOver.j0 k a1 a2 a3 l4 ((l0_2.length : Int) == 0) a0_0 a0_1 l0_2)) else (some false))) = some r := h
 clear h
 replace H := Option.bind_eq_some_iff.mp H
 obtain ⟨t264, A60, H⟩ := H
 replace H : (if t264 = true then (if (l0_2.length : Int) > 30 then (davitlaw08_DomOver.j0 k a1 a2 a3 l4 true a0_0 a0_1 l0_2) else (davitlaw08_DomOver.j0 k a1 a2 a3 l4 ((l0_2.length : Int) == 0) a0_0 a0_1 l0_2)) else (some false)) = some r := H
 have A6 := Aside0.mk A60
 clear A60
 by_cases c7 : t264 = true
 ·subst c7
  have H1 : (if (l0_2.length : Int) > 30 then (davitlaw08_DomOver.j0 k a1 a2 a3 l4 true a0_0 a0_1 l0_2) else (davitlaw08_DomOver.j0 k a1 a2 a3 l4 ((l0_2.length : Int) == 0) a0_0 a0_1 l0_2)) = some r := by rw [if_pos rfl] at H; exact H
  clear H
  have H := H1
  clear H1
  have HC8 := Aside0.mk H
  clear H
  go_enter Try.func4, Try.ntmps4
  go_upto_region 3 with (first | ((with_reducible refine gate_dst (N := 5) rfl ?_); (try (refine gate_guard (by rfl) ?_; dsimp only)); refine box_event ?hg (N := 5) ?hd (cs := #[.int .i64 a0_0, .int .i64 a0_1, .slice A0_2 l0_2.length c0_2]) (t := 24) ?hr ?_; (case hd => rfl); (case hg => rfl); (case hr => first | (go_simp; done) | (go_simp; rfl)); intro gb263 hg w9 hbox hb; have n0_ := Aside0.mk (below_step (by repeat (first | (with_reducible first | exact HB.out | apply below_alloc | apply pw_below_drewN | apply below_drew1) | exact HB.out)) hb); have n1_ := Aside0.mk (hbox); have n2_ := Aside0.mk ((by rw [hg]; exact (below_size (by repeat (first | (with_reducible first | exact HB.out | apply below_alloc | apply pw_below_drewN | apply below_drew1) | exact HB.out))) : w.heap.size ≤ gb263)); have n3_ := Aside0.mk ((by rw [hg]; exact (below_size (by repeat (first | (with_reducible first | exact HB.out | apply below_alloc | apply pw_below_drewN | apply below_drew1) | exact HB.out))) : w.heap.size ≤ gb263)); clear HB; have HB := n0_; have BK263 := n1_; have GW263 := n2_; have GE263 := n3_; clear n0_ n1_ n2_ n3_; clear hb hbox hg) | ((with_reducible refine gate_callee (f := 11) rfl ?_); refine goesL_ (some 19) rfl rfl Try.func11 (by kernel_rfl) rfl #[] rfl (by (try simp only [List.map_toArray, List.map_cons, List.map_nil]); first | done | rfl | (simp only [List.length_drop, List.length_take]; rfl)) ?_; (with_reducible refine (davitlaw08_awake.calls k  true _ A6.out).mono ?_); rintro e w10 ⟨rfl, hb⟩; refine ⟨_, rfl, ?_⟩; have n0_ := Aside0.mk (blk_below (g := gb263) (o := .cells #[.int .i64 a0_0, .int .i64 a0_1, .slice A0_2 l0_2.length c0_2] 24 (0, 0)) (by (with_reducible repeat (first | refine blk_drewN ?_ _ | refine blk_drew ?_ | refine blk_alloc ?_ _)); exact BK263.out) hb); have n1_ := Aside0.mk (below_step (by repeat (first | (with_reducible first | exact HB.out | apply below_alloc | apply pw_below_drewN | apply below_drew1 | refine below_set ?_ GE263.out) | exact HB.out)) hb); clear BK263; clear HB; have BK263 := n0_; have HB := n1_; clear n0_ n1_; (try clear hb); (try clear hb2); (try clear hk); (try clear hi)))
  (try simp only [Act.put, List.setIfInBounds_toArray, List.set_cons_zero, List.set_cons_succ])
  go_cut [30] (fun v30 wc => ∃ (kq : Nat) (x30_7 : Bool), v30 = .bool x30_7 ∧ Aside0 (davitlaw08_DomOver.j0 kq a1 a2 a3 l4 x30_7 a0_0 a0_1 l0_2 = some r) ∧ Aside0 (kq ≤ k) ∧ Aside0 (wc.heap[gb263]? = some (.cells #[.int .i64 a0_0, .int .i64 a0_1, (.slice A0_2 l0_2.length c0_2)] 24 (0, 0))) ∧ Aside0 (Below w.heap.size w wc))
  case first =>
   have H := HC8.out
   clear HC8
   by_cases c11 : (l0_2.length : Int) > 30
   ·rw [if_pos c11] at H
    have c11b0 : decide (30 < (l0_2.length : Int)) = true := decide_eq_true c11
    have c11b1 : decide (30 < l0_2.length) = true := decide_eq_true (by omega)
    clear c11
    (first | rw [c11b0] | (simp only [i64_w, i32_w]; rw [c11b0]) | skip)
    have H' := Aside0.mk H
    clear H
    have hcz12_0 : w10.cell? ⟨gb263, 0, none⟩ = some (.int .i64 a0_0) := (blk_cell BK263.out 0).trans rfl
    have hcz12_1 : w10.cell? ⟨gb263, 1, none⟩ = some (.int .i64 a0_1) := (blk_cell BK263.out 1).trans rfl
    have hcz12_2 : w10.cell? ⟨gb263, 2, none⟩ = some (.slice A0_2 l0_2.length c0_2) := (blk_cell BK263.out 2).trans rfl
    have hfz12_0 := blk_frozen BK263.out 0
    have hfz12_1 := blk_frozen BK263.out 1
    have hfz12_2 := blk_frozen BK263.out 2
    go_wp2
    go_meet
    case rel => exact ⟨_, (true), (by first | rfl | (simp; done) | (simp [*]; done)), H', ⟨by first | omega | exact Nat.le_refl _⟩, ⟨by (with_reducible repeat (first | refine blk_drewN ?_ _ | refine blk_drew ?_ | refine blk_alloc ?_ _)); exact BK263.out⟩, ⟨by repeat (first | (with_reducible first | exact HB.out | apply below_alloc | apply pw_below_drewN | apply below_drew1 | refine below_set ?_ GE263.out) | exact HB.out)⟩⟩
   ·rw [if_neg c11] at H
    have c11b0 : decide (30 < (l0_2.length : Int)) = false := decide_eq_false c11
    have c11b1 : decide (30 < l0_2.length) = false := decide_eq_false (by omega)
    clear c11
    (first | rw [c11b0] | (simp only [i64_w, i32_w]; rw [c11b0]) | skip)
    have H' := Aside0.mk H
    clear H
    have hcz13_0 : w10.cell? ⟨gb263, 0, none⟩ = some (.int .i64 a0_0) := (blk_cell BK263.out 0).trans rfl
    have hcz13_1 : w10.cell? ⟨gb263, 1, none⟩ = some (.int .i64 a0_1) := (blk_cell BK263.out 1).trans rfl
    have hcz13_2 : w10.cell? ⟨gb263, 2, none⟩ = some (.slice A0_2 l0_2.length c0_2) := (blk_cell BK263.out 2).trans rfl
    have hfz13_0 := blk_frozen BK263.out 0
    have hfz13_1 := blk_frozen BK263.out 1
    have hfz13_2 := blk_frozen BK263.out 2
    go_wp2
    go_meet
    case rel => exact ⟨_, (((l0_2.length : Int) == 0)), (by first | rfl | (simp; done) | (simp [*]; done)), H', ⟨by first | omega | exact Nat.le_refl _⟩, ⟨by (with_reducible repeat (first | refine blk_drewN ?_ _ | refine blk_drew ?_ | refine blk_alloc ?_ _)); exact BK263.out⟩, ⟨by repeat (first | (with_reducible first | exact HB.out | apply below_alloc | apply pw_below_drewN | apply below_drew1 | refine below_set ?_ GE263.out) | exact HB.out)⟩⟩
  case rest =>
   clear HC8
   try clear c1
   try clear p2
   try clear c4
   try clear c7
   try clear c11
   try clear c11b0
   try clear c11b1
   try clear hcz12_0
   try clear hcz12_1
   try clear hcz12_2
   try clear hcz13_0
   try clear hcz13_1
   try clear hcz13_2
   try clear hfz12_0
   try clear hfz12_1
   try clear hfz12_2
   try clear hfz13_0
   try clear hfz13_1
   try clear hfz13_2
   obtain ⟨kq, x30_7, rfl, HA, HJ7, BK263, HB⟩ := hcut
   cases kq with
   | zero => exact absurd HA.out (by simp [davitlaw08_DomOver.j0])
   | succ kj7 =>
    have H := HA.out
    clear HA
    simp only [davitlaw08_DomOver.j0] at H
    by_cases c14 : x30_7 = true
    ·subst c14
     have H1 : (some true) = some r := by rw [if_pos rfl] at H; exact H
     clear H
     have H := H1
     clear H1
     obtain rfl := Option.some.inj H
     go_wp2
     go_ret
     exact ⟨by first | rfl | (simp [errW_none, errW_some] <;> rfl) | (simp [*, errW_none, errW_some] <;> rfl), by repeat (first | (with_reducible first | exact HB.out | apply below_alloc | apply pw_below_drewN | apply below_drew1 | refine below_set ?_ GE263.out) | exact HB.out)⟩
    ·replace c14 := Bool.eq_false_iff.mpr c14
     subst c14
     have H1 : (if (l0_2.length : Int) = 0 then (none) else ((flow_Reached.f a0_0 a0_1 l0_2).bind fun t265 => (if 0 ≤ (Int.tmod (wrap64 (a3)) (l0_2.length : Int)) then (if (Int.tmod (wrap64 (a3)) (l0_2.length : Int)) < (t265.length : Int) then ((dom_Is.f kj7 a0_0 a0_1 l0_2 0 (Int.tmod (wrap64 (a3)) (l0_2.length : Int))).bind fun t269 => (if ((rdOf false t265 (Int.tmod (wrap64 (a3)) (l0_2.length : Int))) != t269) = true then (davitlaw08_DomOver.j1 kj7 l4 (Int.tmod (wrap64 (a1)) (l0_2.length : Int)) (Int.tmod (wrap64 (a2)) (l0_2.length : Int)) (Int.tmod (wrap64 (a3)) (l0_2.length : Int)) true a0_0 a0_1 l0_2) else ((flow_Reached.f a0_0 a0_1 l0_2).bind fun t270 => (if (Int.tmod (wrap64 (a3)) (l0_2.length : Int)) < (t270.length : Int) then ((dom_Is.f kj7 a0_0 a0_1 l0_2 (Int.tmod (wrap64 (a3)) (l0_2.length : Int)) (Int.tmod (wrap64 (a3)) (l0_2.length : Int))).bind fun t274 => (davitlaw08_DomOver.j1 kj7 l4 (Int.tmod (wrap64 (a1)) (l0_2.length : Int)) (Int.tmod (wrap64 (a2)) (l0_2.length : Int)) (Int.tmod (wrap64 (a3)) (l0_2.length : Int)) ((rdOf false t270 (Int.tmod (wrap64 (a3)) (l0_2.length : Int))) != t274) a0_0 a0_1 l0_2)) else (none))))) else (none)) else (none)))) = some r := by rw [if_neg (show ¬ (false = true) by decide)] at H; exact H
     clear H
     have H := H1
     clear H1
     by_cases c15 : (l0_2.length : Int) = 0
     ·rw [if_pos c15] at H
      exact absurd H (by simp)
     ·rw [if_neg c15] at H
      have c15b0 : ((l0_2.length : Int) == 0) = false := beq_eq_false_iff_ne.mpr c15
      have c15b1 : ((l0_2.length : Int) != 0) = true := bne_iff_ne.mpr c15
      have c15b2 : ¬ (l0_2 = []) := fun h_ => c15 (by rw [h_]; rfl)
      have HC16 := Aside0.mk H
      clear H
      have hcz17_0 : wc.cell? ⟨gb263, 0, none⟩ = some (.int .i64 a0_0) := (blk_cell BK263.out 0).trans rfl
      have hcz17_1 : wc.cell? ⟨gb263, 1, none⟩ = some (.int .i64 a0_1) := (blk_cell BK263.out 1).trans rfl
      have hcz17_2 : wc.cell? ⟨gb263, 2, none⟩ = some (.slice A0_2 l0_2.length c0_2) := (blk_cell BK263.out 2).trans rfl
      have hfz17_0 := blk_frozen BK263.out 0
      have hfz17_1 := blk_frozen BK263.out 1
      have hfz17_2 := blk_frozen BK263.out 2
      try go_wp2
      have n0_ := Aside0.mk (blk_drew BK263.out)
      have n1_ := Aside0.mk (below_drew1 HB.out)
      clear BK263
      clear HB
      have BK263 := n0_
      have HB := n1_
      clear n0_ n1_
      refine start_ (n := 15) (S := fun w' => True) (ds := []) #[false, false, false, false, false, false, false, false, false, false, false, false, false, false, false] (by kernel_rfl) rfl rfl trivial (fun hHeld => ?_); refine with_tabW davitlaw08_DomOver.tab6 davitlaw08_DomOver.bits6 (fun HT_ HW_ => ?_)
      generalize wc.drew = w18 at BK263 HB hHeld ⊢
      refine pure_ (i := 0) (N := some 34) (v := ?_) (a' := ?_) #[true, false, false, false, false, false, false, false, false, false, false, false, false, false, false] rfl rfl (any_of HT_.out (by kernel_rfl)) (fun _ _ _ h => h) (Or.inl ⟨by rfl, ?_⟩) ?_ ?_
      rotate_left
      ·intro w'
       go_simp
       with_reducible rfl
      rotate_left
      ·simp only [Act.put, List.setIfInBounds_toArray, List.set_cons_zero, List.set_cons_succ, i64_w, i32_w]
       rfl
      refine pure_ (i := 1) (N := some 35) (v := ?_) (a' := ?_) #[true, true, false, false, false, false, false, false, false, false, false, false, false, false, false] rfl rfl (any_of HT_.out (by kernel_rfl)) (fun _ _ _ h => h) (Or.inl ⟨by rfl, ?_⟩) ?_ ?_
      rotate_left
      ·intro w'
       go_simp
       with_reducible rfl
      rotate_left
      ·simp only [Act.put, List.setIfInBounds_toArray, List.set_cons_zero, List.set_cons_succ, i64_w, i32_w]
       rfl
      refine pure_ (i := 2) (N := some 36) (v := ?_) (a' := ?_) #[true, true, true, false, false, false, false, false, false, false, false, false, false, false, false] rfl rfl (any_of HT_.out (by kernel_rfl)) (fun _ _ _ h => h) (Or.inl ⟨by rfl, ?_⟩) ?_ ?_
      rotate_left
      ·intro w'
       go_simp
       with_reducible rfl
      rotate_left
      ·simp only [Act.put, List.setIfInBounds_toArray, List.set_cons_zero, List.set_cons_succ, i64_w, i32_w]
       rfl
      refine pure_ (i := 3) (N := some 37) (v := ?_) (a' := ?_) #[true, true, true, true, false, false, false, false, false, false, false, false, false, false, false] rfl rfl (any_of HT_.out (by kernel_rfl)) (fun _ _ _ h => h) (Or.inl ⟨by rfl, ?_⟩) ?_ ?_
      rotate_left
      ·intro w'
       go_simp
       with_reducible rfl
      rotate_left
      ·simp only [Act.put, List.setIfInBounds_toArray, List.set_cons_zero, List.set_cons_succ, i64_w, i32_w]
       rfl
      refine pure_ (i := 4) (N := some 38) (v := ?_) (a' := ?_) #[true, true, true, true, true, false, false, false, false, false, false, false, false, false, false] rfl rfl (any_of HT_.out (by kernel_rfl)) (fun _ _ _ h => h) (Or.inl ⟨by rfl, ?_⟩) ?_ ?_
      rotate_left
      ·intro w'
       go_simp
       with_reducible rfl
      rotate_left
      ·simp only [Act.put, List.setIfInBounds_toArray, List.set_cons_zero, List.set_cons_succ, i64_w, i32_w]
       rfl
      refine pure_ (i := 5) (N := some 39) (v := ?_) (a' := ?_) #[true, true, true, true, true, true, false, false, false, false, false, false, false, false, false] rfl rfl (any_of HT_.out (by kernel_rfl)) (fun _ _ _ h => h) (Or.inl ⟨by rfl, ?_⟩) ?_ ?_
      rotate_left
      ·intro w'
       go_simp
       with_reducible rfl
      rotate_left
      ·simp only [Act.put, List.setIfInBounds_toArray, List.set_cons_zero, List.set_cons_succ, i64_w, i32_w]
       rfl
      refine pure_ (i := 6) (N := some 40) (v := ?_) (a' := ?_) #[true, true, true, true, true, true, true, false, false, false, false, false, false, false, false] rfl rfl (any_of HT_.out (by kernel_rfl)) (fun _ _ _ h => h) (Or.inl ⟨by rfl, ?_⟩) ?_ ?_
      rotate_left
      ·intro w'
       go_simp
       with_reducible rfl
      rotate_left
      ·simp only [Act.put, List.setIfInBounds_toArray, List.set_cons_zero, List.set_cons_succ, i64_w, i32_w]
       rfl
      refine pure_ (i := 7) (N := some 41) (v := ?_) (a' := ?_) #[true, true, true, true, true, true, true, true, false, false, false, false, false, false, false] rfl rfl (any_of HT_.out (by kernel_rfl)) (fun _ _ _ h => h) (Or.inl ⟨by rfl, ?_⟩) ?_ ?_
      rotate_left
      ·intro w'
       go_simp
       with_reducible rfl
      rotate_left
      ·simp only [Act.put, List.setIfInBounds_toArray, List.set_cons_zero, List.set_cons_succ, i64_w, i32_w]
       rfl
      refine pure_ (i := 8) (N := some 42) (v := ?_) (a' := ?_) #[true, true, true, true, true, true, true, true, true, false, false, false, false, false, false] rfl rfl (any_of HT_.out (by kernel_rfl)) (fun _ _ _ h => h) (Or.inl ⟨by rfl, ?_⟩) ?_ ?_
      rotate_left
      ·intro w'
       go_simp
       with_reducible rfl
      rotate_left
      ·simp only [Act.put, List.setIfInBounds_toArray, List.set_cons_zero, List.set_cons_succ, i64_w, i32_w]
       rfl
      refine pure_ (i := 9) (N := some 43) (v := ?_) (a' := ?_) #[true, true, true, true, true, true, true, true, true, true, false, false, false, false, false] rfl rfl (any_of HT_.out (by kernel_rfl)) (fun _ _ _ h => h) (Or.inl ⟨by rfl, ?_⟩) ?_ ?_
      rotate_left
      ·intro w'
       go_simp
       with_reducible rfl
      rotate_left
      ·simp only [Act.put, List.setIfInBounds_toArray, List.set_cons_zero, List.set_cons_succ, i64_w, i32_w]
       rfl
      refine pure_ (i := 10) (N := some 44) (v := ?_) (a' := ?_) #[true, true, true, true, true, true, true, true, true, true, true, false, false, false, false] rfl rfl (any_of HT_.out (by kernel_rfl)) (fun _ _ _ h => h) (Or.inl ⟨by rfl, ?_⟩) ?_ ?_
      rotate_left
      ·intro w'
       go_simp
       with_reducible rfl
      rotate_left
      ·simp only [Act.put, List.setIfInBounds_toArray, List.set_cons_zero, List.set_cons_succ, i64_w, i32_w]
       rfl
      refine pure_ (i := 11) (N := some 45) (v := ?_) (a' := ?_) #[true, true, true, true, true, true, true, true, true, true, true, true, false, false, false] rfl rfl (any_of HT_.out (by kernel_rfl)) (fun _ _ _ h => h) (Or.inl ⟨by rfl, ?_⟩) ?_ ?_
      rotate_left
      ·intro w'
       go_simp
       with_reducible rfl
      rotate_left
      ·simp only [Act.put, List.setIfInBounds_toArray, List.set_cons_zero, List.set_cons_succ, i64_w, i32_w]
       rfl
      refine pure_ (i := 12) (N := some 12) (v := ?_) (a' := ?_) #[true, true, true, true, true, true, true, true, true, true, true, true, true, false, false] rfl rfl (any_of HT_.out (by kernel_rfl)) (fun _ _ _ h => h) (Or.inl ⟨by rfl, ?_⟩) ?_ ?_
      rotate_left
      ·intro w'
       go_simp
       with_reducible rfl
      rotate_left
      ·simp only [Act.put, List.setIfInBounds_toArray, List.set_cons_zero, List.set_cons_succ, i64_w, i32_w]
       rfl
      refine pure_ (i := 13) (N := some 13) (v := ?_) (a' := ?_) #[true, true, true, true, true, true, true, true, true, true, true, true, true, true, false] rfl rfl (any_of HT_.out (by kernel_rfl)) (fun _ _ _ h => h) (Or.inl ⟨by rfl, ?_⟩) ?_ ?_
      rotate_left
      ·intro w'
       go_simp
       with_reducible rfl
      rotate_left
      ·simp only [Act.put, List.setIfInBounds_toArray, List.set_cons_zero, List.set_cons_succ, i64_w, i32_w]
       rfl
      refine pure_ (i := 14) (N := some 14) (v := ?_) (a' := ?_) #[true, true, true, true, true, true, true, true, true, true, true, true, true, true, true] rfl rfl (any_of HT_.out (by kernel_rfl)) (fun _ _ _ h => h) (Or.inl ⟨by rfl, ?_⟩) ?_ ?_
      rotate_left
      ·intro w'
       go_simp
       with_reducible rfl
      rotate_left
      ·simp only [Act.put, List.setIfInBounds_toArray, List.set_cons_zero, List.set_cons_succ, i64_w, i32_w]
       rfl
      refine done_ (done_of HT_.out (by kernel_rfl)) ?_
      go_upto_region 7 with (fail)
      go_cut [66] (fun v66 wc => ∃ (kq : Nat) (x66_15 : Bool), v66 = .bool x66_15 ∧ Aside0 (davitlaw08_DomOver.j1 kq l4 (Int.tmod (wrap64 (a1)) (l0_2.length : Int)) (Int.tmod (wrap64 (a2)) (l0_2.length : Int)) (Int.tmod (wrap64 (a3)) (l0_2.length : Int)) x66_15 a0_0 a0_1 l0_2 = some r) ∧ Aside0 (kq ≤ kj7) ∧ Aside0 (wc.heap[gb263]? = some (.cells #[.int .i64 a0_0, .int .i64 a0_1, (.slice A0_2 l0_2.length c0_2)] 24 (0, 0))) ∧ Aside0 (Below w.heap.size w wc))
      case first =>
       have H := HC16.out
       clear HC16
       replace H := Option.bind_eq_some_iff.mp H
       obtain ⟨t265, A190, H⟩ := H
       replace H : (if 0 ≤ (Int.tmod (wrap64 (a3)) (l0_2.length : Int)) then (if (Int.tmod (wrap64 (a3)) (l0_2.length : Int)) < (t265.length : Int) then ((dom_Is.f kj7 a0_0 a0_1 l0_2 0 (Int.tmod (wrap64 (a3)) (l0_2.length : Int))).bind fun t269 => (if ((rdOf false t265 (Int.tmod (wrap64 (a3)) (l0_2.length : Int))) != t269) = true then (davitlaw08_DomOver.j1 kj7 l4 (Int.tmod (wrap64 (a1)) (l0_2.length : Int)) (Int.tmod (wrap64 (a2)) (l0_2.length : Int)) (Int.tmod (wrap64 (a3)) (l0_2.length : Int)) true a0_0 a0_1 l0_2) else ((flow_Reached.f a0_0 a0_1 l0_2).bind fun t270 => (if (Int.tmod (wrap64 (a3)) (l0_2.length : Int)) < (t270.length : Int) then ((dom_Is.f kj7 a0_0 a0_1 l0_2 (Int.tmod (wrap64 (a3)) (l0_2.length : Int)) (Int.tmod (wrap64 (a3)) (l0_2.length : Int))).bind fun t274 => (davitlaw08_DomOver.j1 kj7 l4 (Int.tmod (wrap64 (a1)) (l0_2.length : Int)) (Int.tmod (wrap64 (a2)) (l0_2.length : Int)) (Int.tmod (wrap64 (a3)) (l0_2.length : Int)) ((rdOf false t270 (Int.tmod (wrap64 (a3)) (l0_2.length : Int))) != t274) a0_0 a0_1 l0_2)) else (none))))) else (none)) else (none)) = some r := H
       have A19 := Aside0.mk A190
       clear A190
       obtain ⟨ji20, hji20⟩ : ∃ j_ : Int, (Int.tmod (wrap64 (a3)) (l0_2.length : Int)) = j_ := ⟨_, rfl⟩
       replace H : (if 0 ≤ (ji20) then (if (ji20) < (t265.length : Int) then ((dom_Is.f kj7 a0_0 a0_1 l0_2 0 (ji20)).bind fun t269 => (if ((rdOf false t265 (ji20)) != t269) = true then (davitlaw08_DomOver.j1 kj7 l4 (Int.tmod (wrap64 (a1)) (l0_2.length : Int)) (Int.tmod (wrap64 (a2)) (l0_2.length : Int)) ji20 true a0_0 a0_1 l0_2) else ((flow_Reached.f a0_0 a0_1 l0_2).bind fun t270 => (if (ji20) < (t270.length : Int) then ((dom_Is.f kj7 a0_0 a0_1 l0_2 (ji20) (ji20)).bind fun t274 => (davitlaw08_DomOver.j1 kj7 l4 (Int.tmod (wrap64 (a1)) (l0_2.length : Int)) (Int.tmod (wrap64 (a2)) (l0_2.length : Int)) ji20 ((rdOf false t270 (ji20)) != t274) a0_0 a0_1 l0_2)) else (none))))) else (none)) else (none)) = some r := by first | (rw [hji20] at H; exact H) | (simp only [hji20] at H ⊢; exact H)
       (try rw [hji20] at A19)
       by_cases c21 : 0 ≤ (ji20)
       ·rw [if_pos c21] at H
        have c21b0 : decide (0 ≤ (ji20)) = true := decide_eq_true c21
        clear c21
        (first | rw [c21b0] | (simp only [i64_w, i32_w]; rw [c21b0]) | skip)
        by_cases c22 : (ji20) < (t265.length : Int)
        ·rw [if_pos c22] at H
         have c22b0 : decide ((ji20) < (t265.length : Int)) = true := decide_eq_true c22
         clear c22
         replace H := Option.bind_eq_some_iff.mp H
         obtain ⟨t269, A230, H⟩ := H
         replace H : (if ((rdOf false t265 (ji20)) != t269) = true then (davitlaw08_DomOver.j1 kj7 l4 (Int.tmod (wrap64 (a1)) (l0_2.length : Int)) (Int.tmod (wrap64 (a2)) (l0_2.length : Int)) ji20 true a0_0 a0_1 l0_2) else ((flow_Reached.f a0_0 a0_1 l0_2).bind fun t270 => (if (ji20) < (t270.length : Int) then ((dom_Is.f kj7 a0_0 a0_1 l0_2 (ji20) (ji20)).bind fun t274 => (davitlaw08_DomOver.j1 kj7 l4 (Int.tmod (wrap64 (a1)) (l0_2.length : Int)) (Int.tmod (wrap64 (a2)) (l0_2.length : Int)) ji20 ((rdOf false t270 (ji20)) != t274) a0_0 a0_1 l0_2)) else (none)))) = some r := H
         have A23 := Aside0.mk A230
         clear A230
         by_cases c24 : ((rdOf false t265 (ji20)) != t269) = true
         ·rw [if_pos c24] at H
          have c24b0 : ((rdOf false t265 (ji20)) != t269) = true := c24
          (try (have c24b1 : decide ((rdOf false t265 (ji20)) = t269) = false := by simpa using c24))
          (try (have c24b2 : ((rdOf false t265 (ji20)) == t269) = false := by simpa using c24))
          (try (have c24b3 : ¬ ((rdOf false t265 (ji20)) = t269) := by simpa using c24))
          clear c24
          have H' := Aside0.mk H
          clear H
          try go_wp2
          have n0_ := Aside0.mk (blk_drew BK263.out)
          have n1_ := Aside0.mk (below_drew1 HB.out)
          clear BK263
          clear HB
          have BK263 := n0_
          have HB := n1_
          clear n0_ n1_
          refine start_ (n := 21) (S := fun w' => w'.cell? ⟨gb263, 0, none⟩ = some (.int .i64 a0_0) ∧ w'.cell? ⟨gb263, 1, none⟩ = some (.int .i64 a0_1) ∧ w'.cell? ⟨gb263, 2, none⟩ = some (.slice A0_2 l0_2.length c0_2)) (ds := []) #[false, false, false, false, false, false, false, false, false, false, false, false, false, false, false, false, false, false, false, false, false] (by kernel_rfl) rfl rfl ⟨(blk_cell BK263.out 0).trans rfl, (blk_cell BK263.out 1).trans rfl, (blk_cell BK263.out 2).trans rfl⟩ (fun hHeld => ?_); refine with_tabW davitlaw08_DomOver.tab7 davitlaw08_DomOver.bits7 (fun HT_ HW_ => ?_)
          generalize w18.drew = w25 at BK263 HB hHeld ⊢
          refine pure_ (i := 2) (N := some 48) (v := ?_) (a' := ?_) #[false, false, true, false, false, false, false, false, false, false, false, false, false, false, false, false, false, false, false, false, false] rfl rfl (any_of HT_.out (by kernel_rfl)) (fun _ _ _ h => h) (Or.inl ⟨by rfl, ?_⟩) ?_ ?_
          rotate_left
          ·intro w'
           go_simp
           with_reducible rfl
          rotate_left
          ·simp only [Act.put, List.setIfInBounds_toArray, List.set_cons_zero, List.set_cons_succ, i64_w, i32_w]
           rfl
          refine pure_ (i := 6) (N := some 52) (v := ?_) (a' := ?_) #[false, false, true, false, false, false, true, false, false, false, false, false, false, false, false, false, false, false, false, false, false] rfl rfl (any_of HT_.out (by kernel_rfl)) (fun _ _ _ h => h) (Or.inl ⟨by rfl, ?_⟩) ?_ ?_
          rotate_left
          ·intro w'
           go_simp
           with_reducible rfl
          rotate_left
          ·simp only [Act.put, List.setIfInBounds_toArray, List.set_cons_zero, List.set_cons_succ, i64_w, i32_w]
           rfl
          refine take_ (i := 0) (N := some 46) (v := ?_) (a' := ?_) #[true, false, true, false, false, false, true, false, false, false, false, false, false, false, false, false, false, false, false, false, false] rfl rfl (take_ofW HT_.out HW_.out (by kernel_rfl)) (fun _ _ _ h => h) (Or.inl ⟨by rfl, ?_⟩) hHeld ?_ ?_
          rotate_left
          ·rintro w' ⟨s0, s1, s2⟩
           go_simp
           with_reducible rfl
          rotate_left
          ·simp only [Act.put, List.setIfInBounds_toArray, List.set_cons_zero, List.set_cons_succ, i64_w, i32_w]
           rfl
          refine take_ (i := 5) (N := some 51) (v := ?_) (a' := ?_) #[true, false, true, false, false, true, true, false, false, false, false, false, false, false, false, false, false, false, false, false, false] rfl rfl (take_ofW HT_.out HW_.out (by kernel_rfl)) (fun _ _ _ h => h) (Or.inl ⟨by rfl, ?_⟩) hHeld ?_ ?_
          rotate_left
          ·rintro w' ⟨s0, s1, s2⟩
           go_simp
           with_reducible rfl
          rotate_left
          ·simp only [Act.put, List.setIfInBounds_toArray, List.set_cons_zero, List.set_cons_succ, i64_w, i32_w]
           rfl
          refine one_ (i := 1) (N := some 47) #[true, true, true, false, false, true, true, false, false, false, false, false, false, false, false, false, false, false, false, false, false] rfl rfl (one_of HT_.out (by kernel_rfl)) (by decide) (fun K hK => ?_)
          refine goes_ Try.func19 (by kernel_rfl) rfl #[.agg #[.int .i64 a0_0, .int .i64 a0_1, .slice A0_2 l0_2.length c0_2]] (by rfl) rfl rfl (by (try simp only [List.map_toArray, List.map_cons, List.map_nil]); first | done | rfl | (simp only [List.length_drop, List.length_take]; rfl)) ?_
          with_reducible refine (flow_Reached.calls a0_0 a0_1 _ _ l0_2 t265 _ ?side1 ?side2 A19.out).mono ?_
          (case side1 => repeat (first | exact (Kd.C_below HR0_2.out HB.out) | (with_reducible refine Kd.C_alloc ?_ _) | (with_reducible refine Kd.C_drewN ?_ _) | (with_reducible refine Kd.C_drew ?_)))
          (case side2 => exact HC0_2.out)
          rintro e w26 ⟨v266, rfl, ho0, hb⟩
          refine ⟨_, rfl, ?_⟩
          have n0_ := Aside0.mk (Kd.R_lower ho0 (below_size (by repeat (first | (with_reducible first | exact HB.out | apply below_alloc | apply pw_below_drewN | apply below_drew1 | refine below_set ?_ GE263.out) | exact HB.out))))
          have n1_ := Aside0.mk (blk_below (g := gb263) (o := .cells #[.int .i64 a0_0, .int .i64 a0_1, .slice A0_2 l0_2.length c0_2] 24 (0, 0)) (by (with_reducible repeat (first | refine blk_drewN ?_ _ | refine blk_drew ?_ | refine blk_alloc ?_ _)); exact BK263.out) hb)
          have n2_ := Aside0.mk (below_step (by repeat (first | (with_reducible first | exact HB.out | apply below_alloc | apply pw_below_drewN | apply below_drew1 | refine below_set ?_ GE263.out) | exact HB.out)) hb)
          clear BK263
          clear HB
          have HO267 := n0_
          have BK263 := n1_
          have HB := n2_
          clear n0_ n1_ n2_
          (try clear hb)
          (try clear hb2)
          (try clear hk)
          (try clear hi)
          (try clear ho0)
          obtain ⟨Ao27, co27, eo27⟩ := Kd.R_slice HO267.out
          (first | subst eo27 | (injection eo27 with f1_ f2_ f3_; have f4_ := f1_.symm; have f5_ := f3_.symm; clear f1_ f2_ f3_; subst f4_; subst f5_))
          have p268 : 0 ≤ ((ji20) : Int) := of_decide_eq_true (by first | (with_reducible assumption) | assumption)
          have q268 : (ji20) < (t265.length : Int) := of_decide_eq_true (by first | (with_reducible assumption) | assumption)
          obtain ⟨ad268, e268, hx268_0⟩ := Kd.at_bool (Kd.R_reads' HO267.out).2.2 (ji20) p268 q268
          cases e268
          replace p268 := eq_true p268
          replace q268 := eq_true q268
          refine hK.out _ _ ⟨(blk_cell BK263.out 0).trans rfl, (blk_cell BK263.out 1).trans rfl, (blk_cell BK263.out 2).trans rfl⟩ (fun hHeld => ?_)
          replace hHeld := And.intro hHeld.1 (And.intro hHeld.2.1 (And.intro hHeld.2.2 hx268_0))
          refine wpAnyLast_grow (S' := fun w' => w'.cell? ⟨gb263, 0, none⟩ = some (.int .i64 a0_0) ∧ w'.cell? ⟨gb263, 1, none⟩ = some (.int .i64 a0_1) ∧ w'.cell? ⟨gb263, 2, none⟩ = some (.slice A0_2 l0_2.length c0_2) ∧ w'.cell? (ad268.add ((ji20)).toNat) = some (.bool (rdOf false t265 (ji20)))) (fun _ h => ⟨h.1, h.2.1, h.2.2.1⟩) _ _ _ _ hHeld ?_
          clear hK K
          refine norm_ (a' := ?_) ?_ ?_
          rotate_left
          ·show Act.put _ (some 47) _ = _
           simp only [Act.put, List.setIfInBounds_toArray, List.set_cons_zero, List.set_cons_succ, i64_w, i32_w]
           rfl
          refine pure_ (i := 3) (N := some 49) (v := ?_) (a' := ?_) #[true, true, true, true, false, true, true, false, false, false, false, false, false, false, false, false, false, false, false, false, false] rfl rfl (any_of HT_.out (by kernel_rfl)) (fun _ _ _ h => h) (Or.inl ⟨by rfl, ?_⟩) ?_ ?_
          rotate_left
          ·intro w'
           go_simp
           with_reducible rfl
          rotate_left
          ·simp only [Act.put, List.setIfInBounds_toArray, List.set_cons_zero, List.set_cons_succ, i64_w, i32_w]
           rfl
          refine take_ (i := 4) (N := some 50) (v := ?_) (a' := ?_) #[true, true, true, true, true, true, true, false, false, false, false, false, false, false, false, false, false, false, false, false, false] rfl rfl (take_ofW HT_.out HW_.out (by kernel_rfl)) (fun _ _ _ h => h) (Or.inl ⟨by rfl, ?_⟩) hHeld ?_ ?_
          rotate_left
          ·rintro w' ⟨s0, s1, s2, s3⟩
           go_simp
           with_reducible rfl
          rotate_left
          ·simp only [Act.put, List.setIfInBounds_toArray, List.set_cons_zero, List.set_cons_succ, i64_w, i32_w]
           rfl
          refine one_ (i := 7) (N := some 53) #[true, true, true, true, true, true, true, true, false, false, false, false, false, false, false, false, false, false, false, false, false] rfl rfl (one_of HT_.out (by kernel_rfl)) (by decide) (fun K hK => ?_)
          refine goes_ Try.func15 (by kernel_rfl) rfl #[.agg #[.int .i64 a0_0, .int .i64 a0_1, .slice A0_2 l0_2.length c0_2], .int .i64 0, .int .i64 ji20] (by rfl) rfl rfl (by (try simp only [List.map_toArray, List.map_cons, List.map_nil]); first | done | (simp only [hji20]; rfl) | rfl | (simp only [List.length_drop, List.length_take]; rfl)) ?_
          with_reducible refine (dom_Is.calls kj7 a0_0 a0_1 _ _ l0_2 0 ji20 t269 _ ?side1 ?side2 A23.out).mono ?_
          (case side1 => repeat (first | exact (Kd.C_below HR0_2.out HB.out) | (with_reducible refine Kd.C_alloc ?_ _) | (with_reducible refine Kd.C_drewN ?_ _) | (with_reducible refine Kd.C_drew ?_)))
          (case side2 => exact HC0_2.out)
          rintro e w28 ⟨rfl, hb⟩
          have HS3_ := (hb.cell (World.block_lt_of_cell? _ _ (hHeld.2.2.2))).trans (hHeld.2.2.2)
          refine ⟨_, rfl, ?_⟩
          have n0_ := Aside0.mk (Kd.R_below (by (with_reducible repeat (first | apply Kd.R_alloc | apply Kd.R_drewN | apply Kd.R_drew)); exact HO267.out) hb)
          have n1_ := Aside0.mk (blk_below (g := gb263) (o := .cells #[.int .i64 a0_0, .int .i64 a0_1, .slice A0_2 l0_2.length c0_2] 24 (0, 0)) (by (with_reducible repeat (first | refine blk_drewN ?_ _ | refine blk_drew ?_ | refine blk_alloc ?_ _)); exact BK263.out) hb)
          have n2_ := Aside0.mk (below_step (by repeat (first | (with_reducible first | exact HB.out | apply below_alloc | apply pw_below_drewN | apply below_drew1 | refine below_set ?_ GE263.out) | exact HB.out)) hb)
          clear HO267
          clear BK263
          clear HB
          have HO267 := n0_
          have BK263 := n1_
          have HB := n2_
          clear n0_ n1_ n2_
          (try clear hb)
          (try clear hb2)
          (try clear hk)
          (try clear hi)
          refine hK.out _ _ ⟨(blk_cell BK263.out 0).trans rfl, (blk_cell BK263.out 1).trans rfl, (blk_cell BK263.out 2).trans rfl, HS3_⟩ (fun hHeld => ?_)
          clear hK K
          refine norm_ (a' := ?_) ?_ ?_
          rotate_left
          ·show Act.put _ (some 53) _ = _
           simp only [Act.put, List.setIfInBounds_toArray, List.set_cons_zero, List.set_cons_succ, i64_w, i32_w]
           rfl
          refine pure_ (i := 8) (N := some 54) (v := ?_) (a' := ?_) #[true, true, true, true, true, true, true, true, true, false, false, false, false, false, false, false, false, false, false, false, false] rfl rfl (any_of HT_.out (by kernel_rfl)) (fun _ _ _ h => h) (Or.inl ⟨by rfl, ?_⟩) ?_ ?_
          rotate_left
          ·intro w'
           go_simp
           with_reducible rfl
          rotate_left
          ·simp only [Act.put, List.setIfInBounds_toArray, List.set_cons_zero, List.set_cons_succ, i64_w, i32_w]
           rfl
          refine pure_ (i := 9) (N := some 55) (v := ?_) (a' := ?_) #[true, true, true, true, true, true, true, true, true, true, false, false, false, false, false, false, false, false, false, false, false] rfl rfl (any_of HT_.out (by kernel_rfl)) (fun _ _ _ h => h) (Or.inl ⟨by rfl, ?_⟩) ?_ ?_
          rotate_left
          ·intro w'
           go_simp
           with_reducible rfl
          rotate_left
          ·simp only [Act.put, List.setIfInBounds_toArray, List.set_cons_zero, List.set_cons_succ, i64_w, i32_w]
           rfl
          refine pure_ (i := 10) (N := some 56) (v := undef) (a' := ?_) #[true, true, true, true, true, true, true, true, true, true, true, false, false, false, false, false, false, false, false, false, false] rfl rfl (any_of HT_.out (by kernel_rfl)) (fun _ _ _ h => h) (Or.inr ⟨by rfl, rfl⟩) ?_ ?_
          rotate_left
          ·simp only [Act.put, List.setIfInBounds_toArray, List.set_cons_zero, List.set_cons_succ, i64_w, i32_w]
           rfl
          refine pure_ (i := 11) (N := some 57) (v := undef) (a' := ?_) #[true, true, true, true, true, true, true, true, true, true, true, true, false, false, false, false, false, false, false, false, false] rfl rfl (any_of HT_.out (by kernel_rfl)) (fun _ _ _ h => h) (Or.inr ⟨by rfl, rfl⟩) ?_ ?_
          rotate_left
          ·simp only [Act.put, List.setIfInBounds_toArray, List.set_cons_zero, List.set_cons_succ, i64_w, i32_w]
           rfl
          refine pure_ (i := 12) (N := some 58) (v := undef) (a' := ?_) #[true, true, true, true, true, true, true, true, true, true, true, true, true, false, false, false, false, false, false, false, false] rfl rfl (any_of HT_.out (by kernel_rfl)) (fun _ _ _ h => h) (Or.inr ⟨by rfl, rfl⟩) ?_ ?_
          rotate_left
          ·simp only [Act.put, List.setIfInBounds_toArray, List.set_cons_zero, List.set_cons_succ, i64_w, i32_w]
           rfl
          refine pure_ (i := 13) (N := some 59) (v := undef) (a' := ?_) #[true, true, true, true, true, true, true, true, true, true, true, true, true, true, false, false, false, false, false, false, false] rfl rfl (any_of HT_.out (by kernel_rfl)) (fun _ _ _ h => h) (Or.inr ⟨by rfl, rfl⟩) ?_ ?_
          rotate_left
          ·simp only [Act.put, List.setIfInBounds_toArray, List.set_cons_zero, List.set_cons_succ, i64_w, i32_w]
           rfl
          refine pure_ (i := 14) (N := some 60) (v := undef) (a' := ?_) #[true, true, true, true, true, true, true, true, true, true, true, true, true, true, true, false, false, false, false, false, false] rfl rfl (any_of HT_.out (by kernel_rfl)) (fun _ _ _ h => h) (Or.inr ⟨by rfl, rfl⟩) ?_ ?_
          rotate_left
          ·simp only [Act.put, List.setIfInBounds_toArray, List.set_cons_zero, List.set_cons_succ, i64_w, i32_w]
           rfl
          refine pure_ (i := 15) (N := some 61) (v := undef) (a' := ?_) #[true, true, true, true, true, true, true, true, true, true, true, true, true, true, true, true, false, false, false, false, false] rfl rfl (any_of HT_.out (by kernel_rfl)) (fun _ _ _ h => h) (Or.inr ⟨by rfl, rfl⟩) ?_ ?_
          rotate_left
          ·simp only [Act.put, List.setIfInBounds_toArray, List.set_cons_zero, List.set_cons_succ, i64_w, i32_w]
           rfl
          refine pure_ (i := 16) (N := some 62) (v := undef) (a' := ?_) #[true, true, true, true, true, true, true, true, true, true, true, true, true, true, true, true, true, false, false, false, false] rfl rfl (any_of HT_.out (by kernel_rfl)) (fun _ _ _ h => h) (Or.inr ⟨by rfl, rfl⟩) ?_ ?_
          rotate_left
          ·simp only [Act.put, List.setIfInBounds_toArray, List.set_cons_zero, List.set_cons_succ, i64_w, i32_w]
           rfl
          refine pure_ (i := 17) (N := some 63) (v := undef) (a' := ?_) #[true, true, true, true, true, true, true, true, true, true, true, true, true, true, true, true, true, true, false, false, false] rfl rfl (any_of HT_.out (by kernel_rfl)) (fun _ _ _ h => h) (Or.inr ⟨by rfl, rfl⟩) ?_ ?_
          rotate_left
          ·simp only [Act.put, List.setIfInBounds_toArray, List.set_cons_zero, List.set_cons_succ, i64_w, i32_w]
           rfl
          refine pure_ (i := 18) (N := some 64) (v := undef) (a' := ?_) #[true, true, true, true, true, true, true, true, true, true, true, true, true, true, true, true, true, true, true, false, false] rfl rfl (any_of HT_.out (by kernel_rfl)) (fun _ _ _ h => h) (Or.inr ⟨by rfl, rfl⟩) ?_ ?_
          rotate_left
          ·simp only [Act.put, List.setIfInBounds_toArray, List.set_cons_zero, List.set_cons_succ, i64_w, i32_w]
           rfl
          refine pure_ (i := 19) (N := some 65) (v := undef) (a' := ?_) #[true, true, true, true, true, true, true, true, true, true, true, true, true, true, true, true, true, true, true, true, false] rfl rfl (any_of HT_.out (by kernel_rfl)) (fun _ _ _ h => h) (Or.inr ⟨by rfl, rfl⟩) ?_ ?_
          rotate_left
          ·simp only [Act.put, List.setIfInBounds_toArray, List.set_cons_zero, List.set_cons_succ, i64_w, i32_w]
           rfl
          refine pure_ (i := 20) (N := some 66) (v := ?_) (a' := ?_) #[true, true, true, true, true, true, true, true, true, true, true, true, true, true, true, true, true, true, true, true, true] rfl rfl (any_of HT_.out (by kernel_rfl)) (fun _ _ _ h => h) (Or.inl ⟨by rfl, ?_⟩) ?_ ?_
          rotate_left
          ·intro w'
           go_simp
           with_reducible rfl
          rotate_left
          ·simp only [Act.put, List.setIfInBounds_toArray, List.set_cons_zero, List.set_cons_succ, i64_w, i32_w]
           rfl
          refine done_ (done_of HT_.out (by kernel_rfl)) ?_
          try go_wp2
          go_meet
          case rel => exact ⟨_, (true), (by first | rfl | (simp; done) | (simp [*]; done)), (by rw [hji20]; exact H'), ⟨by have := HJ7.out; first | omega | exact Nat.le_refl _⟩, ⟨by (with_reducible repeat (first | refine blk_drewN ?_ _ | refine blk_drew ?_ | refine blk_alloc ?_ _)); exact BK263.out⟩, ⟨by repeat (first | (with_reducible first | exact HB.out | apply below_alloc | apply pw_below_drewN | apply below_drew1 | refine below_set ?_ GE263.out) | exact HB.out)⟩⟩
         ·rw [if_neg c24] at H
          have c24b0 : ((rdOf false t265 (ji20)) != t269) = false := by simpa using c24
          (try (have c24b1 : decide ((rdOf false t265 (ji20)) = t269) = true := by simpa using c24))
          (try (have c24b2 : ((rdOf false t265 (ji20)) == t269) = true := by simpa using c24))
          clear c24
          replace H := Option.bind_eq_some_iff.mp H
          obtain ⟨t270, A290, H⟩ := H
          replace H : (if (ji20) < (t270.length : Int) then ((dom_Is.f kj7 a0_0 a0_1 l0_2 (ji20) (ji20)).bind fun t274 => (davitlaw08_DomOver.j1 kj7 l4 (Int.tmod (wrap64 (a1)) (l0_2.length : Int)) (Int.tmod (wrap64 (a2)) (l0_2.length : Int)) ji20 ((rdOf false t270 (ji20)) != t274) a0_0 a0_1 l0_2)) else (none)) = some r := H
          have A29 := Aside0.mk A290
          clear A290
          by_cases c30 : (ji20) < (t270.length : Int)
          ·rw [if_pos c30] at H
           have c30b0 : decide ((ji20) < (t270.length : Int)) = true := decide_eq_true c30
           clear c30
           replace H := Option.bind_eq_some_iff.mp H
           obtain ⟨t274, A310, H⟩ := H
           replace H : (davitlaw08_DomOver.j1 kj7 l4 (Int.tmod (wrap64 (a1)) (l0_2.length : Int)) (Int.tmod (wrap64 (a2)) (l0_2.length : Int)) ji20 ((rdOf false t270 (ji20)) != t274) a0_0 a0_1 l0_2) = some r := H
           have A31 := Aside0.mk A310
           clear A310
           have H' := Aside0.mk H
           clear H
           try go_wp2
           have n0_ := Aside0.mk (blk_drew BK263.out)
           have n1_ := Aside0.mk (below_drew1 HB.out)
           clear BK263
           clear HB
           have BK263 := n0_
           have HB := n1_
           clear n0_ n1_
           refine start_ (n := 21) (S := fun w' => w'.cell? ⟨gb263, 0, none⟩ = some (.int .i64 a0_0) ∧ w'.cell? ⟨gb263, 1, none⟩ = some (.int .i64 a0_1) ∧ w'.cell? ⟨gb263, 2, none⟩ = some (.slice A0_2 l0_2.length c0_2)) (ds := []) #[false, false, false, false, false, false, false, false, false, false, false, false, false, false, false, false, false, false, false, false, false] (by kernel_rfl) rfl rfl ⟨(blk_cell BK263.out 0).trans rfl, (blk_cell BK263.out 1).trans rfl, (blk_cell BK263.out 2).trans rfl⟩ (fun hHeld => ?_); refine with_tabW davitlaw08_DomOver.tab7 davitlaw08_DomOver.bits7 (fun HT_ HW_ => ?_)
           generalize w18.drew = w32 at BK263 HB hHeld ⊢
           refine pure_ (i := 2) (N := some 48) (v := ?_) (a' := ?_) #[false, false, true, false, false, false, false, false, false, false, false, false, false, false, false, false, false, false, false, false, false] rfl rfl (any_of HT_.out (by kernel_rfl)) (fun _ _ _ h => h) (Or.inl ⟨by rfl, ?_⟩) ?_ ?_
           rotate_left
           ·intro w'
            go_simp
            with_reducible rfl
           rotate_left
           ·simp only [Act.put, List.setIfInBounds_toArray, List.set_cons_zero, List.set_cons_succ, i64_w, i32_w]
            rfl
           refine pure_ (i := 6) (N := some 52) (v := ?_) (a' := ?_) #[false, false, true, false, false, false, true, false, false, false, false, false, false, false, false, false, false, false, false, false, false] rfl rfl (any_of HT_.out (by kernel_rfl)) (fun _ _ _ h => h) (Or.inl ⟨by rfl, ?_⟩) ?_ ?_
           rotate_left
           ·intro w'
            go_simp
            with_reducible rfl
           rotate_left
           ·simp only [Act.put, List.setIfInBounds_toArray, List.set_cons_zero, List.set_cons_succ, i64_w, i32_w]
            rfl
           refine take_ (i := 0) (N := some 46) (v := ?_) (a' := ?_) #[true, false, true, false, false, false, true, false, false, false, false, false, false, false, false, false, false, false, false, false, false] rfl rfl (take_ofW HT_.out HW_.out (by kernel_rfl)) (fun _ _ _ h => h) (Or.inl ⟨by rfl, ?_⟩) hHeld ?_ ?_
           rotate_left
           ·rintro w' ⟨s0, s1, s2⟩
            go_simp
            with_reducible rfl
           rotate_left
           ·simp only [Act.put, List.setIfInBounds_toArray, List.set_cons_zero, List.set_cons_succ, i64_w, i32_w]
            rfl
           refine take_ (i := 5) (N := some 51) (v := ?_) (a' := ?_) #[true, false, true, false, false, true, true, false, false, false, false, false, false, false, false, false, false, false, false, false, false] rfl rfl (take_ofW HT_.out HW_.out (by kernel_rfl)) (fun _ _ _ h => h) (Or.inl ⟨by rfl, ?_⟩) hHeld ?_ ?_
           rotate_left
           ·rintro w' ⟨s0, s1, s2⟩
            go_simp
            with_reducible rfl
           rotate_left
           ·simp only [Act.put, List.setIfInBounds_toArray, List.set_cons_zero, List.set_cons_succ, i64_w, i32_w]
            rfl
           refine one_ (i := 1) (N := some 47) #[true, true, true, false, false, true, true, false, false, false, false, false, false, false, false, false, false, false, false, false, false] rfl rfl (one_of HT_.out (by kernel_rfl)) (by decide) (fun K hK => ?_)
           refine goes_ Try.func19 (by kernel_rfl) rfl #[.agg #[.int .i64 a0_0, .int .i64 a0_1, .slice A0_2 l0_2.length c0_2]] (by rfl) rfl rfl (by (try simp only [List.map_toArray, List.map_cons, List.map_nil]); first | done | rfl | (simp only [List.length_drop, List.length_take]; rfl)) ?_
           with_reducible refine (flow_Reached.calls a0_0 a0_1 _ _ l0_2 t265 _ ?side1 ?side2 A19.out).mono ?_
           (case side1 => repeat (first | exact (Kd.C_below HR0_2.out HB.out) | (with_reducible refine Kd.C_alloc ?_ _) | (with_reducible refine Kd.C_drewN ?_ _) | (with_reducible refine Kd.C_drew ?_)))
           (case side2 => exact HC0_2.out)
           rintro e w33 ⟨v266, rfl, ho0, hb⟩
           refine ⟨_, rfl, ?_⟩
           have n0_ := Aside0.mk (Kd.R_lower ho0 (below_size (by repeat (first | (with_reducible first | exact HB.out | apply below_alloc | apply pw_below_drewN | apply below_drew1 | refine below_set ?_ GE263.out) | exact HB.out))))
           have n1_ := Aside0.mk (blk_below (g := gb263) (o := .cells #[.int .i64 a0_0, .int .i64 a0_1, .slice A0_2 l0_2.length c0_2] 24 (0, 0)) (by (with_reducible repeat (first | refine blk_drewN ?_ _ | refine blk_drew ?_ | refine blk_alloc ?_ _)); exact BK263.out) hb)
           have n2_ := Aside0.mk (below_step (by repeat (first | (with_reducible first | exact HB.out | apply below_alloc | apply pw_below_drewN | apply below_drew1 | refine below_set ?_ GE263.out) | exact HB.out)) hb)
           clear BK263
           clear HB
           have HO267 := n0_
           have BK263 := n1_
           have HB := n2_
           clear n0_ n1_ n2_
           (try clear hb)
           (try clear hb2)
           (try clear hk)
           (try clear hi)
           (try clear ho0)
           obtain ⟨Ao34, co34, eo34⟩ := Kd.R_slice HO267.out
           (first | subst eo34 | (injection eo34 with f1_ f2_ f3_; have f4_ := f1_.symm; have f5_ := f3_.symm; clear f1_ f2_ f3_; subst f4_; subst f5_))
           have p268 : 0 ≤ ((ji20) : Int) := of_decide_eq_true (by first | (with_reducible assumption) | assumption)
           have q268 : (ji20) < (t265.length : Int) := of_decide_eq_true (by first | (with_reducible assumption) | assumption)
           obtain ⟨ad268, e268, hx268_0⟩ := Kd.at_bool (Kd.R_reads' HO267.out).2.2 (ji20) p268 q268
           cases e268
           replace p268 := eq_true p268
           replace q268 := eq_true q268
           refine hK.out _ _ ⟨(blk_cell BK263.out 0).trans rfl, (blk_cell BK263.out 1).trans rfl, (blk_cell BK263.out 2).trans rfl⟩ (fun hHeld => ?_)
           replace hHeld := And.intro hHeld.1 (And.intro hHeld.2.1 (And.intro hHeld.2.2 hx268_0))
           refine wpAnyLast_grow (S' := fun w' => w'.cell? ⟨gb263, 0, none⟩ = some (.int .i64 a0_0) ∧ w'.cell? ⟨gb263, 1, none⟩ = some (.int .i64 a0_1) ∧ w'.cell? ⟨gb263, 2, none⟩ = some (.slice A0_2 l0_2.length c0_2) ∧ w'.cell? (ad268.add ((ji20)).toNat) = some (.bool (rdOf false t265 (ji20)))) (fun _ h => ⟨h.1, h.2.1, h.2.2.1⟩) _ _ _ _ hHeld ?_
           clear hK K
           refine norm_ (a' := ?_) ?_ ?_
           rotate_left
           ·show Act.put _ (some 47) _ = _
            simp only [Act.put, List.setIfInBounds_toArray, List.set_cons_zero, List.set_cons_succ, i64_w, i32_w]
            rfl
           refine pure_ (i := 3) (N := some 49) (v := ?_) (a' := ?_) #[true, true, true, true, false, true, true, false, false, false, false, false, false, false, false, false, false, false, false, false, false] rfl rfl (any_of HT_.out (by kernel_rfl)) (fun _ _ _ h => h) (Or.inl ⟨by rfl, ?_⟩) ?_ ?_
           rotate_left
           ·intro w'
            go_simp
            with_reducible rfl
           rotate_left
           ·simp only [Act.put, List.setIfInBounds_toArray, List.set_cons_zero, List.set_cons_succ, i64_w, i32_w]
            rfl
           refine take_ (i := 4) (N := some 50) (v := ?_) (a' := ?_) #[true, true, true, true, true, true, true, false, false, false, false, false, false, false, false, false, false, false, false, false, false] rfl rfl (take_ofW HT_.out HW_.out (by kernel_rfl)) (fun _ _ _ h => h) (Or.inl ⟨by rfl, ?_⟩) hHeld ?_ ?_
           rotate_left
           ·rintro w' ⟨s0, s1, s2, s3⟩
            go_simp
            with_reducible rfl
           rotate_left
           ·simp only [Act.put, List.setIfInBounds_toArray, List.set_cons_zero, List.set_cons_succ, i64_w, i32_w]
            rfl
           refine one_ (i := 7) (N := some 53) #[true, true, true, true, true, true, true, true, false, false, false, false, false, false, false, false, false, false, false, false, false] rfl rfl (one_of HT_.out (by kernel_rfl)) (by decide) (fun K hK => ?_)
           refine goes_ Try.func15 (by kernel_rfl) rfl #[.agg #[.int .i64 a0_0, .int .i64 a0_1, .slice A0_2 l0_2.length c0_2], .int .i64 0, .int .i64 ji20] (by rfl) rfl rfl (by (try simp only [List.map_toArray, List.map_cons, List.map_nil]); first | done | (simp only [hji20]; rfl) | rfl | (simp only [List.length_drop, List.length_take]; rfl)) ?_
           with_reducible refine (dom_Is.calls kj7 a0_0 a0_1 _ _ l0_2 0 ji20 t269 _ ?side1 ?side2 A23.out).mono ?_
           (case side1 => repeat (first | exact (Kd.C_below HR0_2.out HB.out) | (with_reducible refine Kd.C_alloc ?_ _) | (with_reducible refine Kd.C_drewN ?_ _) | (with_reducible refine Kd.C_drew ?_)))
           (case side2 => exact HC0_2.out)
           rintro e w35 ⟨rfl, hb⟩
           have HS3_ := (hb.cell (World.block_lt_of_cell? _ _ (hHeld.2.2.2))).trans (hHeld.2.2.2)
           refine ⟨_, rfl, ?_⟩
           have n0_ := Aside0.mk (Kd.R_below (by (with_reducible repeat (first | apply Kd.R_alloc | apply Kd.R_drewN | apply Kd.R_drew)); exact HO267.out) hb)
           have n1_ := Aside0.mk (blk_below (g := gb263) (o := .cells #[.int .i64 a0_0, .int .i64 a0_1, .slice A0_2 l0_2.length c0_2] 24 (0, 0)) (by (with_reducible repeat (first | refine blk_drewN ?_ _ | refine blk_drew ?_ | refine blk_alloc ?_ _)); exact BK263.out) hb)
           have n2_ := Aside0.mk (below_step (by repeat (first | (with_reducible first | exact HB.out | apply below_alloc | apply pw_below_drewN | apply below_drew1 | refine below_set ?_ GE263.out) | exact HB.out)) hb)
           clear HO267
           clear BK263
           clear HB
           have HO267 := n0_
           have BK263 := n1_
           have HB := n2_
           clear n0_ n1_ n2_
           (try clear hb)
           (try clear hb2)
           (try clear hk)
           (try clear hi)
           refine hK.out _ _ ⟨(blk_cell BK263.out 0).trans rfl, (blk_cell BK263.out 1).trans rfl, (blk_cell BK263.out 2).trans rfl, HS3_⟩ (fun hHeld => ?_)
           clear hK K
           refine norm_ (a' := ?_) ?_ ?_
           rotate_left
           ·show Act.put _ (some 53) _ = _
            simp only [Act.put, List.setIfInBounds_toArray, List.set_cons_zero, List.set_cons_succ, i64_w, i32_w]
            rfl
           refine pure_ (i := 8) (N := some 54) (v := ?_) (a' := ?_) #[true, true, true, true, true, true, true, true, true, false, false, false, false, false, false, false, false, false, false, false, false] rfl rfl (any_of HT_.out (by kernel_rfl)) (fun _ _ _ h => h) (Or.inl ⟨by rfl, ?_⟩) ?_ ?_
           rotate_left
           ·intro w'
            go_simp
            with_reducible rfl
           rotate_left
           ·simp only [Act.put, List.setIfInBounds_toArray, List.set_cons_zero, List.set_cons_succ, i64_w, i32_w]
            rfl
           refine pure_ (i := 9) (N := some 55) (v := ?_) (a' := ?_) #[true, true, true, true, true, true, true, true, true, true, false, false, false, false, false, false, false, false, false, false, false] rfl rfl (any_of HT_.out (by kernel_rfl)) (fun _ _ _ h => h) (Or.inl ⟨by rfl, ?_⟩) ?_ ?_
           rotate_left
           ·intro w'
            go_simp
            with_reducible rfl
           rotate_left
           ·simp only [Act.put, List.setIfInBounds_toArray, List.set_cons_zero, List.set_cons_succ, i64_w, i32_w]
            rfl
           refine pure_ (i := 12) (N := some 58) (v := ?_) (a' := ?_) #[true, true, true, true, true, true, true, true, true, true, false, false, true, false, false, false, false, false, false, false, false] rfl rfl (any_of HT_.out (by kernel_rfl)) (fun _ _ _ h => h) (Or.inl ⟨by rfl, ?_⟩) ?_ ?_
           rotate_left
           ·intro w'
            go_simp
            with_reducible rfl
           rotate_left
           ·simp only [Act.put, List.setIfInBounds_toArray, List.set_cons_zero, List.set_cons_succ, i64_w, i32_w]
            rfl
           refine pure_ (i := 16) (N := some 62) (v := ?_) (a' := ?_) #[true, true, true, true, true, true, true, true, true, true, false, false, true, false, false, false, true, false, false, false, false] rfl rfl (any_of HT_.out (by kernel_rfl)) (fun _ _ _ h => h) (Or.inl ⟨by rfl, ?_⟩) ?_ ?_
           rotate_left
           ·intro w'
            go_simp
            with_reducible rfl
           rotate_left
           ·simp only [Act.put, List.setIfInBounds_toArray, List.set_cons_zero, List.set_cons_succ, i64_w, i32_w]
            rfl
           refine pure_ (i := 17) (N := some 63) (v := ?_) (a' := ?_) #[true, true, true, true, true, true, true, true, true, true, false, false, true, false, false, false, true, true, false, false, false] rfl rfl (any_of HT_.out (by kernel_rfl)) (fun _ _ _ h => h) (Or.inl ⟨by rfl, ?_⟩) ?_ ?_
           rotate_left
           ·intro w'
            go_simp
            with_reducible rfl
           rotate_left
           ·simp only [Act.put, List.setIfInBounds_toArray, List.set_cons_zero, List.set_cons_succ, i64_w, i32_w]
            rfl
           refine take_ (i := 10) (N := some 56) (v := ?_) (a' := ?_) #[true, true, true, true, true, true, true, true, true, true, true, false, true, false, false, false, true, true, false, false, false] rfl rfl (take_ofW HT_.out HW_.out (by kernel_rfl)) (fun _ _ _ h => h) (Or.inl ⟨by rfl, ?_⟩) hHeld ?_ ?_
           rotate_left
           ·rintro w' ⟨s0, s1, s2, s3⟩
            go_simp
            with_reducible rfl
           rotate_left
           ·simp only [Act.put, List.setIfInBounds_toArray, List.set_cons_zero, List.set_cons_succ, i64_w, i32_w]
            rfl
           refine take_ (i := 15) (N := some 61) (v := ?_) (a' := ?_) #[true, true, true, true, true, true, true, true, true, true, true, false, true, false, false, true, true, true, false, false, false] rfl rfl (take_ofW HT_.out HW_.out (by kernel_rfl)) (fun _ _ _ h => h) (Or.inl ⟨by rfl, ?_⟩) hHeld ?_ ?_
           rotate_left
           ·rintro w' ⟨s0, s1, s2, s3⟩
            go_simp
            with_reducible rfl
           rotate_left
           ·simp only [Act.put, List.setIfInBounds_toArray, List.set_cons_zero, List.set_cons_succ, i64_w, i32_w]
            rfl
           refine one_ (i := 11) (N := some 57) #[true, true, true, true, true, true, true, true, true, true, true, true, true, false, false, true, true, true, false, false, false] rfl rfl (one_of HT_.out (by kernel_rfl)) (by decide) (fun K hK => ?_)
           refine goes_ Try.func19 (by kernel_rfl) rfl #[.agg #[.int .i64 a0_0, .int .i64 a0_1, .slice A0_2 l0_2.length c0_2]] (by rfl) rfl rfl (by (try simp only [List.map_toArray, List.map_cons, List.map_nil]); first | done | rfl | (simp only [List.length_drop, List.length_take]; rfl)) ?_
           with_reducible refine (flow_Reached.calls a0_0 a0_1 _ _ l0_2 t270 _ ?side1 ?side2 A29.out).mono ?_
           (case side1 => repeat (first | exact (Kd.C_below HR0_2.out HB.out) | (with_reducible refine Kd.C_alloc ?_ _) | (with_reducible refine Kd.C_drewN ?_ _) | (with_reducible refine Kd.C_drew ?_)))
           (case side2 => exact HC0_2.out)
           rintro e w36 ⟨v271, rfl, ho0, hb⟩
           have HS3_ := (hb.cell (World.block_lt_of_cell? _ _ (hHeld.2.2.2))).trans (hHeld.2.2.2)
           refine ⟨_, rfl, ?_⟩
           have n0_ := Aside0.mk (Kd.R_elder' (by (with_reducible repeat (first | apply Kd.R_alloc | apply Kd.R_drewN | apply Kd.R_drew)); exact HO267.out) (Kd.R_base ho0) hb)
           have n1_ := Aside0.mk (Kd.R_lower (Kd.R_new' ho0 (Kd.R_lt (by (with_reducible repeat (first | apply Kd.R_alloc | apply Kd.R_drewN | apply Kd.R_drew)); exact HO267.out))) (below_size (by repeat (first | (with_reducible first | exact HB.out | apply below_alloc | apply pw_below_drewN | apply below_drew1 | refine below_set ?_ GE263.out) | exact HB.out))))
           have n2_ := Aside0.mk (blk_below (g := gb263) (o := .cells #[.int .i64 a0_0, .int .i64 a0_1, .slice A0_2 l0_2.length c0_2] 24 (0, 0)) (by (with_reducible repeat (first | refine blk_drewN ?_ _ | refine blk_drew ?_ | refine blk_alloc ?_ _)); exact BK263.out) hb)
           have n3_ := Aside0.mk (below_step (by repeat (first | (with_reducible first | exact HB.out | apply below_alloc | apply pw_below_drewN | apply below_drew1 | refine below_set ?_ GE263.out) | exact HB.out)) hb)
           clear HO267
           clear BK263
           clear HB
           have HO267 := n0_
           have HO272 := n1_
           have BK263 := n2_
           have HB := n3_
           clear n0_ n1_ n2_ n3_
           (try clear hb)
           (try clear hb2)
           (try clear hk)
           (try clear hi)
           (try clear ho0)
           obtain ⟨Ao37, co37, eo37⟩ := Kd.R_slice HO272.out
           (first | subst eo37 | (injection eo37 with f1_ f2_ f3_; have f4_ := f1_.symm; have f5_ := f3_.symm; clear f1_ f2_ f3_; subst f4_; subst f5_))
           have p273 : 0 ≤ ((ji20) : Int) := of_decide_eq_true (by first | (with_reducible assumption) | assumption)
           have q273 : (ji20) < (t270.length : Int) := of_decide_eq_true (by first | (with_reducible assumption) | assumption)
           obtain ⟨ad273, e273, hx273_0⟩ := Kd.at_bool (Kd.R_reads' HO272.out).2.2 (ji20) p273 q273
           cases e273
           replace p273 := eq_true p273
           replace q273 := eq_true q273
           refine hK.out _ _ ⟨(blk_cell BK263.out 0).trans rfl, (blk_cell BK263.out 1).trans rfl, (blk_cell BK263.out 2).trans rfl, HS3_⟩ (fun hHeld => ?_)
           replace hHeld := And.intro hHeld.1 (And.intro hHeld.2.1 (And.intro hHeld.2.2.1 (And.intro hHeld.2.2.2 hx273_0)))
           refine wpAnyLast_grow (S' := fun w' => w'.cell? ⟨gb263, 0, none⟩ = some (.int .i64 a0_0) ∧ w'.cell? ⟨gb263, 1, none⟩ = some (.int .i64 a0_1) ∧ w'.cell? ⟨gb263, 2, none⟩ = some (.slice A0_2 l0_2.length c0_2) ∧ w'.cell? (ad268.add ((ji20)).toNat) = some (.bool (rdOf false t265 (ji20))) ∧ w'.cell? (ad273.add ((ji20)).toNat) = some (.bool (rdOf false t270 (ji20)))) (fun _ h => ⟨h.1, h.2.1, h.2.2.1, h.2.2.2.1⟩) _ _ _ _ hHeld ?_
           clear hK K
           refine norm_ (a' := ?_) ?_ ?_
           rotate_left
           ·show Act.put _ (some 57) _ = _
            simp only [Act.put, List.setIfInBounds_toArray, List.set_cons_zero, List.set_cons_succ, i64_w, i32_w]
            rfl
           refine pure_ (i := 13) (N := some 59) (v := ?_) (a' := ?_) #[true, true, true, true, true, true, true, true, true, true, true, true, true, true, false, true, true, true, false, false, false] rfl rfl (any_of HT_.out (by kernel_rfl)) (fun _ _ _ h => h) (Or.inl ⟨by rfl, ?_⟩) ?_ ?_
           rotate_left
           ·intro w'
            go_simp
            with_reducible rfl
           rotate_left
           ·simp only [Act.put, List.setIfInBounds_toArray, List.set_cons_zero, List.set_cons_succ, i64_w, i32_w]
            rfl
           refine take_ (i := 14) (N := some 60) (v := ?_) (a' := ?_) #[true, true, true, true, true, true, true, true, true, true, true, true, true, true, true, true, true, true, false, false, false] rfl rfl (take_ofW HT_.out HW_.out (by kernel_rfl)) (fun _ _ _ h => h) (Or.inl ⟨by rfl, ?_⟩) hHeld ?_ ?_
           rotate_left
           ·rintro w' ⟨s0, s1, s2, s3, s4⟩
            go_simp
            with_reducible rfl
           rotate_left
           ·simp only [Act.put, List.setIfInBounds_toArray, List.set_cons_zero, List.set_cons_succ, i64_w, i32_w]
            rfl
           refine one_ (i := 18) (N := some 64) #[true, true, true, true, true, true, true, true, true, true, true, true, true, true, true, true, true, true, true, false, false] rfl rfl (one_of HT_.out (by kernel_rfl)) (by decide) (fun K hK => ?_)
           refine goes_ Try.func15 (by kernel_rfl) rfl #[.agg #[.int .i64 a0_0, .int .i64 a0_1, .slice A0_2 l0_2.length c0_2], .int .i64 ji20, .int .i64 ji20] (by rfl) rfl rfl (by (try simp only [List.map_toArray, List.map_cons, List.map_nil]); first | done | (simp only [hji20]; rfl) | rfl | (simp only [List.length_drop, List.length_take]; rfl)) ?_
           with_reducible refine (dom_Is.calls kj7 a0_0 a0_1 _ _ l0_2 ji20 ji20 t274 _ ?side1 ?side2 A31.out).mono ?_
           (case side1 => repeat (first | exact (Kd.C_below HR0_2.out HB.out) | (with_reducible refine Kd.C_alloc ?_ _) | (with_reducible refine Kd.C_drewN ?_ _) | (with_reducible refine Kd.C_drew ?_)))
           (case side2 => exact HC0_2.out)
           rintro e w38 ⟨rfl, hb⟩
           have HS3_ := (hb.cell (World.block_lt_of_cell? _ _ (hHeld.2.2.2.1))).trans (hHeld.2.2.2.1)
           have HS4_ := (hb.cell (World.block_lt_of_cell? _ _ (hHeld.2.2.2.2))).trans (hHeld.2.2.2.2)
           refine ⟨_, rfl, ?_⟩
           have n0_ := Aside0.mk (Kd.R_below (by (with_reducible repeat (first | apply Kd.R_alloc | apply Kd.R_drewN | apply Kd.R_drew)); exact HO267.out) hb)
           have n1_ := Aside0.mk (Kd.R_below (by (with_reducible repeat (first | apply Kd.R_alloc | apply Kd.R_drewN | apply Kd.R_drew)); exact HO272.out) hb)
           have n2_ := Aside0.mk (blk_below (g := gb263) (o := .cells #[.int .i64 a0_0, .int .i64 a0_1, .slice A0_2 l0_2.length c0_2] 24 (0, 0)) (by (with_reducible repeat (first | refine blk_drewN ?_ _ | refine blk_drew ?_ | refine blk_alloc ?_ _)); exact BK263.out) hb)
           have n3_ := Aside0.mk (below_step (by repeat (first | (with_reducible first | exact HB.out | apply below_alloc | apply pw_below_drewN | apply below_drew1 | refine below_set ?_ GE263.out) | exact HB.out)) hb)
           clear HO267
           clear HO272
           clear BK263
           clear HB
           have HO267 := n0_
           have HO272 := n1_
           have BK263 := n2_
           have HB := n3_
           clear n0_ n1_ n2_ n3_
           (try clear hb)
           (try clear hb2)
           (try clear hk)
           (try clear hi)
           refine hK.out _ _ ⟨(blk_cell BK263.out 0).trans rfl, (blk_cell BK263.out 1).trans rfl, (blk_cell BK263.out 2).trans rfl, HS3_, HS4_⟩ (fun hHeld => ?_)
           clear hK K
           refine norm_ (a' := ?_) ?_ ?_
           rotate_left
           ·show Act.put _ (some 64) _ = _
            simp only [Act.put, List.setIfInBounds_toArray, List.set_cons_zero, List.set_cons_succ, i64_w, i32_w]
            rfl
           refine pure_ (i := 19) (N := some 65) (v := ?_) (a' := ?_) #[true, true, true, true, true, true, true, true, true, true, true, true, true, true, true, true, true, true, true, true, false] rfl rfl (any_of HT_.out (by kernel_rfl)) (fun _ _ _ h => h) (Or.inl ⟨by rfl, ?_⟩) ?_ ?_
           rotate_left
           ·intro w'
            go_simp
            with_reducible rfl
           rotate_left
           ·simp only [Act.put, List.setIfInBounds_toArray, List.set_cons_zero, List.set_cons_succ, i64_w, i32_w]
            rfl
           refine pure_ (i := 20) (N := some 66) (v := ?_) (a' := ?_) #[true, true, true, true, true, true, true, true, true, true, true, true, true, true, true, true, true, true, true, true, true] rfl rfl (any_of HT_.out (by kernel_rfl)) (fun _ _ _ h => h) (Or.inl ⟨by rfl, ?_⟩) ?_ ?_
           rotate_left
           ·intro w'
            go_simp
            with_reducible rfl
           rotate_left
           ·simp only [Act.put, List.setIfInBounds_toArray, List.set_cons_zero, List.set_cons_succ, i64_w, i32_w]
            rfl
           refine done_ (done_of HT_.out (by kernel_rfl)) ?_
           try go_wp2
           go_meet
           case rel => exact ⟨_, (((rdOf false t270 (ji20)) != t274)), (by first | rfl | (simp; done) | (simp only [← hji20] <;> (first | rfl | simp)) | (simp [*]; done)), (by rw [hji20]; exact H'), ⟨by have := HJ7.out; first | omega | exact Nat.le_refl _⟩, ⟨by (with_reducible repeat (first | refine blk_drewN ?_ _ | refine blk_drew ?_ | refine blk_alloc ?_ _)); exact BK263.out⟩, ⟨by repeat (first | (with_reducible first | exact HB.out | apply below_alloc | apply pw_below_drewN | apply below_drew1 | refine below_set ?_ GE263.out) | exact HB.out)⟩⟩
          ·rw [if_neg c30] at H
           exact absurd H (by simp)
        ·rw [if_neg c22] at H
         exact absurd H (by simp)
       ·rw [if_neg c21] at H
        exact absurd H (by simp)
      case rest =>
       clear HC16
       try clear c1
       try clear c2
       try clear p2
       try clear q2
       try clear hx2
       try clear c3
       try clear p6
       try clear c15
       try clear c19
       try clear c21
       try clear c21b0
       try clear c22
       try clear c22b0
       try clear c24
       try clear c24b0
       try clear c24b1
       try clear c24b2
       try clear p26
       try clear q26
       try clear hx26
       try clear p27
       try clear q27
       try clear hx27
       try clear c30
       try clear c30b0
       try clear hx268_0
       try clear hx273_0
       try clear p268
       try clear p273
       try clear q268
       try clear q273
       obtain ⟨kq, x66_15, rfl, HA, HJ15, BK263, HB⟩ := hcut
       cases kq with
       | zero => exact absurd HA.out (by simp [davitlaw08_DomOver.j1])
       | succ kj15 =>
        have H := HA.out
        clear HA
        simp only [davitlaw08_DomOver.j1] at H
        by_cases c39 : x66_15 = true
        ·subst c39
         have H1 : (some false) = some r := by rw [if_pos rfl] at H; exact H
         clear H
         have H := H1
         clear H1
         obtain rfl := Option.some.inj H
         go_wp2
         go_ret
         exact ⟨by first | rfl | (simp [errW_none, errW_some] <;> rfl) | (simp [*, errW_none, errW_some] <;> rfl), by repeat (first | (with_reducible first | exact HB.out | apply below_alloc | apply pw_below_drewN | apply below_drew1 | refine below_set ?_ GE263.out) | exact HB.out)⟩
        ·replace c39 := Bool.eq_false_iff.mpr c39
         subst c39
         have H1 : ((dom_Is.f kj15 a0_0 a0_1 l0_2 (Int.tmod (wrap64 (a1)) (l0_2.length : Int)) (Int.tmod (wrap64 (a3)) (l0_2.length : Int))).bind fun t275 => (if t275 = true then ((dom_Is.f kj15 a0_0 a0_1 l0_2 (Int.tmod (wrap64 (a2)) (l0_2.length : Int)) (Int.tmod (wrap64 (a3)) (l0_2.length : Int))).bind fun t276 => (if t276 = true then ((dom_Is.f kj15 a0_0 a0_1 l0_2 (Int.tmod (wrap64 (a1)) (l0_2.length : Int)) (Int.tmod (wrap64 (a2)) (l0_2.length : Int))).bind fun t277 => (if t277 = true then (davitlaw08_DomOver.j2 kj15 l4 (Int.tmod (wrap64 (a1)) (l0_2.length : Int)) false a0_0 a0_1 l0_2) else ((dom_Is.f kj15 a0_0 a0_1 l0_2 (Int.tmod (wrap64 (a2)) (l0_2.length : Int)) (Int.tmod (wrap64 (a1)) (l0_2.length : Int))).bind fun t278 => (davitlaw08_DomOver.j2 kj15 l4 (Int.tmod (wrap64 (a1)) (l0_2.length : Int)) (!t278) a0_0 a0_1 l0_2)))) else (davitlaw08_DomOver.j2 kj15 l4 (Int.tmod (wrap64 (a1)) (l0_2.length : Int)) false a0_0 a0_1 l0_2))) else (davitlaw08_DomOver.j2 kj15 l4 (Int.tmod (wrap64 (a1)) (l0_2.length : Int)) false a0_0 a0_1 l0_2))) = some r := by rw [if_neg (show ¬ (false = true) by decide)] at H; exact H
         clear H
         have H := H1
         clear H1
         have HC40 := Aside0.mk H
         clear H
         go_upto_region 9 with (fail)
         go_cut [90] (fun v90 wc => ∃ (kq : Nat) (x90_39 : Bool), v90 = .bool x90_39 ∧ Aside0 (davitlaw08_DomOver.j2 kq l4 (Int.tmod (wrap64 (a1)) (l0_2.length : Int)) x90_39 a0_0 a0_1 l0_2 = some r) ∧ Aside0 (kq ≤ kj15) ∧ Aside0 (wc.heap[gb263]? = some (.cells #[.int .i64 a0_0, .int .i64 a0_1, (.slice A0_2 l0_2.length c0_2)] 24 (0, 0))) ∧ Aside0 (Below w.heap.size w wc))
         case first =>
          have H := HC40.out
          clear HC40
          replace H := Option.bind_eq_some_iff.mp H
          obtain ⟨t275, A410, H⟩ := H
          replace H : (if t275 = true then ((dom_Is.f kj15 a0_0 a0_1 l0_2 (Int.tmod (wrap64 (a2)) (l0_2.length : Int)) (Int.tmod (wrap64 (a3)) (l0_2.length : Int))).bind fun t276 => (if t276 = true then ((dom_Is.f kj15 a0_0 a0_1 l0_2 (Int.tmod (wrap64 (a1)) (l0_2.length : Int)) (Int.tmod (wrap64 (a2)) (l0_2.length : Int))).bind fun t277 => (if t277 = true then (davitlaw08_DomOver.j2 kj15 l4 (Int.tmod (wrap64 (a1)) (l0_2.length : Int)) false a0_0 a0_1 l0_2) else ((dom_Is.f kj15 a0_0 a0_1 l0_2 (Int.tmod (wrap64 (a2)) (l0_2.length : Int)) (Int.tmod (wrap64 (a1)) (l0_2.length : Int))).bind fun t278 => (davitlaw08_DomOver.j2 kj15 l4 (Int.tmod (wrap64 (a1)) (l0_2.length : Int)) (!t278) a0_0 a0_1 l0_2)))) else (davitlaw08_DomOver.j2 kj15 l4 (Int.tmod (wrap64 (a1)) (l0_2.length : Int)) false a0_0 a0_1 l0_2))) else (davitlaw08_DomOver.j2 kj15 l4 (Int.tmod (wrap64 (a1)) (l0_2.length : Int)) false a0_0 a0_1 l0_2)) = some r := H
          have A41 := Aside0.mk A410
          clear A410
          by_cases c42 : t275 = true
          ·subst c42
           have H1 : ((dom_Is.f kj15 a0_0 a0_1 l0_2 (Int.tmod (wrap64 (a2)) (l0_2.length : Int)) (Int.tmod (wrap64 (a3)) (l0_2.length : Int))).bind fun t276 => (if t276 = true then ((dom_Is.f kj15 a0_0 a0_1 l0_2 (Int.tmod (wrap64 (a1)) (l0_2.length : Int)) (Int.tmod (wrap64 (a2)) (l0_2.length : Int))).bind fun t277 => (if t277 = true then (davitlaw08_DomOver.j2 kj15 l4 (Int.tmod (wrap64 (a1)) (l0_2.length : Int)) false a0_0 a0_1 l0_2) else ((dom_Is.f kj15 a0_0 a0_1 l0_2 (Int.tmod (wrap64 (a2)) (l0_2.length : Int)) (Int.tmod (wrap64 (a1)) (l0_2.length : Int))).bind fun t278 => (davitlaw08_DomOver.j2 kj15 l4 (Int.tmod (wrap64 (a1)) (l0_2.length : Int)) (!t278) a0_0 a0_1 l0_2)))) else (davitlaw08_DomOver.j2 kj15 l4 (Int.tmod (wrap64 (a1)) (l0_2.length : Int)) false a0_0 a0_1 l0_2))) = some r := by rw [if_pos rfl] at H; exact H
           clear H
           have H := H1
           clear H1
           replace H := Option.bind_eq_some_iff.mp H
           obtain ⟨t276, A430, H⟩ := H
           replace H : (if t276 = true then ((dom_Is.f kj15 a0_0 a0_1 l0_2 (Int.tmod (wrap64 (a1)) (l0_2.length : Int)) (Int.tmod (wrap64 (a2)) (l0_2.length : Int))).bind fun t277 => (if t277 = true then (davitlaw08_DomOver.j2 kj15 l4 (Int.tmod (wrap64 (a1)) (l0_2.length : Int)) false a0_0 a0_1 l0_2) else ((dom_Is.f kj15 a0_0 a0_1 l0_2 (Int.tmod (wrap64 (a2)) (l0_2.length : Int)) (Int.tmod (wrap64 (a1)) (l0_2.length : Int))).bind fun t278 => (davitlaw08_DomOver.j2 kj15 l4 (Int.tmod (wrap64 (a1)) (l0_2.length : Int)) (!t278) a0_0 a0_1 l0_2)))) else (davitlaw08_DomOver.j2 kj15 l4 (Int.tmod (wrap64 (a1)) (l0_2.length : Int)) false a0_0 a0_1 l0_2)) = some r := H
           have A43 := Aside0.mk A430
           clear A430
           by_cases c44 : t276 = true
           ·subst c44
            have H1 : ((dom_Is.f kj15 a0_0 a0_1 l0_2 (Int.tmod (wrap64 (a1)) (l0_2.length : Int)) (Int.tmod (wrap64 (a2)) (l0_2.length : Int))).bind fun t277 => (if t277 = true then (davitlaw08_DomOver.j2 kj15 l4 (Int.tmod (wrap64 (a1)) (l0_2.length : Int)) false a0_0 a0_1 l0_2) else ((dom_Is.f kj15 a0_0 a0_1 l0_2 (Int.tmod (wrap64 (a2)) (l0_2.length : Int)) (Int.tmod (wrap64 (a1)) (l0_2.length : Int))).bind fun t278 => (davitlaw08_DomOver.j2 kj15 l4 (Int.tmod (wrap64 (a1)) (l0_2.length : Int)) (!t278) a0_0 a0_1 l0_2)))) = some r := by rw [if_pos rfl] at H; exact H
            clear H
            have H := H1
            clear H1
            replace H := Option.bind_eq_some_iff.mp H
            obtain ⟨t277, A450, H⟩ := H
            replace H : (if t277 = true then (davitlaw08_DomOver.j2 kj15 l4 (Int.tmod (wrap64 (a1)) (l0_2.length : Int)) false a0_0 a0_1 l0_2) else ((dom_Is.f kj15 a0_0 a0_1 l0_2 (Int.tmod (wrap64 (a2)) (l0_2.length : Int)) (Int.tmod (wrap64 (a1)) (l0_2.length : Int))).bind fun t278 => (davitlaw08_DomOver.j2 kj15 l4 (Int.tmod (wrap64 (a1)) (l0_2.length : Int)) (!t278) a0_0 a0_1 l0_2))) = some r := H
            have A45 := Aside0.mk A450
            clear A450
            by_cases c46 : t277 = true
            ·subst c46
             have H1 : (davitlaw08_DomOver.j2 kj15 l4 (Int.tmod (wrap64 (a1)) (l0_2.length : Int)) false a0_0 a0_1 l0_2) = some r := by rw [if_pos rfl] at H; exact H
             clear H
             have H := H1
             clear H1
             have H' := Aside0.mk H
             clear H
             have hcz47_0 : wc.cell? ⟨gb263, 0, none⟩ = some (.int .i64 a0_0) := (blk_cell BK263.out 0).trans rfl
             have hcz47_1 : wc.cell? ⟨gb263, 1, none⟩ = some (.int .i64 a0_1) := (blk_cell BK263.out 1).trans rfl
             have hcz47_2 : wc.cell? ⟨gb263, 2, none⟩ = some (.slice A0_2 l0_2.length c0_2) := (blk_cell BK263.out 2).trans rfl
             have hfz47_0 := blk_frozen BK263.out 0
             have hfz47_1 := blk_frozen BK263.out 1
             have hfz47_2 := blk_frozen BK263.out 2
             go_wp2_with (first | ((with_reducible refine gate_callee (f := 15) rfl ?_); refine goesL_ (some 70) rfl rfl Try.func15 (by kernel_rfl) rfl #[.agg #[.int .i64 a0_0, .int .i64 a0_1, .slice A0_2 l0_2.length c0_2], .int .i64 (Int.tmod (wrap64 (a1)) (l0_2.length : Int)), .int .i64 (Int.tmod (wrap64 (a3)) (l0_2.length : Int))] rfl (by (try simp only [List.map_toArray, List.map_cons, List.map_nil]); first | done | rfl | (simp only [List.length_drop, List.length_take]; rfl)) ?_; (with_reducible refine (dom_Is.calls kj15 a0_0 a0_1 _ _ l0_2 (Int.tmod (wrap64 (a1)) (l0_2.length : Int)) (Int.tmod (wrap64 (a3)) (l0_2.length : Int)) true _ ?side1 ?side2 A41.out).mono ?_); (case side1 => repeat (first | exact (Kd.C_below HR0_2.out HB.out) | (with_reducible refine Kd.C_alloc ?_ _) | (with_reducible refine Kd.C_drewN ?_ _) | (with_reducible refine Kd.C_drew ?_))); (case side2 => exact HC0_2.out); rintro e w48 ⟨rfl, hb⟩; refine ⟨_, rfl, ?_⟩; have n0_ := Aside0.mk (blk_below (g := gb263) (o := .cells #[.int .i64 a0_0, .int .i64 a0_1, .slice A0_2 l0_2.length c0_2] 24 (0, 0)) (by (with_reducible repeat (first | refine blk_drewN ?_ _ | refine blk_drew ?_ | refine blk_alloc ?_ _)); exact BK263.out) hb); have n1_ := Aside0.mk (below_step (by repeat (first | (with_reducible first | exact HB.out | apply below_alloc | apply pw_below_drewN | apply below_drew1 | refine below_set ?_ GE263.out) | exact HB.out)) hb); clear BK263; clear HB; have BK263 := n0_; have HB := n1_; clear n0_ n1_; (try clear hb); (try clear hb2); (try clear hk); (try clear hi); have hcz49_0 : w48.cell? ⟨gb263, 0, none⟩ = some (.int .i64 a0_0) := (blk_cell BK263.out 0).trans rfl; have hcz49_1 : w48.cell? ⟨gb263, 1, none⟩ = some (.int .i64 a0_1) := (blk_cell BK263.out 1).trans rfl; have hcz49_2 : w48.cell? ⟨gb263, 2, none⟩ = some (.slice A0_2 l0_2.length c0_2) := (blk_cell BK263.out 2).trans rfl; have hfz49_0 := blk_frozen BK263.out 0; have hfz49_1 := blk_frozen BK263.out 1; have hfz49_2 := blk_frozen BK263.out 2) | (go_at_call 15; (with_reducible refine (dom_Is.calls kj15 a0_0 a0_1 _ _ l0_2 (Int.tmod (wrap64 (a2)) (l0_2.length : Int)) (Int.tmod (wrap64 (a3)) (l0_2.length : Int)) true _ ?side1 ?side2 A43.out).mono ?_); (case side1 => repeat (first | exact (Kd.C_below HR0_2.out HB.out) | (with_reducible refine Kd.C_alloc ?_ _) | (with_reducible refine Kd.C_drewN ?_ _) | (with_reducible refine Kd.C_drew ?_))); (case side2 => exact HC0_2.out); rintro e w50 ⟨rfl, hb⟩; have n0_ := Aside0.mk (blk_below (g := gb263) (o := .cells #[.int .i64 a0_0, .int .i64 a0_1, .slice A0_2 l0_2.length c0_2] 24 (0, 0)) (by (with_reducible repeat (first | refine blk_drewN ?_ _ | refine blk_drew ?_ | refine blk_alloc ?_ _)); exact BK263.out) hb); have n1_ := Aside0.mk (below_step (by repeat (first | (with_reducible first | exact HB.out | apply below_alloc | apply pw_below_drewN | apply below_drew1 | refine below_set ?_ GE263.out) | exact HB.out)) hb); clear BK263; clear HB; have BK263 := n0_; have HB := n1_; clear n0_ n1_; (try clear hb); (try clear hb2); (try clear hk); (try clear hi); have hcz51_0 : w50.cell? ⟨gb263, 0, none⟩ = some (.int .i64 a0_0) := (blk_cell BK263.out 0).trans rfl; have hcz51_1 : w50.cell? ⟨gb263, 1, none⟩ = some (.int .i64 a0_1) := (blk_cell BK263.out 1).trans rfl; have hcz51_2 : w50.cell? ⟨gb263, 2, none⟩ = some (.slice A0_2 l0_2.length c0_2) := (blk_cell BK263.out 2).trans rfl; have hfz51_0 := blk_frozen BK263.out 0; have hfz51_1 := blk_frozen BK263.out 1; have hfz51_2 := blk_frozen BK263.out 2) | (go_at_call 15; (with_reducible refine (dom_Is.calls kj15 a0_0 a0_1 _ _ l0_2 (Int.tmod (wrap64 (a1)) (l0_2.length : Int)) (Int.tmod (wrap64 (a2)) (l0_2.length : Int)) true _ ?side1 ?side2 A45.out).mono ?_); (case side1 => repeat (first | exact (Kd.C_below HR0_2.out HB.out) | (with_reducible refine Kd.C_alloc ?_ _) | (with_reducible refine Kd.C_drewN ?_ _) | (with_reducible refine Kd.C_drew ?_))); (case side2 => exact HC0_2.out); rintro e w52 ⟨rfl, hb⟩; have n0_ := Aside0.mk (blk_below (g := gb263) (o := .cells #[.int .i64 a0_0, .int .i64 a0_1, .slice A0_2 l0_2.length c0_2] 24 (0, 0)) (by (with_reducible repeat (first | refine blk_drewN ?_ _ | refine blk_drew ?_ | refine blk_alloc ?_ _)); exact BK263.out) hb); have n1_ := Aside0.mk (below_step (by repeat (first | (with_reducible first | exact HB.out | apply below_alloc | apply pw_below_drewN | apply below_drew1 | refine below_set ?_ GE263.out) | exact HB.out)) hb); clear BK263; clear HB; have BK263 := n0_; have HB := n1_; clear n0_ n1_; (try clear hb); (try clear hb2); (try clear hk); (try clear hi)))
             go_meet
             case rel => exact ⟨_, (false), (by first | rfl | (simp; done) | (simp [*]; done)), H', ⟨by have := HJ7.out; have := HJ15.out; first | omega | exact Nat.le_refl _⟩, ⟨by (with_reducible repeat (first | refine blk_drewN ?_ _ | refine blk_drew ?_ | refine blk_alloc ?_ _)); exact BK263.out⟩, ⟨by repeat (first | (with_reducible first | exact HB.out | apply below_alloc | apply pw_below_drewN | apply below_drew1 | refine below_set ?_ GE263.out) | exact HB.out)⟩⟩
            ·replace c46 := Bool.eq_false_iff.mpr c46
             subst c46
             have H1 : ((dom_Is.f kj15 a0_0 a0_1 l0_2 (Int.tmod (wrap64 (a2)) (l0_2.length : Int)) (Int.tmod (wrap64 (a1)) (l0_2.length : Int))).bind fun t278 => (davitlaw08_DomOver.j2 kj15 l4 (Int.tmod (wrap64 (a1)) (l0_2.length : Int)) (!t278) a0_0 a0_1 l0_2)) = some r := by rw [if_neg (show ¬ (false = true) by decide)] at H; exact H
             clear H
             have H := H1
             clear H1
             replace H := Option.bind_eq_some_iff.mp H
             obtain ⟨t278, A530, H⟩ := H
             replace H : (davitlaw08_DomOver.j2 kj15 l4 (Int.tmod (wrap64 (a1)) (l0_2.length : Int)) (!t278) a0_0 a0_1 l0_2) = some r := H
             have A53 := Aside0.mk A530
             clear A530
             have H' := Aside0.mk H
             clear H
             have hcz54_0 : wc.cell? ⟨gb263, 0, none⟩ = some (.int .i64 a0_0) := (blk_cell BK263.out 0).trans rfl
             have hcz54_1 : wc.cell? ⟨gb263, 1, none⟩ = some (.int .i64 a0_1) := (blk_cell BK263.out 1).trans rfl
             have hcz54_2 : wc.cell? ⟨gb263, 2, none⟩ = some (.slice A0_2 l0_2.length c0_2) := (blk_cell BK263.out 2).trans rfl
             have hfz54_0 := blk_frozen BK263.out 0
             have hfz54_1 := blk_frozen BK263.out 1
             have hfz54_2 := blk_frozen BK263.out 2
             go_wp2_with (first | ((with_reducible refine gate_callee (f := 15) rfl ?_); refine goesL_ (some 70) rfl rfl Try.func15 (by kernel_rfl) rfl #[.agg #[.int .i64 a0_0, .int .i64 a0_1, .slice A0_2 l0_2.length c0_2], .int .i64 (Int.tmod (wrap64 (a1)) (l0_2.length : Int)), .int .i64 (Int.tmod (wrap64 (a3)) (l0_2.length : Int))] rfl (by (try simp only [List.map_toArray, List.map_cons, List.map_nil]); first | done | rfl | (simp only [List.length_drop, List.length_take]; rfl)) ?_; (with_reducible refine (dom_Is.calls kj15 a0_0 a0_1 _ _ l0_2 (Int.tmod (wrap64 (a1)) (l0_2.length : Int)) (Int.tmod (wrap64 (a3)) (l0_2.length : Int)) true _ ?side1 ?side2 A41.out).mono ?_); (case side1 => repeat (first | exact (Kd.C_below HR0_2.out HB.out) | (with_reducible refine Kd.C_alloc ?_ _) | (with_reducible refine Kd.C_drewN ?_ _) | (with_reducible refine Kd.C_drew ?_))); (case side2 => exact HC0_2.out); rintro e w55 ⟨rfl, hb⟩; refine ⟨_, rfl, ?_⟩; have n0_ := Aside0.mk (blk_below (g := gb263) (o := .cells #[.int .i64 a0_0, .int .i64 a0_1, .slice A0_2 l0_2.length c0_2] 24 (0, 0)) (by (with_reducible repeat (first | refine blk_drewN ?_ _ | refine blk_drew ?_ | refine blk_alloc ?_ _)); exact BK263.out) hb); have n1_ := Aside0.mk (below_step (by repeat (first | (with_reducible first | exact HB.out | apply below_alloc | apply pw_below_drewN | apply below_drew1 | refine below_set ?_ GE263.out) | exact HB.out)) hb); clear BK263; clear HB; have BK263 := n0_; have HB := n1_; clear n0_ n1_; (try clear hb); (try clear hb2); (try clear hk); (try clear hi); have hcz56_0 : w55.cell? ⟨gb263, 0, none⟩ = some (.int .i64 a0_0) := (blk_cell BK263.out 0).trans rfl; have hcz56_1 : w55.cell? ⟨gb263, 1, none⟩ = some (.int .i64 a0_1) := (blk_cell BK263.out 1).trans rfl; have hcz56_2 : w55.cell? ⟨gb263, 2, none⟩ = some (.slice A0_2 l0_2.length c0_2) := (blk_cell BK263.out 2).trans rfl; have hfz56_0 := blk_frozen BK263.out 0; have hfz56_1 := blk_frozen BK263.out 1; have hfz56_2 := blk_frozen BK263.out 2) | (go_at_call 15; (with_reducible refine (dom_Is.calls kj15 a0_0 a0_1 _ _ l0_2 (Int.tmod (wrap64 (a2)) (l0_2.length : Int)) (Int.tmod (wrap64 (a3)) (l0_2.length : Int)) true _ ?side1 ?side2 A43.out).mono ?_); (case side1 => repeat (first | exact (Kd.C_below HR0_2.out HB.out) | (with_reducible refine Kd.C_alloc ?_ _) | (with_reducible refine Kd.C_drewN ?_ _) | (with_reducible refine Kd.C_drew ?_))); (case side2 => exact HC0_2.out); rintro e w57 ⟨rfl, hb⟩; have n0_ := Aside0.mk (blk_below (g := gb263) (o := .cells #[.int .i64 a0_0, .int .i64 a0_1, .slice A0_2 l0_2.length c0_2] 24 (0, 0)) (by (with_reducible repeat (first | refine blk_drewN ?_ _ | refine blk_drew ?_ | refine blk_alloc ?_ _)); exact BK263.out) hb); have n1_ := Aside0.mk (below_step (by repeat (first | (with_reducible first | exact HB.out | apply below_alloc | apply pw_below_drewN | apply below_drew1 | refine below_set ?_ GE263.out) | exact HB.out)) hb); clear BK263; clear HB; have BK263 := n0_; have HB := n1_; clear n0_ n1_; (try clear hb); (try clear hb2); (try clear hk); (try clear hi); have hcz58_0 : w57.cell? ⟨gb263, 0, none⟩ = some (.int .i64 a0_0) := (blk_cell BK263.out 0).trans rfl; have hcz58_1 : w57.cell? ⟨gb263, 1, none⟩ = some (.int .i64 a0_1) := (blk_cell BK263.out 1).trans rfl; have hcz58_2 : w57.cell? ⟨gb263, 2, none⟩ = some (.slice A0_2 l0_2.length c0_2) := (blk_cell BK263.out 2).trans rfl; have hfz58_0 := blk_frozen BK263.out 0; have hfz58_1 := blk_frozen BK263.out 1; have hfz58_2 := blk_frozen BK263.out 2) | (go_at_call 15; (with_reducible refine (dom_Is.calls kj15 a0_0 a0_1 _ _ l0_2 (Int.tmod (wrap64 (a1)) (l0_2.length : Int)) (Int.tmod (wrap64 (a2)) (l0_2.length : Int)) false _ ?side1 ?side2 A45.out).mono ?_); (case side1 => repeat (first | exact (Kd.C_below HR0_2.out HB.out) | (with_reducible refine Kd.C_alloc ?_ _) | (with_reducible refine Kd.C_drewN ?_ _) | (with_reducible refine Kd.C_drew ?_))); (case side2 => exact HC0_2.out); rintro e w59 ⟨rfl, hb⟩; have n0_ := Aside0.mk (blk_below (g := gb263) (o := .cells #[.int .i64 a0_0, .int .i64 a0_1, .slice A0_2 l0_2.length c0_2] 24 (0, 0)) (by (with_reducible repeat (first | refine blk_drewN ?_ _ | refine blk_drew ?_ | refine blk_alloc ?_ _)); exact BK263.out) hb); have n1_ := Aside0.mk (below_step (by repeat (first | (with_reducible first | exact HB.out | apply below_alloc | apply pw_below_drewN | apply below_drew1 | refine below_set ?_ GE263.out) | exact HB.out)) hb); clear BK263; clear HB; have BK263 := n0_; have HB := n1_; clear n0_ n1_; (try clear hb); (try clear hb2); (try clear hk); (try clear hi); have hcz60_0 : w59.cell? ⟨gb263, 0, none⟩ = some (.int .i64 a0_0) := (blk_cell BK263.out 0).trans rfl; have hcz60_1 : w59.cell? ⟨gb263, 1, none⟩ = some (.int .i64 a0_1) := (blk_cell BK263.out 1).trans rfl; have hcz60_2 : w59.cell? ⟨gb263, 2, none⟩ = some (.slice A0_2 l0_2.length c0_2) := (blk_cell BK263.out 2).trans rfl; have hfz60_0 := blk_frozen BK263.out 0; have hfz60_1 := blk_frozen BK263.out 1; have hfz60_2 := blk_frozen BK263.out 2) | (go_at_call 15; (with_reducible refine (dom_Is.calls kj15 a0_0 a0_1 _ _ l0_2 (Int.tmod (wrap64 (a2)) (l0_2.length : Int)) (Int.tmod (wrap64 (a1)) (l0_2.length : Int)) t278 _ ?side1 ?side2 A53.out).mono ?_); (case side1 => repeat (first | exact (Kd.C_below HR0_2.out HB.out) | (with_reducible refine Kd.C_alloc ?_ _) | (with_reducible refine Kd.C_drewN ?_ _) | (with_reducible refine Kd.C_drew ?_))); (case side2 => exact HC0_2.out); rintro e w61 ⟨rfl, hb⟩; have n0_ := Aside0.mk (blk_below (g := gb263) (o := .cells #[.int .i64 a0_0, .int .i64 a0_1, .slice A0_2 l0_2.length c0_2] 24 (0, 0)) (by (with_reducible repeat (first | refine blk_drewN ?_ _ | refine blk_drew ?_ | refine blk_alloc ?_ _)); exact BK263.out) hb); have n1_ := Aside0.mk (below_step (by repeat (first | (with_reducible first | exact HB.out | apply below_alloc | apply pw_below_drewN | apply below_drew1 | refine below_set ?_ GE263.out) | exact HB.out)) hb); clear BK263; clear HB; have BK263 := n0_; have HB := n1_; clear n0_ n1_; (try clear hb); (try clear hb2); (try clear hk); (try clear hi)))
             go_meet
             case rel => exact ⟨_, (!t278), (by first | rfl | (simp; done) | (simp [*]; done)), H', ⟨by have := HJ7.out; have := HJ15.out; first | omega | exact Nat.le_refl _⟩, ⟨by (with_reducible repeat (first | refine blk_drewN ?_ _ | refine blk_drew ?_ | refine blk_alloc ?_ _)); exact BK263.out⟩, ⟨by repeat (first | (with_reducible first | exact HB.out | apply below_alloc | apply pw_below_drewN | apply below_drew1 | refine below_set ?_ GE263.out) | exact HB.out)⟩⟩
           ·replace c44 := Bool.eq_false_iff.mpr c44
            subst c44
            have H1 : (davitlaw08_DomOver.j2 kj15 l4 (Int.tmod (wrap64 (a1)) (l0_2.length : Int)) false a0_0 a0_1 l0_2) = some r := by rw [if_neg (show ¬ (false = true) by decide)] at H; exact H
            clear H
            have H := H1
            clear H1
            have H' := Aside0.mk H
            clear H
            have hcz62_0 : wc.cell? ⟨gb263, 0, none⟩ = some (.int .i64 a0_0) := (blk_cell BK263.out 0).trans rfl
            have hcz62_1 : wc.cell? ⟨gb263, 1, none⟩ = some (.int .i64 a0_1) := (blk_cell BK263.out 1).trans rfl
            have hcz62_2 : wc.cell? ⟨gb263, 2, none⟩ = some (.slice A0_2 l0_2.length c0_2) := (blk_cell BK263.out 2).trans rfl
            have hfz62_0 := blk_frozen BK263.out 0
            have hfz62_1 := blk_frozen BK263.out 1
            have hfz62_2 := blk_frozen BK263.out 2
            go_wp2_with (first | ((with_reducible refine gate_callee (f := 15) rfl ?_); refine goesL_ (some 70) rfl rfl Try.func15 (by kernel_rfl) rfl #[.agg #[.int .i64 a0_0, .int .i64 a0_1, .slice A0_2 l0_2.length c0_2], .int .i64 (Int.tmod (wrap64 (a1)) (l0_2.length : Int)), .int .i64 (Int.tmod (wrap64 (a3)) (l0_2.length : Int))] rfl (by (try simp only [List.map_toArray, List.map_cons, List.map_nil]); first | done | rfl | (simp only [List.length_drop, List.length_take]; rfl)) ?_; (with_reducible refine (dom_Is.calls kj15 a0_0 a0_1 _ _ l0_2 (Int.tmod (wrap64 (a1)) (l0_2.length : Int)) (Int.tmod (wrap64 (a3)) (l0_2.length : Int)) true _ ?side1 ?side2 A41.out).mono ?_); (case side1 => repeat (first | exact (Kd.C_below HR0_2.out HB.out) | (with_reducible refine Kd.C_alloc ?_ _) | (with_reducible refine Kd.C_drewN ?_ _) | (with_reducible refine Kd.C_drew ?_))); (case side2 => exact HC0_2.out); rintro e w63 ⟨rfl, hb⟩; refine ⟨_, rfl, ?_⟩; have n0_ := Aside0.mk (blk_below (g := gb263) (o := .cells #[.int .i64 a0_0, .int .i64 a0_1, .slice A0_2 l0_2.length c0_2] 24 (0, 0)) (by (with_reducible repeat (first | refine blk_drewN ?_ _ | refine blk_drew ?_ | refine blk_alloc ?_ _)); exact BK263.out) hb); have n1_ := Aside0.mk (below_step (by repeat (first | (with_reducible first | exact HB.out | apply below_alloc | apply pw_below_drewN | apply below_drew1 | refine below_set ?_ GE263.out) | exact HB.out)) hb); clear BK263; clear HB; have BK263 := n0_; have HB := n1_; clear n0_ n1_; (try clear hb); (try clear hb2); (try clear hk); (try clear hi); have hcz64_0 : w63.cell? ⟨gb263, 0, none⟩ = some (.int .i64 a0_0) := (blk_cell BK263.out 0).trans rfl; have hcz64_1 : w63.cell? ⟨gb263, 1, none⟩ = some (.int .i64 a0_1) := (blk_cell BK263.out 1).trans rfl; have hcz64_2 : w63.cell? ⟨gb263, 2, none⟩ = some (.slice A0_2 l0_2.length c0_2) := (blk_cell BK263.out 2).trans rfl; have hfz64_0 := blk_frozen BK263.out 0; have hfz64_1 := blk_frozen BK263.out 1; have hfz64_2 := blk_frozen BK263.out 2) | (go_at_call 15; (with_reducible refine (dom_Is.calls kj15 a0_0 a0_1 _ _ l0_2 (Int.tmod (wrap64 (a2)) (l0_2.length : Int)) (Int.tmod (wrap64 (a3)) (l0_2.length : Int)) false _ ?side1 ?side2 A43.out).mono ?_); (case side1 => repeat (first | exact (Kd.C_below HR0_2.out HB.out) | (with_reducible refine Kd.C_alloc ?_ _) | (with_reducible refine Kd.C_drewN ?_ _) | (with_reducible refine Kd.C_drew ?_))); (case side2 => exact HC0_2.out); rintro e w65 ⟨rfl, hb⟩; have n0_ := Aside0.mk (blk_below (g := gb263) (o := .cells #[.int .i64 a0_0, .int .i64 a0_1, .slice A0_2 l0_2.length c0_2] 24 (0, 0)) (by (with_reducible repeat (first | refine blk_drewN ?_ _ | refine blk_drew ?_ | refine blk_alloc ?_ _)); exact BK263.out) hb); have n1_ := Aside0.mk (below_step (by repeat (first | (with_reducible first | exact HB.out | apply below_alloc | apply pw_below_drewN | apply below_drew1 | refine below_set ?_ GE263.out) | exact HB.out)) hb); clear BK263; clear HB; have BK263 := n0_; have HB := n1_; clear n0_ n1_; (try clear hb); (try clear hb2); (try clear hk); (try clear hi)))
            go_meet
            case rel => exact ⟨_, (false), (by first | rfl | (simp; done) | (simp [*]; done)), H', ⟨by have := HJ7.out; have := HJ15.out; first | omega | exact Nat.le_refl _⟩, ⟨by (with_reducible repeat (first | refine blk_drewN ?_ _ | refine blk_drew ?_ | refine blk_alloc ?_ _)); exact BK263.out⟩, ⟨by repeat (first | (with_reducible first | exact HB.out | apply below_alloc | apply pw_below_drewN | apply below_drew1 | refine below_set ?_ GE263.out) | exact HB.out)⟩⟩
          ·replace c42 := Bool.eq_false_iff.mpr c42
           subst c42
           have H1 : (davitlaw08_DomOver.j2 kj15 l4 (Int.tmod (wrap64 (a1)) (l0_2.length : Int)) false a0_0 a0_1 l0_2) = some r := by rw [if_neg (show ¬ (false = true) by decide)] at H; exact H
           clear H
           have H := H1
           clear H1
           have H' := Aside0.mk H
           clear H
           have hcz66_0 : wc.cell? ⟨gb263, 0, none⟩ = some (.int .i64 a0_0) := (blk_cell BK263.out 0).trans rfl
           have hcz66_1 : wc.cell? ⟨gb263, 1, none⟩ = some (.int .i64 a0_1) := (blk_cell BK263.out 1).trans rfl
           have hcz66_2 : wc.cell? ⟨gb263, 2, none⟩ = some (.slice A0_2 l0_2.length c0_2) := (blk_cell BK263.out 2).trans rfl
           have hfz66_0 := blk_frozen BK263.out 0
           have hfz66_1 := blk_frozen BK263.out 1
           have hfz66_2 := blk_frozen BK263.out 2
           go_wp2_with (first | ((with_reducible refine gate_callee (f := 15) rfl ?_); refine goesL_ (some 70) rfl rfl Try.func15 (by kernel_rfl) rfl #[.agg #[.int .i64 a0_0, .int .i64 a0_1, .slice A0_2 l0_2.length c0_2], .int .i64 (Int.tmod (wrap64 (a1)) (l0_2.length : Int)), .int .i64 (Int.tmod (wrap64 (a3)) (l0_2.length : Int))] rfl (by (try simp only [List.map_toArray, List.map_cons, List.map_nil]); first | done | rfl | (simp only [List.length_drop, List.length_take]; rfl)) ?_; (with_reducible refine (dom_Is.calls kj15 a0_0 a0_1 _ _ l0_2 (Int.tmod (wrap64 (a1)) (l0_2.length : Int)) (Int.tmod (wrap64 (a3)) (l0_2.length : Int)) false _ ?side1 ?side2 A41.out).mono ?_); (case side1 => repeat (first | exact (Kd.C_below HR0_2.out HB.out) | (with_reducible refine Kd.C_alloc ?_ _) | (with_reducible refine Kd.C_drewN ?_ _) | (with_reducible refine Kd.C_drew ?_))); (case side2 => exact HC0_2.out); rintro e w67 ⟨rfl, hb⟩; refine ⟨_, rfl, ?_⟩; have n0_ := Aside0.mk (blk_below (g := gb263) (o := .cells #[.int .i64 a0_0, .int .i64 a0_1, .slice A0_2 l0_2.length c0_2] 24 (0, 0)) (by (with_reducible repeat (first | refine blk_drewN ?_ _ | refine blk_drew ?_ | refine blk_alloc ?_ _)); exact BK263.out) hb); have n1_ := Aside0.mk (below_step (by repeat (first | (with_reducible first | exact HB.out | apply below_alloc | apply pw_below_drewN | apply below_drew1 | refine below_set ?_ GE263.out) | exact HB.out)) hb); clear BK263; clear HB; have BK263 := n0_; have HB := n1_; clear n0_ n1_; (try clear hb); (try clear hb2); (try clear hk); (try clear hi)))
           go_meet
           case rel => exact ⟨_, (false), (by first | rfl | (simp; done) | (simp [*]; done)), H', ⟨by have := HJ7.out; have := HJ15.out; first | omega | exact Nat.le_refl _⟩, ⟨by (with_reducible repeat (first | refine blk_drewN ?_ _ | refine blk_drew ?_ | refine blk_alloc ?_ _)); exact BK263.out⟩, ⟨by repeat (first | (with_reducible first | exact HB.out | apply below_alloc | apply pw_below_drewN | apply below_drew1 | refine below_set ?_ GE263.out) | exact HB.out)⟩⟩
         case rest =>
          clear HC40
          try clear c1
          try clear c2
          try clear p2
          try clear q2
          try clear hx2
          try clear c3
          try clear c4
          try clear p6
          try clear c15
          try clear c19
          try clear c21
          try clear c21b0
          try clear c22
          try clear c22b0
          try clear c24
          try clear c24b0
          try clear c24b1
          try clear c24b2
          try clear p26
          try clear q26
          try clear hx26
          try clear p27
          try clear q27
          try clear hx27
          try clear c30
          try clear c30b0
          try clear c39
          try clear c42
          try clear c44
          try clear c46
          try clear p64
          try clear hcz47_0
          try clear hcz47_1
          try clear hcz47_2
          try clear hcz49_0
          try clear hcz49_1
          try clear hcz49_2
          try clear hcz51_0
          try clear hcz51_1
          try clear hcz51_2
          try clear hcz54_0
          try clear hcz54_1
          try clear hcz54_2
          try clear hcz56_0
          try clear hcz56_1
          try clear hcz56_2
          try clear hcz58_0
          try clear hcz58_1
          try clear hcz58_2
          try clear hcz60_0
          try clear hcz60_1
          try clear hcz60_2
          try clear hcz62_0
          try clear hcz62_1
          try clear hcz62_2
          try clear hcz64_0
          try clear hcz64_1
          try clear hcz64_2
          try clear hcz66_0
          try clear hcz66_1
          try clear hcz66_2
          try clear hfz47_0
          try clear hfz47_1
          try clear hfz47_2
          try clear hfz49_0
          try clear hfz49_1
          try clear hfz49_2
          try clear hfz51_0
          try clear hfz51_1
          try clear hfz51_2
          try clear hfz54_0
          try clear hfz54_1
          try clear hfz54_2
          try clear hfz56_0
          try clear hfz56_1
          try clear hfz56_2
          try clear hfz58_0
          try clear hfz58_1
          try clear hfz58_2
          try clear hfz60_0
          try clear hfz60_1
          try clear hfz60_2
          try clear hfz62_0
          try clear hfz62_1
          try clear hfz62_2
          try clear hfz64_0
          try clear hfz64_1
          try clear hfz64_2
          try clear hfz66_0
          try clear hfz66_1
          try clear hfz66_2
          try clear hx268_0
          try clear hx273_0
          try clear p2
          try clear p26
          try clear p268
          try clear p27
          try clear p273
          try clear p6
          try clear q2
          try clear q26
          try clear q268
          try clear q27
          try clear q273
          obtain ⟨kq, x90_39, rfl, HA, HJ39, BK263, HB⟩ := hcut
          cases kq with
          | zero => exact absurd HA.out (by simp [davitlaw08_DomOver.j2])
          | succ kj39 =>
           have H := HA.out
           clear HA
           simp only [davitlaw08_DomOver.j2] at H
           by_cases c68 : x90_39 = true
           ·subst c68
            have H1 : (some false) = some r := by rw [if_pos rfl] at H; exact H
            clear H
            have H := H1
            clear H1
            obtain rfl := Option.some.inj H
            go_wp2
            go_ret
            exact ⟨by first | rfl | (simp [errW_none, errW_some] <;> rfl) | (simp [*, errW_none, errW_some] <;> rfl), by repeat (first | (with_reducible first | exact HB.out | apply below_alloc | apply pw_below_drewN | apply below_drew1 | refine below_set ?_ GE263.out) | exact HB.out)⟩
           ·replace c68 := Bool.eq_false_iff.mpr c68
            subst c68
            have H1 : (davitlaw08_DomOver.l0 kj39 l4 (Int.tmod (wrap64 (a1)) (l0_2.length : Int)) 0 ((Int.tmod (wrap64 (a1)) (l0_2.length : Int)) == 0) 0 a0_0 a0_1 l0_2) = some r := by rw [if_neg (show ¬ (false = true) by decide)] at H; exact H
            clear H
            have H := H1
            clear H1
            have H' := Aside0.mk H
            clear H
            go_wp2
            go_loopg [15, 16, 17] kj39 (fun kq v15 v16 v17 w' => ∃ (x15_4 : Int) (x16_4 : Bool) (x17_4 : Int), v15 = .int .i64 x15_4 ∧ v16 = .bool x16_4 ∧ v17 = .int .i64 x17_4 ∧ Aside0 (davitlaw08_DomOver.l0 kq l4 (Int.tmod (wrap64 (a1)) (l0_2.length : Int)) x15_4 x16_4 x17_4 a0_0 a0_1 l0_2 = some r) ∧ Aside0 (kq ≤ kj39) ∧ Aside0 (w'.heap[gb263]? = some (.cells #[.int .i64 a0_0, .int .i64 a0_1, (.slice A0_2 l0_2.length c0_2)] 24 (0, 0))) ∧ Aside0 (Below w.heap.size w w'))
            case atStart => exact ⟨(0), (((Int.tmod (wrap64 (a1)) (l0_2.length : Int)) == 0)), (0), (by first | rfl | (simp; done) | (simp [*]; done)), (by first | rfl | (simp; done) | (simp [*]; done)), (by first | rfl | (simp; done) | (simp [*]; done)), H', ⟨Nat.le_refl _⟩, ⟨by (with_reducible repeat (first | refine blk_drewN ?_ _ | refine blk_drew ?_ | refine blk_alloc ?_ _)); exact BK263.out⟩, ⟨by repeat (first | (with_reducible first | exact HB.out | apply below_alloc | apply pw_below_drewN | apply below_drew1 | refine below_set ?_ GE263.out) | exact HB.out)⟩⟩
            case round =>
             clear H'
             try clear c1
             try clear c2
             try clear p2
             try clear q2
             try clear hx2
             try clear c3
             try clear c4
             try clear c6
             try clear p6
             try clear c15
             try clear c19
             try clear c21
             try clear c21b0
             try clear c22
             try clear c22b0
             try clear c24
             try clear c24b0
             try clear c24b1
             try clear c24b2
             try clear p26
             try clear q26
             try clear hx26
             try clear p27
             try clear q27
             try clear hx27
             try clear c30
             try clear c30b0
             try clear c39
             try clear c42
             try clear c44
             try clear c46
             try clear p64
             try clear c68
             try clear hcz47_0
             try clear hcz47_1
             try clear hcz47_2
             try clear hcz49_0
             try clear hcz49_1
             try clear hcz49_2
             try clear hcz51_0
             try clear hcz51_1
             try clear hcz51_2
             try clear hcz54_0
             try clear hcz54_1
             try clear hcz54_2
             try clear hcz56_0
             try clear hcz56_1
             try clear hcz56_2
             try clear hcz58_0
             try clear hcz58_1
             try clear hcz58_2
             try clear hcz60_0
             try clear hcz60_1
             try clear hcz60_2
             try clear hcz62_0
             try clear hcz62_1
             try clear hcz62_2
             try clear hcz64_0
             try clear hcz64_1
             try clear hcz64_2
             try clear hcz66_0
             try clear hcz66_1
             try clear hcz66_2
             try clear hfz47_0
             try clear hfz47_1
             try clear hfz47_2
             try clear hfz49_0
             try clear hfz49_1
             try clear hfz49_2
             try clear hfz51_0
             try clear hfz51_1
             try clear hfz51_2
             try clear hfz54_0
             try clear hfz54_1
             try clear hfz54_2
             try clear hfz56_0
             try clear hfz56_1
             try clear hfz56_2
             try clear hfz58_0
             try clear hfz58_1
             try clear hfz58_2
             try clear hfz60_0
             try clear hfz60_1
             try clear hfz60_2
             try clear hfz62_0
             try clear hfz62_1
             try clear hfz62_2
             try clear hfz64_0
             try clear hfz64_1
             try clear hfz64_2
             try clear hfz66_0
             try clear hfz66_1
             try clear hfz66_2
             try clear hx268_0
             try clear hx273_0
             try clear p2
             try clear p26
             try clear p268
             try clear p27
             try clear p273
             try clear p6
             try clear p64
             try clear q2
             try clear q26
             try clear q268
             try clear q27
             try clear q273
             obtain ⟨x15_4, x16_4, x17_4, rfl, rfl, rfl, HA, HK4, BK263, HB⟩ := hrel
             cases gk with
             | zero => exact absurd HA.out (by simp [davitlaw08_DomOver.l0])
             | succ k4 =>
              have H := HA.out
              clear HA
              simp only [davitlaw08_DomOver.l0] at H
              have HC69 := Aside0.mk H
              clear H
              go_upto_region 13 with (fail)
              go_cut [100] (fun v100 wc => ∃ (kq : Nat) (x100_68 : Bool), v100 = .bool x100_68 ∧ Aside0 (davitlaw08_DomOver.j4 kq l4 (Int.tmod (wrap64 (a1)) (l0_2.length : Int)) x15_4 x16_4 x17_4 x100_68 a0_0 a0_1 l0_2 = some r) ∧ Aside0 (kq ≤ k4) ∧ Aside0 (wc.heap[gb263]? = some (.cells #[.int .i64 a0_0, .int .i64 a0_1, (.slice A0_2 l0_2.length c0_2)] 24 (0, 0))) ∧ Aside0 (Below w.heap.size w wc))
              case first =>
               have H := HC69.out
               clear HC69
               by_cases c70 : x17_4 < (l4.length : Int)
               ·rw [if_pos c70] at H
                have c70b0 : decide (x17_4 < (l4.length : Int)) = true := decide_eq_true c70
                clear c70
                (first | rw [c70b0] | (simp only [i64_w, i32_w]; rw [c70b0]) | skip)
                have H' := Aside0.mk H
                clear H
                go_wp2
                go_meet
                case rel => exact ⟨_, (decide (x17_4 < 100)), (by first | rfl | (simp; done) | (simp [*]; done)), H', ⟨by have := HJ7.out; have := HJ15.out; have := HJ39.out; have := HK4.out; first | omega | exact Nat.le_refl _⟩, ⟨by (with_reducible repeat (first | refine blk_drewN ?_ _ | refine blk_drew ?_ | refine blk_alloc ?_ _)); exact BK263.out⟩, ⟨by repeat (first | (with_reducible first | exact HB.out | apply below_alloc | apply pw_below_drewN | apply below_drew1 | refine below_set ?_ GE263.out) | exact HB.out)⟩⟩
               ·rw [if_neg c70] at H
                have c70b0 : decide (x17_4 < (l4.length : Int)) = false := decide_eq_false c70
                clear c70
                (first | rw [c70b0] | (simp only [i64_w, i32_w]; rw [c70b0]) | skip)
                have H' := Aside0.mk H
                clear H
                go_wp2
                go_meet
                case rel => exact ⟨_, (false), (by first | rfl | (simp; done) | (simp [*]; done)), H', ⟨by have := HJ7.out; have := HJ15.out; have := HJ39.out; have := HK4.out; first | omega | exact Nat.le_refl _⟩, ⟨by (with_reducible repeat (first | refine blk_drewN ?_ _ | refine blk_drew ?_ | refine blk_alloc ?_ _)); exact BK263.out⟩, ⟨by repeat (first | (with_reducible first | exact HB.out | apply below_alloc | apply pw_below_drewN | apply below_drew1 | refine below_set ?_ GE263.out) | exact HB.out)⟩⟩
              case rest =>
               clear HC69
               try clear c1
               try clear c2
               try clear p2
               try clear q2
               try clear hx2
               try clear c3
               try clear c4
               try clear c6
               try clear p6
               try clear c7
               try clear c15
               try clear c19
               try clear c21
               try clear c21b0
               try clear c22
               try clear c22b0
               try clear c24
               try clear c24b0
               try clear c24b1
               try clear c24b2
               try clear p26
               try clear q26
               try clear hx26
               try clear p27
               try clear q27
               try clear hx27
               try clear c30
               try clear c30b0
               try clear c39
               try clear c42
               try clear c44
               try clear c46
               try clear p64
               try clear c68
               try clear c70
               try clear c70b0
               try clear hcz47_0
               try clear hcz47_1
               try clear hcz47_2
               try clear hcz49_0
               try clear hcz49_1
               try clear hcz49_2
               try clear hcz51_0
               try clear hcz51_1
               try clear hcz51_2
               try clear hcz54_0
               try clear hcz54_1
               try clear hcz54_2
               try clear hcz56_0
               try clear hcz56_1
               try clear hcz56_2
               try clear hcz58_0
               try clear hcz58_1
               try clear hcz58_2
               try clear hcz60_0
               try clear hcz60_1
               try clear hcz60_2
               try clear hcz62_0
               try clear hcz62_1
               try clear hcz62_2
               try clear hcz64_0
               try clear hcz64_1
               try clear hcz64_2
               try clear hcz66_0
               try clear hcz66_1
               try clear hcz66_2
               try clear hfz47_0
               try clear hfz47_1
               try clear hfz47_2
               try clear hfz49_0
               try clear hfz49_1
               try clear hfz49_2
               try clear hfz51_0
               try clear hfz51_1
               try clear hfz51_2
               try clear hfz54_0
               try clear hfz54_1
               try clear hfz54_2
               try clear hfz56_0
               try clear hfz56_1
               try clear hfz56_2
               try clear hfz58_0
               try clear hfz58_1
               try clear hfz58_2
               try clear hfz60_0
               try clear hfz60_1
               try clear hfz60_2
               try clear hfz62_0
               try clear hfz62_1
               try clear hfz62_2
               try clear hfz64_0
               try clear hfz64_1
               try clear hfz64_2
               try clear hfz66_0
               try clear hfz66_1
               try clear hfz66_2
               try clear hx268_0
               try clear hx273_0
               try clear p2
               try clear p26
               try clear p268
               try clear p27
               try clear p273
               try clear p6
               try clear p64
               try clear q2
               try clear q26
               try clear q268
               try clear q27
               try clear q273
               obtain ⟨kq, x100_68, rfl, HA, HJ68, BK263, HB⟩ := hcut
               cases kq with
               | zero => exact absurd HA.out (by simp [davitlaw08_DomOver.j4])
               | succ kj68 =>
                have H := HA.out
                clear HA
                simp only [davitlaw08_DomOver.j4] at H
                by_cases c71 : x100_68 = true
                ·subst c71
                 have H1 : ((dom_Is.f kj68 a0_0 a0_1 l0_2 (Int.tmod (wrap64 (a1)) (l0_2.length : Int)) x15_4).bind fun t279 => (if t279 = true then (davitlaw08_DomOver.j5 kj68 l4 (Int.tmod (wrap64 (a1)) (l0_2.length : Int)) x15_4 x16_4 x17_4 (!x16_4) a0_0 a0_1 l0_2) else (davitlaw08_DomOver.j5 kj68 l4 (Int.tmod (wrap64 (a1)) (l0_2.length : Int)) x15_4 x16_4 x17_4 false a0_0 a0_1 l0_2))) = some r := by rw [if_pos rfl] at H; exact H
                 clear H
                 have H := H1
                 clear H1
                 have HC72 := Aside0.mk H
                 clear H
                 go_upto_region 15 with (fail)
                 go_cut [110] (fun v110 wc => ∃ (kq : Nat) (x110_71 : Bool), v110 = .bool x110_71 ∧ Aside0 (davitlaw08_DomOver.j5 kq l4 (Int.tmod (wrap64 (a1)) (l0_2.length : Int)) x15_4 x16_4 x17_4 x110_71 a0_0 a0_1 l0_2 = some r) ∧ Aside0 (kq ≤ kj68) ∧ Aside0 (wc.heap[gb263]? = some (.cells #[.int .i64 a0_0, .int .i64 a0_1, (.slice A0_2 l0_2.length c0_2)] 24 (0, 0))) ∧ Aside0 (Below w.heap.size w wc))
                 case first =>
                  have H := HC72.out
                  clear HC72
                  replace H := Option.bind_eq_some_iff.mp H
                  obtain ⟨t279, A730, H⟩ := H
                  replace H : (if t279 = true then (davitlaw08_DomOver.j5 kj68 l4 (Int.tmod (wrap64 (a1)) (l0_2.length : Int)) x15_4 x16_4 x17_4 (!x16_4) a0_0 a0_1 l0_2) else (davitlaw08_DomOver.j5 kj68 l4 (Int.tmod (wrap64 (a1)) (l0_2.length : Int)) x15_4 x16_4 x17_4 false a0_0 a0_1 l0_2)) = some r := H
                  have A73 := Aside0.mk A730
                  clear A730
                  by_cases c74 : t279 = true
                  ·subst c74
                   have H1 : (davitlaw08_DomOver.j5 kj68 l4 (Int.tmod (wrap64 (a1)) (l0_2.length : Int)) x15_4 x16_4 x17_4 (!x16_4) a0_0 a0_1 l0_2) = some r := by rw [if_pos rfl] at H; exact H
                   clear H
                   have H := H1
                   clear H1
                   have H' := Aside0.mk H
                   clear H
                   have hcz75_0 : wc.cell? ⟨gb263, 0, none⟩ = some (.int .i64 a0_0) := (blk_cell BK263.out 0).trans rfl
                   have hcz75_1 : wc.cell? ⟨gb263, 1, none⟩ = some (.int .i64 a0_1) := (blk_cell BK263.out 1).trans rfl
                   have hcz75_2 : wc.cell? ⟨gb263, 2, none⟩ = some (.slice A0_2 l0_2.length c0_2) := (blk_cell BK263.out 2).trans rfl
                   have hfz75_0 := blk_frozen BK263.out 0
                   have hfz75_1 := blk_frozen BK263.out 1
                   have hfz75_2 := blk_frozen BK263.out 2
                   go_wp2_with (first | ((with_reducible refine gate_callee (f := 15) rfl ?_); refine goesL_ (some 106) rfl rfl Try.func15 (by kernel_rfl) rfl #[.agg #[.int .i64 a0_0, .int .i64 a0_1, .slice A0_2 l0_2.length c0_2], .int .i64 (Int.tmod (wrap64 (a1)) (l0_2.length : Int)), .int .i64 x15_4] rfl (by (try simp only [List.map_toArray, List.map_cons, List.map_nil]); first | done | rfl | (simp only [List.length_drop, List.length_take]; rfl)) ?_; (with_reducible refine (dom_Is.calls kj68 a0_0 a0_1 _ _ l0_2 (Int.tmod (wrap64 (a1)) (l0_2.length : Int)) x15_4 true _ ?side1 ?side2 A73.out).mono ?_); (case side1 => repeat (first | exact (Kd.C_below HR0_2.out HB.out) | (with_reducible refine Kd.C_alloc ?_ _) | (with_reducible refine Kd.C_drewN ?_ _) | (with_reducible refine Kd.C_drew ?_))); (case side2 => exact HC0_2.out); rintro e w76 ⟨rfl, hb⟩; refine ⟨_, rfl, ?_⟩; have n0_ := Aside0.mk (blk_below (g := gb263) (o := .cells #[.int .i64 a0_0, .int .i64 a0_1, .slice A0_2 l0_2.length c0_2] 24 (0, 0)) (by (with_reducible repeat (first | refine blk_drewN ?_ _ | refine blk_drew ?_ | refine blk_alloc ?_ _)); exact BK263.out) hb); have n1_ := Aside0.mk (below_step (by repeat (first | (with_reducible first | exact HB.out | apply below_alloc | apply pw_below_drewN | apply below_drew1 | refine below_set ?_ GE263.out) | exact HB.out)) hb); clear BK263; clear HB; have BK263 := n0_; have HB := n1_; clear n0_ n1_; (try clear hb); (try clear hb2); (try clear hk); (try clear hi)))
                   go_meet
                   case rel => exact ⟨_, (!x16_4), (by first | rfl | (simp; done) | (simp [*]; done)), H', ⟨by have := HJ7.out; have := HJ15.out; have := HJ39.out; have := HK4.out; have := HJ68.out; first | omega | exact Nat.le_refl _⟩, ⟨by (with_reducible repeat (first | refine blk_drewN ?_ _ | refine blk_drew ?_ | refine blk_alloc ?_ _)); exact BK263.out⟩, ⟨by repeat (first | (with_reducible first | exact HB.out | apply below_alloc | apply pw_below_drewN | apply below_drew1 | refine below_set ?_ GE263.out) | exact HB.out)⟩⟩
                  ·replace c74 := Bool.eq_false_iff.mpr c74
                   subst c74
                   have H1 : (davitlaw08_DomOver.j5 kj68 l4 (Int.tmod (wrap64 (a1)) (l0_2.length : Int)) x15_4 x16_4 x17_4 false a0_0 a0_1 l0_2) = some r := by rw [if_neg (show ¬ (false = true) by decide)] at H; exact H
                   clear H
                   have H := H1
                   clear H1
                   have H' := Aside0.mk H
                   clear H
                   have hcz77_0 : wc.cell? ⟨gb263, 0, none⟩ = some (.int .i64 a0_0) := (blk_cell BK263.out 0).trans rfl
                   have hcz77_1 : wc.cell? ⟨gb263, 1, none⟩ = some (.int .i64 a0_1) := (blk_cell BK263.out 1).trans rfl
                   have hcz77_2 : wc.cell? ⟨gb263, 2, none⟩ = some (.slice A0_2 l0_2.length c0_2) := (blk_cell BK263.out 2).trans rfl
                   have hfz77_0 := blk_frozen BK263.out 0
                   have hfz77_1 := blk_frozen BK263.out 1
                   have hfz77_2 := blk_frozen BK263.out 2
                   go_wp2_with (first | ((with_reducible refine gate_callee (f := 15) rfl ?_); refine goesL_ (some 106) rfl rfl Try.func15 (by kernel_rfl) rfl #[.agg #[.int .i64 a0_0, .int .i64 a0_1, .slice A0_2 l0_2.length c0_2], .int .i64 (Int.tmod (wrap64 (a1)) (l0_2.length : Int)), .int .i64 x15_4] rfl (by (try simp only [List.map_toArray, List.map_cons, List.map_nil]); first | done | rfl | (simp only [List.length_drop, List.length_take]; rfl)) ?_; (with_reducible refine (dom_Is.calls kj68 a0_0 a0_1 _ _ l0_2 (Int.tmod (wrap64 (a1)) (l0_2.length : Int)) x15_4 false _ ?side1 ?side2 A73.out).mono ?_); (case side1 => repeat (first | exact (Kd.C_below HR0_2.out HB.out) | (with_reducible refine Kd.C_alloc ?_ _) | (with_reducible refine Kd.C_drewN ?_ _) | (with_reducible refine Kd.C_drew ?_))); (case side2 => exact HC0_2.out); rintro e w78 ⟨rfl, hb⟩; refine ⟨_, rfl, ?_⟩; have n0_ := Aside0.mk (blk_below (g := gb263) (o := .cells #[.int .i64 a0_0, .int .i64 a0_1, .slice A0_2 l0_2.length c0_2] 24 (0, 0)) (by (with_reducible repeat (first | refine blk_drewN ?_ _ | refine blk_drew ?_ | refine blk_alloc ?_ _)); exact BK263.out) hb); have n1_ := Aside0.mk (below_step (by repeat (first | (with_reducible first | exact HB.out | apply below_alloc | apply pw_below_drewN | apply below_drew1 | refine below_set ?_ GE263.out) | exact HB.out)) hb); clear BK263; clear HB; have BK263 := n0_; have HB := n1_; clear n0_ n1_; (try clear hb); (try clear hb2); (try clear hk); (try clear hi)))
                   go_meet
                   case rel => exact ⟨_, (false), (by first | rfl | (simp; done) | (simp [*]; done)), H', ⟨by have := HJ7.out; have := HJ15.out; have := HJ39.out; have := HK4.out; have := HJ68.out; first | omega | exact Nat.le_refl _⟩, ⟨by (with_reducible repeat (first | refine blk_drewN ?_ _ | refine blk_drew ?_ | refine blk_alloc ?_ _)); exact BK263.out⟩, ⟨by repeat (first | (with_reducible first | exact HB.out | apply below_alloc | apply pw_below_drewN | apply below_drew1 | refine below_set ?_ GE263.out) | exact HB.out)⟩⟩
                 case rest =>
                  clear HC72
                  try clear c1
                  try clear c2
                  try clear p2
                  try clear q2
                  try clear hx2
                  try clear c3
                  try clear c4
                  try clear c6
                  try clear p6
                  try clear c7
                  try clear c15
                  try clear c19
                  try clear c21
                  try clear c21b0
                  try clear c22
                  try clear c22b0
                  try clear c24
                  try clear c24b0
                  try clear c24b1
                  try clear c24b2
                  try clear p26
                  try clear q26
                  try clear hx26
                  try clear p27
                  try clear q27
                  try clear hx27
                  try clear c30
                  try clear c30b0
                  try clear c39
                  try clear c42
                  try clear c44
                  try clear c46
                  try clear p64
                  try clear c68
                  try clear c70
                  try clear c70b0
                  try clear c71
                  try clear c74
                  try clear hcz47_0
                  try clear hcz47_1
                  try clear hcz47_2
                  try clear hcz49_0
                  try clear hcz49_1
                  try clear hcz49_2
                  try clear hcz51_0
                  try clear hcz51_1
                  try clear hcz51_2
                  try clear hcz54_0
                  try clear hcz54_1
                  try clear hcz54_2
                  try clear hcz56_0
                  try clear hcz56_1
                  try clear hcz56_2
                  try clear hcz58_0
                  try clear hcz58_1
                  try clear hcz58_2
                  try clear hcz60_0
                  try clear hcz60_1
                  try clear hcz60_2
                  try clear hcz62_0
                  try clear hcz62_1
                  try clear hcz62_2
                  try clear hcz64_0
                  try clear hcz64_1
                  try clear hcz64_2
                  try clear hcz66_0
                  try clear hcz66_1
                  try clear hcz66_2
                  try clear hcz75_0
                  try clear hcz75_1
                  try clear hcz75_2
                  try clear hcz77_0
                  try clear hcz77_1
                  try clear hcz77_2
                  try clear hfz47_0
                  try clear hfz47_1
                  try clear hfz47_2
                  try clear hfz49_0
                  try clear hfz49_1
                  try clear hfz49_2
                  try clear hfz51_0
                  try clear hfz51_1
                  try clear hfz51_2
                  try clear hfz54_0
                  try clear hfz54_1
                  try clear hfz54_2
                  try clear hfz56_0
                  try clear hfz56_1
                  try clear hfz56_2
                  try clear hfz58_0
                  try clear hfz58_1
                  try clear hfz58_2
                  try clear hfz60_0
                  try clear hfz60_1
                  try clear hfz60_2
                  try clear hfz62_0
                  try clear hfz62_1
                  try clear hfz62_2
                  try clear hfz64_0
                  try clear hfz64_1
                  try clear hfz64_2
                  try clear hfz66_0
                  try clear hfz66_1
                  try clear hfz66_2
                  try clear hfz75_0
                  try clear hfz75_1
                  try clear hfz75_2
                  try clear hfz77_0
                  try clear hfz77_1
                  try clear hfz77_2
                  try clear hx268_0
                  try clear hx273_0
                  try clear p2
                  try clear p26
                  try clear p268
                  try clear p27
                  try clear p273
                  try clear p6
                  try clear p64
                  try clear q2
                  try clear q26
                  try clear q268
                  try clear q27
                  try clear q273
                  obtain ⟨kq, x110_71, rfl, HA, HJ71, BK263, HB⟩ := hcut
                  cases kq with
                  | zero => exact absurd HA.out (by simp [davitlaw08_DomOver.j5])
                  | succ kj71 =>
                   have H := HA.out
                   clear HA
                   simp only [davitlaw08_DomOver.j5] at H
                   by_cases c79 : x110_71 = true
                   ·subst c79
                    have H1 : (some false) = some r := by rw [if_pos rfl] at H; exact H
                    clear H
                    have H := H1
                    clear H1
                    obtain rfl := Option.some.inj H
                    go_wp2
                    go_ret
                    exact ⟨by first | rfl | (simp [errW_none, errW_some] <;> rfl) | (simp [*, errW_none, errW_some] <;> rfl), by repeat (first | (with_reducible first | exact HB.out | apply below_alloc | apply pw_below_drewN | apply below_drew1 | refine below_set ?_ GE263.out) | exact HB.out)⟩
                   ·replace c79 := Bool.eq_false_iff.mpr c79
                    subst c79
                    have H1 : ((flow_Next.f a0_0 a0_1 l0_2 x15_4).bind fun t280 => (if (t280.length : Int) = 0 then (some true) else (if 0 ≤ x17_4 then (if x17_4 < (l4.length : Int) then (if 0 ≤ (Int.tmod (wrap64 (rd l4 x17_4)) (t280.length : Int)) then (if (Int.tmod (wrap64 (rd l4 x17_4)) (t280.length : Int)) < (t280.length : Int) then (if x16_4 = true then (davitlaw08_DomOver.l0 kj71 l4 (Int.tmod (wrap64 (a1)) (l0_2.length : Int)) (rd t280 (Int.tmod (wrap64 (rd l4 x17_4)) (t280.length : Int))) true (wrap64 (x17_4 + 1)) a0_0 a0_1 l0_2) else (davitlaw08_DomOver.l0 kj71 l4 (Int.tmod (wrap64 (a1)) (l0_2.length : Int)) (rd t280 (Int.tmod (wrap64 (rd l4 x17_4)) (t280.length : Int))) ((rd t280 (Int.tmod (wrap64 (rd l4 x17_4)) (t280.length : Int))) == (Int.tmod (wrap64 (a1)) (l0_2.length : Int))) (wrap64 (x17_4 + 1)) a0_0 a0_1 l0_2)) else (none)) else (none)) else (none)) else (none)))) = some r := by rw [if_neg (show ¬ (false = true) by decide)] at H; exact H
                    clear H
                    have H := H1
                    clear H1
                    replace H := Option.bind_eq_some_iff.mp H
                    obtain ⟨t280, A800, H⟩ := H
                    replace H : (if (t280.length : Int) = 0 then (some true) else (if 0 ≤ x17_4 then (if x17_4 < (l4.length : Int) then (if 0 ≤ (Int.tmod (wrap64 (rd l4 x17_4)) (t280.length : Int)) then (if (Int.tmod (wrap64 (rd l4 x17_4)) (t280.length : Int)) < (t280.length : Int) then (if x16_4 = true then (davitlaw08_DomOver.l0 kj71 l4 (Int.tmod (wrap64 (a1)) (l0_2.length : Int)) (rd t280 (Int.tmod (wrap64 (rd l4 x17_4)) (t280.length : Int))) true (wrap64 (x17_4 + 1)) a0_0 a0_1 l0_2) else (davitlaw08_DomOver.l0 kj71 l4 (Int.tmod (wrap64 (a1)) (l0_2.length : Int)) (rd t280 (Int.tmod (wrap64 (rd l4 x17_4)) (t280.length : Int))) ((rd t280 (Int.tmod (wrap64 (rd l4 x17_4)) (t280.length : Int))) == (Int.tmod (wrap64 (a1)) (l0_2.length : Int))) (wrap64 (x17_4 + 1)) a0_0 a0_1 l0_2)) else (none)) else (none)) else (none)) else (none))) = some r := H
                    have A80 := Aside0.mk A800
                    clear A800
                    by_cases c81 : (t280.length : Int) = 0
                    ·rw [if_pos c81] at H
                     have c81b0 : ((t280.length : Int) == 0) = true := beq_iff_eq.mpr c81
                     have c81b1 : ((t280.length : Int) != 0) = false := bne_eq_false_iff_eq.mpr c81
                     clear c81
                     obtain rfl := Option.some.inj H
                     have hcz82_0 : wc.cell? ⟨gb263, 0, none⟩ = some (.int .i64 a0_0) := (blk_cell BK263.out 0).trans rfl
                     have hcz82_1 : wc.cell? ⟨gb263, 1, none⟩ = some (.int .i64 a0_1) := (blk_cell BK263.out 1).trans rfl
                     have hcz82_2 : wc.cell? ⟨gb263, 2, none⟩ = some (.slice A0_2 l0_2.length c0_2) := (blk_cell BK263.out 2).trans rfl
                     have hfz82_0 := blk_frozen BK263.out 0
                     have hfz82_1 := blk_frozen BK263.out 1
                     have hfz82_2 := blk_frozen BK263.out 2
                     go_wp2_with (first | ((with_reducible refine gate_callee (f := 20) rfl ?_); refine goesL_ (some 113) rfl rfl Try.func20 (by kernel_rfl) rfl #[.agg #[.int .i64 a0_0, .int .i64 a0_1, .slice A0_2 l0_2.length c0_2], .int .i64 x15_4] rfl (by (try simp only [List.map_toArray, List.map_cons, List.map_nil]); first | done | rfl | (simp only [List.length_drop, List.length_take]; rfl)) ?_; (with_reducible refine (flow_Next.calls a0_0 a0_1 _ _ l0_2 x15_4 t280 _ ?side1 ?side2 A80.out).mono ?_); (case side1 => repeat (first | exact (Kd.C_below HR0_2.out HB.out) | (with_reducible refine Kd.C_alloc ?_ _) | (with_reducible refine Kd.C_drewN ?_ _) | (with_reducible refine Kd.C_drew ?_))); (case side2 => exact HC0_2.out); rintro e w83 ⟨v281, rfl, ho0, hb⟩; refine ⟨_, rfl, ?_⟩; have n0_ := Aside0.mk (Kd.R_lower ho0 (below_size (by repeat (first | (with_reducible first | exact HB.out | apply below_alloc | apply pw_below_drewN | apply below_drew1 | refine below_set ?_ GE263.out) | exact HB.out)))); have n1_ := Aside0.mk (blk_below (g := gb263) (o := .cells #[.int .i64 a0_0, .int .i64 a0_1, .slice A0_2 l0_2.length c0_2] 24 (0, 0)) (by (with_reducible repeat (first | refine blk_drewN ?_ _ | refine blk_drew ?_ | refine blk_alloc ?_ _)); exact BK263.out) hb); have n2_ := Aside0.mk (below_step (by repeat (first | (with_reducible first | exact HB.out | apply below_alloc | apply pw_below_drewN | apply below_drew1 | refine below_set ?_ GE263.out) | exact HB.out)) hb); clear BK263; clear HB; have HO282 := n0_; have BK263 := n1_; have HB := n2_; clear n0_ n1_ n2_; (try clear hb); (try clear hb2); (try clear hk); (try clear hi); (try clear ho0); obtain ⟨Ao84, co84, eo84⟩ := Kd.R_slice HO282.out; subst eo84))
                     go_ret
                     exact ⟨by first | rfl | (simp [errW_none, errW_some] <;> rfl) | (simp [*, errW_none, errW_some] <;> rfl), by repeat (first | (with_reducible first | exact HB.out | apply below_alloc | apply pw_below_drewN | apply below_drew1 | refine below_set ?_ GE263.out) | exact HB.out)⟩
                    ·rw [if_neg c81] at H
                     have c81b0 : ((t280.length : Int) == 0) = false := beq_eq_false_iff_ne.mpr c81
                     have c81b1 : ((t280.length : Int) != 0) = true := bne_iff_ne.mpr c81
                     have c81b2 : ¬ (t280 = []) := fun h_ => c81 (by rw [h_]; rfl)
                     by_cases c85 : 0 ≤ x17_4
                     ·rw [if_pos c85] at H
                      have c85b0 : decide (0 ≤ x17_4) = true := decide_eq_true c85
                      clear c85
                      by_cases c86 : x17_4 < (l4.length : Int)
                      ·rw [if_pos c86] at H
                       have c86b0 : decide (x17_4 < (l4.length : Int)) = true := decide_eq_true c86
                       clear c86
                       obtain ⟨ji87, hji87⟩ : ∃ j_ : Int, (Int.tmod (wrap64 (rd l4 x17_4)) (t280.length : Int)) = j_ := ⟨_, rfl⟩
                       replace H : (if 0 ≤ (ji87) then (if (ji87) < (t280.length : Int) then (if x16_4 = true then (davitlaw08_DomOver.l0 kj71 l4 (Int.tmod (wrap64 (a1)) (l0_2.length : Int)) (rd t280 (ji87)) true (wrap64 (x17_4 + 1)) a0_0 a0_1 l0_2) else (davitlaw08_DomOver.l0 kj71 l4 (Int.tmod (wrap64 (a1)) (l0_2.length : Int)) (rd t280 (ji87)) ((rd t280 (ji87)) == (Int.tmod (wrap64 (a1)) (l0_2.length : Int))) (wrap64 (x17_4 + 1)) a0_0 a0_1 l0_2)) else (none)) else (none)) = some r := by first | (rw [hji87] at H; exact H) | (simp only [hji87] at H ⊢; exact H)
                       (try rw [hji87] at A80)
                       by_cases c88 : 0 ≤ (ji87)
                       ·rw [if_pos c88] at H
                        have c88b0 : decide (0 ≤ (ji87)) = true := decide_eq_true c88
                        clear c88
                        by_cases c89 : (ji87) < (t280.length : Int)
                        ·rw [if_pos c89] at H
                         have c89b0 : decide ((ji87) < (t280.length : Int)) = true := decide_eq_true c89
                         clear c89
                         by_cases c90 : x16_4 = true
                         ·subst c90
                          have H1 : (davitlaw08_DomOver.l0 kj71 l4 (Int.tmod (wrap64 (a1)) (l0_2.length : Int)) (rd t280 (ji87)) true (wrap64 (x17_4 + 1)) a0_0 a0_1 l0_2) = some r := by rw [if_pos rfl] at H; exact H
                          clear H
                          have H := H1
                          clear H1
                          have H' := Aside0.mk H
                          clear H
                          have hcz91_0 : wc.cell? ⟨gb263, 0, none⟩ = some (.int .i64 a0_0) := (blk_cell BK263.out 0).trans rfl
                          have hcz91_1 : wc.cell? ⟨gb263, 1, none⟩ = some (.int .i64 a0_1) := (blk_cell BK263.out 1).trans rfl
                          have hcz91_2 : wc.cell? ⟨gb263, 2, none⟩ = some (.slice A0_2 l0_2.length c0_2) := (blk_cell BK263.out 2).trans rfl
                          have hfz91_0 := blk_frozen BK263.out 0
                          have hfz91_1 := blk_frozen BK263.out 1
                          have hfz91_2 := blk_frozen BK263.out 2
                          go_wp2_with (first | ((with_reducible refine gate_callee (f := 20) rfl ?_); refine goesL_ (some 113) rfl rfl Try.func20 (by kernel_rfl) rfl #[.agg #[.int .i64 a0_0, .int .i64 a0_1, .slice A0_2 l0_2.length c0_2], .int .i64 x15_4] rfl (by (try simp only [List.map_toArray, List.map_cons, List.map_nil]); first | done | rfl | (simp only [List.length_drop, List.length_take]; rfl)) ?_; (with_reducible refine (flow_Next.calls a0_0 a0_1 _ _ l0_2 x15_4 t280 _ ?side1 ?side2 A80.out).mono ?_); (case side1 => repeat (first | exact (Kd.C_below HR0_2.out HB.out) | (with_reducible refine Kd.C_alloc ?_ _) | (with_reducible refine Kd.C_drewN ?_ _) | (with_reducible refine Kd.C_drew ?_))); (case side2 => exact HC0_2.out); rintro e w92 ⟨v281, rfl, ho0, hb⟩; refine ⟨_, rfl, ?_⟩; have n0_ := Aside0.mk (Kd.R_lower ho0 (below_size (by repeat (first | (with_reducible first | exact HB.out | apply below_alloc | apply pw_below_drewN | apply below_drew1 | refine below_set ?_ GE263.out) | exact HB.out)))); have n1_ := Aside0.mk (blk_below (g := gb263) (o := .cells #[.int .i64 a0_0, .int .i64 a0_1, .slice A0_2 l0_2.length c0_2] 24 (0, 0)) (by (with_reducible repeat (first | refine blk_drewN ?_ _ | refine blk_drew ?_ | refine blk_alloc ?_ _)); exact BK263.out) hb); have n2_ := Aside0.mk (below_step (by repeat (first | (with_reducible first | exact HB.out | apply below_alloc | apply pw_below_drewN | apply below_drew1 | refine below_set ?_ GE263.out) | exact HB.out)) hb); clear BK263; clear HB; have HO282 := n0_; have BK263 := n1_; have HB := n2_; clear n0_ n1_ n2_; (try clear hb); (try clear hb2); (try clear hk); (try clear hi); (try clear ho0); obtain ⟨Ao93, co93, eo93⟩ := Kd.R_slice HO282.out; subst eo93; have p283 : 0 ≤ (x17_4 : Int) := of_decide_eq_true (by first | (with_reducible assumption) | assumption); have q283 : x17_4 < (l4.length : Int) := of_decide_eq_true (by first | (with_reducible assumption) | assumption); obtain ⟨ad283, e283, hx283_0⟩ := Kd.at_int HR4.out x17_4 p283 q283; cases e283; replace hx283_0 := (HB.out.cell (World.block_lt_of_cell? w _ hx283_0)).trans hx283_0; replace p283 := eq_true p283; replace q283 := eq_true q283; have p284 : 0 ≤ ((ji87) : Int) := of_decide_eq_true (by first | (with_reducible assumption) | assumption); have q284 : (ji87) < (t280.length : Int) := of_decide_eq_true (by first | (with_reducible assumption) | assumption); obtain ⟨ad284, e284, hx284_0⟩ := Kd.at_int (Kd.R_reads' HO282.out).2.2 (ji87) p284 q284; cases e284; replace p284 := eq_true p284; replace q284 := eq_true q284))
                          go_roundg kj71
                          case measure => have := HJ7.out; have := HJ15.out; have := HJ39.out; have := HK4.out; have := HJ68.out; have := HJ71.out; omega
                          case rel => exact ⟨(rd t280 (ji87)), (true), (wrap64 (x17_4 + 1)), (by first | rfl | (simp; done) | (simp only [← hji87] <;> (first | rfl | simp)) | (simp [*]; done)), (by first | rfl | (simp; done) | (simp [*]; done)), (by first | rfl | (simp; done) | (simp [*]; done)), H', ⟨by have := HJ7.out; have := HJ15.out; have := HJ39.out; have := HK4.out; have := HJ68.out; have := HJ71.out; omega⟩, ⟨by (with_reducible repeat (first | refine blk_drewN ?_ _ | refine blk_drew ?_ | refine blk_alloc ?_ _)); exact BK263.out⟩, ⟨by repeat (first | (with_reducible first | exact HB.out | apply below_alloc | apply pw_below_drewN | apply below_drew1 | refine below_set ?_ GE263.out) | exact HB.out)⟩⟩
                         ·replace c90 := Bool.eq_false_iff.mpr c90
                          subst c90
                          have H1 : (davitlaw08_DomOver.l0 kj71 l4 (Int.tmod (wrap64 (a1)) (l0_2.length : Int)) (rd t280 (ji87)) ((rd t280 (ji87)) == (Int.tmod (wrap64 (a1)) (l0_2.length : Int))) (wrap64 (x17_4 + 1)) a0_0 a0_1 l0_2) = some r := by rw [if_neg (show ¬ (false = true) by decide)] at H; exact H
                          clear H
                          have H := H1
                          clear H1
                          have H' := Aside0.mk H
                          clear H
                          have hcz94_0 : wc.cell? ⟨gb263, 0, none⟩ = some (.int .i64 a0_0) := (blk_cell BK263.out 0).trans rfl
                          have hcz94_1 : wc.cell? ⟨gb263, 1, none⟩ = some (.int .i64 a0_1) := (blk_cell BK263.out 1).trans rfl
                          have hcz94_2 : wc.cell? ⟨gb263, 2, none⟩ = some (.slice A0_2 l0_2.length c0_2) := (blk_cell BK263.out 2).trans rfl
                          have hfz94_0 := blk_frozen BK263.out 0
                          have hfz94_1 := blk_frozen BK263.out 1
                          have hfz94_2 := blk_frozen BK263.out 2
                          go_wp2_with (first | ((with_reducible refine gate_callee (f := 20) rfl ?_); refine goesL_ (some 113) rfl rfl Try.func20 (by kernel_rfl) rfl #[.agg #[.int .i64 a0_0, .int .i64 a0_1, .slice A0_2 l0_2.length c0_2], .int .i64 x15_4] rfl (by (try simp only [List.map_toArray, List.map_cons, List.map_nil]); first | done | rfl | (simp only [List.length_drop, List.length_take]; rfl)) ?_; (with_reducible refine (flow_Next.calls a0_0 a0_1 _ _ l0_2 x15_4 t280 _ ?side1 ?side2 A80.out).mono ?_); (case side1 => repeat (first | exact (Kd.C_below HR0_2.out HB.out) | (with_reducible refine Kd.C_alloc ?_ _) | (with_reducible refine Kd.C_drewN ?_ _) | (with_reducible refine Kd.C_drew ?_))); (case side2 => exact HC0_2.out); rintro e w95 ⟨v281, rfl, ho0, hb⟩; refine ⟨_, rfl, ?_⟩; have n0_ := Aside0.mk (Kd.R_lower ho0 (below_size (by repeat (first | (with_reducible first | exact HB.out | apply below_alloc | apply pw_below_drewN | apply below_drew1 | refine below_set ?_ GE263.out) | exact HB.out)))); have n1_ := Aside0.mk (blk_below (g := gb263) (o := .cells #[.int .i64 a0_0, .int .i64 a0_1, .slice A0_2 l0_2.length c0_2] 24 (0, 0)) (by (with_reducible repeat (first | refine blk_drewN ?_ _ | refine blk_drew ?_ | refine blk_alloc ?_ _)); exact BK263.out) hb); have n2_ := Aside0.mk (below_step (by repeat (first | (with_reducible first | exact HB.out | apply below_alloc | apply pw_below_drewN | apply below_drew1 | refine below_set ?_ GE263.out) | exact HB.out)) hb); clear BK263; clear HB; have HO282 := n0_; have BK263 := n1_; have HB := n2_; clear n0_ n1_ n2_; (try clear hb); (try clear hb2); (try clear hk); (try clear hi); (try clear ho0); obtain ⟨Ao96, co96, eo96⟩ := Kd.R_slice HO282.out; subst eo96; have p283 : 0 ≤ (x17_4 : Int) := of_decide_eq_true (by first | (with_reducible assumption) | assumption); have q283 : x17_4 < (l4.length : Int) := of_decide_eq_true (by first | (with_reducible assumption) | assumption); obtain ⟨ad283, e283, hx283_0⟩ := Kd.at_int HR4.out x17_4 p283 q283; cases e283; replace hx283_0 := (HB.out.cell (World.block_lt_of_cell? w _ hx283_0)).trans hx283_0; replace p283 := eq_true p283; replace q283 := eq_true q283; have p284 : 0 ≤ ((ji87) : Int) := of_decide_eq_true (by first | (with_reducible assumption) | assumption); have q284 : (ji87) < (t280.length : Int) := of_decide_eq_true (by first | (with_reducible assumption) | assumption); obtain ⟨ad284, e284, hx284_0⟩ := Kd.at_int (Kd.R_reads' HO282.out).2.2 (ji87) p284 q284; cases e284; replace p284 := eq_true p284; replace q284 := eq_true q284))
                          go_roundg kj71
                          case measure => have := HJ7.out; have := HJ15.out; have := HJ39.out; have := HK4.out; have := HJ68.out; have := HJ71.out; omega
                          case rel => exact ⟨(rd t280 (ji87)), (((rd t280 (ji87)) == (Int.tmod (wrap64 (a1)) (l0_2.length : Int)))), (wrap64 (x17_4 + 1)), (by first | rfl | (simp; done) | (simp only [← hji87] <;> (first | rfl | simp)) | (simp [*]; done)), (by first | rfl | (simp; done) | (simp only [← hji87] <;> (first | rfl | simp)) | (simp [*]; done)), (by first | rfl | (simp; done) | (simp [*]; done)), H', ⟨by have := HJ7.out; have := HJ15.out; have := HJ39.out; have := HK4.out; have := HJ68.out; have := HJ71.out; omega⟩, ⟨by (with_reducible repeat (first | refine blk_drewN ?_ _ | refine blk_drew ?_ | refine blk_alloc ?_ _)); exact BK263.out⟩, ⟨by repeat (first | (with_reducible first | exact HB.out | apply below_alloc | apply pw_below_drewN | apply below_drew1 | refine below_set ?_ GE263.out) | exact HB.out)⟩⟩
                        ·rw [if_neg c89] at H
                         exact absurd H (by simp)
                       ·rw [if_neg c88] at H
                        exact absurd H (by simp)
                      ·rw [if_neg c86] at H
                       exact absurd H (by simp)
                     ·rw [if_neg c85] at H
                      exact absurd H (by simp)
                ·replace c71 := Bool.eq_false_iff.mpr c71
                 subst c71
                 have H1 : (some true) = some r := by rw [if_neg (show ¬ (false = true) by decide)] at H; exact H
                 clear H
                 have H := H1
                 clear H1
                 obtain rfl := Option.some.inj H
                 go_wp2
                 go_ret
                 exact ⟨by first | rfl | (simp [errW_none, errW_some] <;> rfl) | (simp [*, errW_none, errW_some] <;> rfl), by repeat (first | (with_reducible first | exact HB.out | apply below_alloc | apply pw_below_drewN | apply below_drew1 | refine below_set ?_ GE263.out) | exact HB.out)⟩
 ·replace c7 := Bool.eq_false_iff.mpr c7
  subst c7
  have H1 : (some false) = some r := by rw [if_neg (show ¬ (false = true) by decide)] at H; exact H
  clear H
  have H := H1
  clear H1
  obtain rfl := Option.some.inj H
  go_enter Try.func4, Try.ntmps4
  go_wp2_with (first | ((with_reducible refine gate_dst (N := 5) rfl ?_); (try (refine gate_guard (by rfl) ?_; dsimp only)); refine box_event ?hg (N := 5) ?hd (cs := #[.int .i64 a0_0, .int .i64 a0_1, .slice A0_2 l0_2.length c0_2]) (t := 24) ?hr ?_; (case hd => rfl); (case hg => rfl); (case hr => first | (go_simp; done) | (go_simp; rfl)); intro gb263 hg w97 hbox hb; have n0_ := Aside0.mk (below_step (by repeat (first | (with_reducible first | exact HB.out | apply below_alloc | apply pw_below_drewN | apply below_drew1) | exact HB.out)) hb); have n1_ := Aside0.mk (hbox); have n2_ := Aside0.mk ((by rw [hg]; exact (below_size (by repeat (first | (with_reducible first | exact HB.out | apply below_alloc | apply pw_below_drewN | apply below_drew1) | exact HB.out))) : w.heap.size ≤ gb263)); have n3_ := Aside0.mk ((by rw [hg]; exact (below_size (by repeat (first | (with_reducible first | exact HB.out | apply below_alloc | apply pw_below_drewN | apply below_drew1) | exact HB.out))) : w.heap.size ≤ gb263)); clear HB; have HB := n0_; have BK263 := n1_; have GW263 := n2_; have GE263 := n3_; clear n0_ n1_ n2_ n3_; clear hb hbox hg) | ((with_reducible refine gate_callee (f := 11) rfl ?_); refine goesL_ (some 19) rfl rfl Try.func11 (by kernel_rfl) rfl #[] rfl (by (try simp only [List.map_toArray, List.map_cons, List.map_nil]); first | done | rfl | (simp only [List.length_drop, List.length_take]; rfl)) ?_; (with_reducible refine (davitlaw08_awake.calls k  false _ A6.out).mono ?_); rintro e w98 ⟨rfl, hb⟩; refine ⟨_, rfl, ?_⟩; have n0_ := Aside0.mk (blk_below (g := gb263) (o := .cells #[.int .i64 a0_0, .int .i64 a0_1, .slice A0_2 l0_2.length c0_2] 24 (0, 0)) (by (with_reducible repeat (first | refine blk_drewN ?_ _ | refine blk_drew ?_ | refine blk_alloc ?_ _)); exact BK263.out) hb); have n1_ := Aside0.mk (below_step (by repeat (first | (with_reducible first | exact HB.out | apply below_alloc | apply pw_below_drewN | apply below_drew1 | refine below_set ?_ GE263.out) | exact HB.out)) hb); clear BK263; clear HB; have BK263 := n0_; have HB := n1_; clear n0_ n1_; (try clear hb); (try clear hb2); (try clear hk); (try clear hi)))
  go_ret
  exact ⟨by first | rfl | (simp [errW_none, errW_some] <;> rfl) | (simp [*, errW_none, errW_some] <;> rfl), by repeat (first | (with_reducible first | exact HB.out | apply below_alloc | apply pw_below_drewN | apply below_drew1 | refine below_set ?_ GE263.out) | exact HB.out)⟩
end
end Go.Proofs.Ytilopoegoddggaa.X
namespace Go.Proofs.Ytilopoegoddggaa.G
set_option linter.all false
def Evt {α : Type} (g : Nat → Option α) (r : α) : Prop := ∃ k0, ∀ k, k0 ≤ k → g k = some r
theorem Evt.succ {α : Type} {g : Nat → Option α} {r : α} (h : Evt (fun k => g (k + 1)) r) : Evt g r := by
 obtain ⟨k0, h⟩ := h
 refine ⟨k0 + 1, fun k hk => ?_⟩
 obtain ⟨j, rfl⟩ : ∃ j, k = j + 1 := ⟨k - 1, by omega⟩
 exact h j (by omega)
theorem Evt.bind {α β : Type} {g : Nat → Option α} {h : Nat → α → Option β} {a : α} {r : β} (h1 : Evt g a) (h2 : Evt (fun k => h k a) r) : Evt (fun k => (g k).bind (h k)) r := by
 obtain ⟨k1, h1⟩ := h1
 obtain ⟨k2, h2⟩ := h2
 refine ⟨k1 + k2, fun k hk => ?_⟩
 show (g k).bind (h k) = some r
 rw [h1 k (by omega)]
 exact h2 k (by omega)
theorem Evt.pure {α : Type} (r : α) : Evt (fun _ => some r) r := ⟨0, fun _ _ => rfl⟩
theorem Evt.congr {α : Type} {g g' : Nat → Option α} {r : α} (h : Evt g' r) (e : ∀ k, g k = g' k) : Evt g r := by
 obtain ⟨k0, h⟩ := h
 exact ⟨k0, fun k hk => (e k).trans (h k hk)⟩
theorem Evt.inj {α : Type} {g : Nat → Option α} {r s : α} (h1 : Evt g r) (h2 : Evt g s) : r = s := by
 obtain ⟨k1, h1⟩ := h1
 obtain ⟨k2, h2⟩ := h2
 have e1 := h1 (k1 + k2) (by omega)
 have e2 := h2 (k1 + k2) (by omega)
 rw [e1] at e2
 exact Option.some.inj e2
theorem Evt.ex {α : Type} {g : Nat → Option α} {r : α} (h : Evt g r) : ∃ k, g k = some r := by
 obtain ⟨k0, h⟩ := h
 exact ⟨k0, h k0 (Nat.le_refl _)⟩
inductive Rch (N : Nat) (sc : Int → List Int) (no : Int) : Int → Prop
 | zero : 0 < N → (0 : Int) ≠ no → Rch N sc no 0
 | step {a b : Int} : Rch N sc no a → b ∈ sc a → b ≠ no → Rch N sc no b
def Dom (N : Nat) (sc : Int → List Int) (a b : Int) : Prop := Rch N sc (-1) b ∧ (0 ≤ a ∧ a < N) ∧ (a = b ∨ ¬ Rch N sc a b)
inductive Anc (o : Int → Int) : Int → Int → Prop
 | refl (n : Int) : Anc o n n
 | up {a n : Int} : n ≠ 0 → Anc o a (o n) → Anc o a n
section
variable {N : Nat} {sc : Int → List Int}
def Edges (N : Nat) (sc : Int → List Int) : Prop := ∀ a b, b ∈ sc a → (0 ≤ a ∧ a < N) ∧ (0 ≤ b ∧ b < N)
theorem Rch.inV (he : Edges N sc) {no n : Int} (h : Rch N sc no n) : 0 ≤ n ∧ n < N := by
 cases h with
 | zero h0 _ => omega
 | step _ h _ => exact (he _ _ h).2
theorem Rch.ne {no n : Int} (h : Rch N sc no n) : n ≠ no := by
 cases h with
 | zero _ h => exact h
 | step _ _ h => exact h
theorem Rch.any (he : Edges N sc) {no n : Int} (h : Rch N sc no n) : Rch N sc (-1) n := by
 induction h with
 | zero h0 _ => exact .zero h0 (by omega)
 | step _ hs _ ih => exact .step ih hs (by have := (he _ _ hs).2; omega)
theorem Rch.next (he : Edges N sc) {a b : Int} (h : Rch N sc (-1) a) (hs : b ∈ sc a) : Rch N sc (-1) b := .step h hs (by have := (he _ _ hs).2; omega)
theorem Dom.refl (he : Edges N sc) {a : Int} (h : Rch N sc (-1) a) : Dom N sc a a := ⟨h, h.inV he, .inl rfl⟩
theorem Dom.pred (he : Edges N sc) {x m p : Int} (h : Dom N sc x m) (hne : x ≠ m) (hs : m ∈ sc p) (hp : Rch N sc (-1) p) : Dom N sc x p := by
 obtain ⟨h1, h2, h3⟩ := h
 refine ⟨hp, h2, ?_⟩
 rcases h3 with h3 | h3
 ·exact absurd h3 hne
 ·exact .inr fun h => h3 (.step h hs (fun e => hne e.symm))
theorem Dom.at_zero {x : Int} (h : Dom N sc x 0) : x = 0 := by
 obtain ⟨h1, h2, h3⟩ := h
 rcases h3 with h3 | h3
 ·exact h3
 ·by_cases hx : x = 0
  ·exact hx
  ·exact absurd (.zero (by omega) (fun e => hx e.symm)) h3
theorem no_rch0 {n : Int} (h : Rch N sc 0 n) : False := by
 induction h with
 | zero _ h => exact h rfl
 | step _ _ _ ih => exact ih
theorem Dom.zero {n : Int} (h : Rch N sc (-1) n) (hN : 0 < N) : Dom N sc 0 n := ⟨h, ⟨by omega, by omega⟩, .inr no_rch0⟩
end
section
variable {o : Int → Int}
theorem Anc.trans {a b c : Int} (h1 : Anc o a b) (h2 : Anc o b c) : Anc o a c := by
 induction h2 with
 | refl => exact h1
 | up h0 _ ih => exact .up h0 ih
theorem Anc.at_zero {a : Int} (h : Anc o a 0) : a = 0 := by
 cases h with
 | refl => rfl
 | up h0 _ => exact absurd rfl h0
theorem Anc.total {a b n : Int} (h1 : Anc o a n) (h2 : Anc o b n) : Anc o a b ∨ Anc o b a := by
 induction h1 with
 | refl => exact .inr h2
 | up h0 h1 ih =>
  cases h2 with
  | refl => exact .inl (.up h0 h1)
  | up _ h2 => exact ih h2
theorem Anc.cases_ne {a n : Int} (h : Anc o a n) (hne : a ≠ n) : n ≠ 0 ∧ Anc o a (o n) := by
 cases h with
 | refl => exact absurd rfl hne
 | up h0 h1 => exact ⟨h0, h1⟩
end
section
variable (N : Nat) (sc : Int → List Int) (place : Int → Int)
structure Pl : Prop where
 edge : Edges N sc
 zero : place 0 = 0
 pos : ∀ n, Rch N sc (-1) n → 0 ≤ place n
 inj : ∀ a b, Rch N sc (-1) a → Rch N sc (-1) b → place a = place b → a = b
 pred : ∀ n, Rch N sc (-1) n → n ≠ 0 → ∃ q, Rch N sc (-1) q ∧ n ∈ sc q ∧ place q < place n
structure Tree (o : Int → Int) : Prop where
 zero : o 0 = 0
 neg : ∀ n : Int, 0 ≤ n → n < N → ¬ Rch N sc (-1) n → o n = -1
 low : ∀ n : Int, 0 ≤ n → n < N → -1 ≤ o n
 up : ∀ n, Rch N sc (-1) n → n ≠ 0 → 0 ≤ o n → Rch N sc (-1) (o n) ∧ 0 ≤ o (o n) ∧ place (o n) < place n
structure Inv (o : Int → Int) (i : Int) (fin : Bool) : Prop extends Tree N sc place o where
 P : ∀ m, Rch N sc (-1) m → (place m < i ∨ fin = true) → 0 ≤ o m
 U : ∀ m, Rch N sc (-1) m → 0 ≤ o m → ∀ x, Dom N sc x m → Anc o x m
 K : ∀ m, Rch N sc (-1) m → m ≠ 0 → 0 ≤ o m → ∀ x, (∀ p, m ∈ sc p → Rch N sc (-1) p → 0 ≤ o p → Anc o x p) → Anc o x (o m)
 M : ∀ m q, Rch N sc (-1) m → m ≠ 0 → 0 ≤ o m → m ∈ sc q → Rch N sc (-1) q → place q < place m → 0 ≤ o q ∧ ∀ x, x ≠ m → Anc o x m → (place m < i ∨ i ≤ place x) → Anc o x q
end
section
variable {N : Nat} {sc : Int → List Int} {place o : Int → Int}
theorem Tree.anc (T : Tree N sc place o) {a n : Int} (h : Anc o a n) (hr : Rch N sc (-1) n) (hp : 0 ≤ o n) : Rch N sc (-1) a ∧ 0 ≤ o a ∧ place a ≤ place n := by
 induction h with
 | refl => exact ⟨hr, hp, Int.le_refl _⟩
 | up h0 _ ih =>
  obtain ⟨h1, h2, h3⟩ := T.up _ hr h0 hp
  obtain ⟨r1, r2, r3⟩ := ih h1 h2
  exact ⟨r1, r2, by omega⟩
theorem Tree.lt (T : Tree N sc place o) {a n : Int} (h : Anc o a n) (hne : a ≠ n) (hr : Rch N sc (-1) n) (hp : 0 ≤ o n) : place a < place n := by
 obtain ⟨h0, h1⟩ := h.cases_ne hne
 obtain ⟨r1, r2, r3⟩ := T.up _ hr h0 hp
 have := (T.anc h1 r1 r2).2.2
 omega
theorem Tree.antisymm (T : Tree N sc place o) {a n : Int} (h : Anc o a n) (h' : Anc o n a) (hr : Rch N sc (-1) n) (hp : 0 ≤ o n) : a = n := by
 by_cases he : a = n
 ·exact he
 ·have h1 := T.lt h he hr hp
  obtain ⟨r1, r2, _⟩ := T.anc h hr hp
  have h2 := (T.anc h' r1 r2).2.2
  omega
theorem Tree.above (T : Tree N sc place o) {a b n : Int} (h1 : Anc o a n) (h2 : Anc o b n) (hr : Rch N sc (-1) n) (hp : 0 ≤ o n) (hl : place a < place b) : Anc o a b := by
 rcases h1.total h2 with h | h
 ·exact h
 ·obtain ⟨r1, r2, _⟩ := T.anc h1 hr hp
  have := (T.anc h r1 r2).2.2
  omega
theorem Tree.root (T : Tree N sc place o) (L : Pl N sc place) : ∀ (j : Nat) (n : Int), (place n).toNat ≤ j → Rch N sc (-1) n → 0 ≤ o n → Anc o 0 n
 | 0, n, hj, hr, hp => by
  by_cases h0 : n = 0
  ·exact h0 ▸ .refl _
  ·obtain ⟨r1, r2, r3⟩ := T.up n hr h0 hp
   have := L.pos _ r1
   omega
 | j + 1, n, hj, hr, hp => by
  by_cases h0 : n = 0
  ·exact h0 ▸ .refl _
  ·obtain ⟨r1, r2, r3⟩ := T.up n hr h0 hp
   have := L.pos _ r1
   exact .up h0 (T.root L j (o n) (by omega) r1 r2)
def upd (o : Int → Int) (n r : Int) : Int → Int := fun x => if x = n then r else o x
theorem upd_self (o : Int → Int) (n r : Int) : upd o n r n = r := by simp [upd]
theorem upd_ne (o : Int → Int) {n r x : Int} (h : x ≠ n) : upd o n r x = o x := by simp [upd, h]
section
variable {i n0 r : Int} {fin : Bool}
structure Best (N : Nat) (sc : Int → List Int) (o : Int → Int) (n0 r : Int) : Prop where
 rch : Rch N sc (-1) r
 done : 0 ≤ o r
 all : ∀ x, Anc o x r ↔ ∀ p, n0 ∈ sc p → Rch N sc (-1) p → 0 ≤ o p → Anc o x p
theorem upd_low (T : Tree N sc place o) {x m : Int} (hr : Rch N sc (-1) m) (hp : 0 ≤ o m) (hl : place m < place n0) : Anc (upd o n0 r) x m ↔ Anc o x m := by
 constructor
 ·intro h
  induction h with
  | refl => exact .refl _
  | up h0 _ ih =>
   rename_i n _
   have hn : n ≠ n0 := fun e => by rw [e] at hl; omega
   rw [upd_ne o hn] at ih
   obtain ⟨r1, r2, r3⟩ := T.up _ hr h0 hp
   exact .up h0 (ih r1 r2 (by omega))
 ·intro h
  induction h with
  | refl => exact .refl _
  | up h0 _ ih =>
   rename_i n _
   have hn : n ≠ n0 := fun e => by rw [e] at hl; omega
   obtain ⟨r1, r2, r3⟩ := T.up _ hr h0 hp
   exact .up h0 (by rw [upd_ne o hn]; exact ih r1 r2 (by omega))
theorem upd_off {x m : Int} (h : Anc o x m) (hn : ¬ Anc o n0 m) : Anc (upd o n0 r) x m := by
 induction h with
 | refl => exact .refl _
 | up h0 _ ih =>
  rename_i n _
  have : n ≠ n0 := fun e => hn (e ▸ .refl _)
  exact .up h0 (by rw [upd_ne o this]; exact ih (fun h => hn (.up h0 h)))
theorem upd_high (T : Tree N sc place o) {x m : Int} (h : Anc o x m) (hr : Rch N sc (-1) m) (hp : 0 ≤ o m) (hl : place n0 ≤ place x) : Anc (upd o n0 r) x m := by
 induction h with
 | refl => exact .refl _
 | up h0 h1 ih =>
  rename_i n
  obtain ⟨r1, r2, r3⟩ := T.up _ hr h0 hp
  have h3 := (T.anc h1 r1 r2).2.2
  have : n ≠ n0 := fun e => by rw [e] at r3 h3; omega
  exact .up h0 (by rw [upd_ne o this]; exact ih r1 r2)
theorem Best.lt (B : Best N sc o n0 r) (I : Inv N sc place o (place n0) fin) (L : Pl N sc place) (hn : Rch N sc (-1) n0) (h0 : n0 ≠ 0) : place r < place n0 := by
 obtain ⟨q, q1, q2, q3⟩ := L.pred n0 hn h0
 have hq := I.P q q1 (.inl q3)
 have h := (B.all r).1 (.refl _) q q2 q1 hq
 have := (I.toTree.anc h q1 hq).2.2
 omega
theorem upd_back (B : Best N sc o n0 r) (I : Inv N sc place o (place n0) fin) (L : Pl N sc place) (hn : Rch N sc (-1) n0) (h0 : n0 ≠ 0) {x m : Int} (h : Anc (upd o n0 r) x m) (hr : Rch N sc (-1) m) (hp : 0 ≤ o m) : Anc o x m := by
 induction h with
 | refl => exact .refl _
 | up hm0 h1 ih =>
  rename_i n
  obtain ⟨r1, r2, r3⟩ := I.up _ hr hm0 hp
  by_cases e : n = n0
  ·subst e
   rw [upd_self] at ih
   have h2 := ih B.rch B.done
   exact .up hm0 (h2.trans (I.K n hr hm0 hp r ((B.all r).1 (.refl _))))
  ·rw [upd_ne o e] at ih
   exact .up hm0 (ih r1 r2)
end
end
end Go.Proofs.Ytilopoegoddggaa.G
namespace Go.Proofs.Ytilopoegoddggaa.G
set_option linter.all false
section
variable {N : Nat} {sc : Int → List Int} {place o : Int → Int} {n0 r : Int} {fin : Bool}
theorem upd_done (hd : 0 ≤ r) {m : Int} (h : 0 ≤ o m) : 0 ≤ upd o n0 r m := by
 unfold upd; split
 ·exact hd
 ·exact h
theorem Inv.step (I : Inv N sc place o (place n0) fin) (L : Pl N sc place) (hn : Rch N sc (-1) n0) (h0 : n0 ≠ 0) (B : Best N sc o n0 r) : Inv N sc place (upd o n0 r) (place n0 + 1) fin := by
 have hlt := B.lt I L hn h0
 have hd : 0 ≤ r := (B.rch.inV L.edge).1
 have hr0 : r ≠ n0 := fun e => by rw [e] at hlt; omega
 have T' : Tree N sc place (upd o n0 r) := by
  refine ⟨?_, fun n a b c => ?_, fun n a b => ?_, fun n a b c => ?_⟩
  ·rw [upd_ne o (fun e => h0 e.symm)]; exact I.zero
  ·rw [upd_ne o (fun e : n = n0 => c (e ▸ hn))]; exact I.neg n a b c
  ·unfold upd; split
   ·omega
   ·exact I.low n a b
  ·by_cases e : n = n0
   ·subst e
    rw [upd_self]
    exact ⟨B.rch, by rw [upd_ne o hr0]; exact B.done, hlt⟩
   ·rw [upd_ne o e] at c ⊢
    obtain ⟨r1, r2, r3⟩ := I.up n a b c
    exact ⟨r1, upd_done hd r2, r3⟩
 have back : ∀ {x m : Int}, Anc (upd o n0 r) x m → Rch N sc (-1) m → 0 ≤ o m → Anc o x m := fun h => upd_back B I L hn h0 h
 have low : ∀ {x m : Int}, Rch N sc (-1) m → 0 ≤ o m → place m < place n0 → (Anc (upd o n0 r) x m ↔ Anc o x m) := fun a b c => upd_low I.toTree a b c
 have high : ∀ {x m : Int}, Anc o x m → Rch N sc (-1) m → 0 ≤ o m → place n0 ≤ place x → Anc (upd o n0 r) x m := fun h a b c => upd_high I.toTree h a b c
 have ndone : ∀ {m : Int}, m ≠ n0 → 0 ≤ upd o n0 r m → 0 ≤ o m := fun hm h => by rw [upd_ne o hm] at h; exact h
 have toR : ∀ {x : Int}, Anc o x r → Anc (upd o n0 r) x r := fun h => (low B.rch B.done hlt).2 h
 have selfUp : ∀ {x : Int}, Anc o x r → Anc (upd o n0 r) x n0 := fun h => .up h0 (by rw [upd_self]; exact toR h)
 have via : ∀ {m : Int}, Rch N sc (-1) m → m ≠ 0 → 0 ≤ o m → m ≠ n0 → Anc o n0 m → ∃ q, Rch N sc (-1) q ∧ m ∈ sc q ∧ place q < place m ∧ 0 ≤ o q ∧ Anc o n0 q := by
  intro m a b c d e
  obtain ⟨q, q1, q2, q3⟩ := L.pred m a b
  obtain ⟨m1, m2⟩ := I.M m q a b c q2 q1 q3
  exact ⟨q, q1, q2, q3, m1, m2 n0 (fun e => d e.symm) e (.inr (Int.le_refl _))⟩
 have U' : ∀ (j : Nat) (m : Int), (place m).toNat ≤ j → Rch N sc (-1) m → 0 ≤ upd o n0 r m → ∀ x, Dom N sc x m → Anc (upd o n0 r) x m := by
  intro j
  induction j with
  | zero =>
   intro m hj hm hp x hx
   have hz : m = 0 := L.inj _ _ hm (.zero (by have := hm.inV L.edge; omega) (by omega)) (by have := L.pos m hm; have := L.zero; omega)
   subst hz
   rw [hx.at_zero]
   exact .refl _
  | succ j ih =>
   intro m hj hm hp x hx
   by_cases hxm : x = m
   ·exact hxm ▸ .refl _
   by_cases e : m = n0
   ·subst e
    refine selfUp ((B.all x).2 fun p a b c => ?_)
    exact I.U p b c x (hx.pred L.edge hxm a b)
   have hpo := ndone e hp
   have hm0 : m ≠ 0 := fun e => hxm (by subst e; exact hx.at_zero)
   have hxo := I.U m hm hpo x hx
   by_cases hu : Anc o n0 m
   ·by_cases hl : place n0 ≤ place x
    ·exact high hxo hm hpo hl
    ·obtain ⟨q, q1, q2, q3, q4, q5⟩ := via hm hm0 hpo e hu
     have hq := ih q (by have := L.pos q q1; omega) q1 (upd_done hd q4) x (hx.pred L.edge hxm q2 q1)
     have hq2 := high q5 q1 q4 (Int.le_refl _)
     have h3 := T'.above hq hq2 q1 (upd_done hd q4) (by omega)
     exact h3.trans (high hu hm hpo (Int.le_refl _))
   ·exact upd_off hxo hu
 refine { toTree := T', P := ?_, U := fun m a b => U' _ m (Nat.le_refl _) a b, K := ?_, M := ?_ }
 ·intro m a b
  by_cases e : m = n0
  ·rw [e, upd_self]; exact hd
  ·rw [upd_ne o e]
   refine I.P m a (b.imp (fun h => ?_) id)
   have : place m ≠ place n0 := fun h => e (L.inj _ _ a hn h)
   omega
 ·intro m a b c x h
  by_cases e : m = n0
  ·subst e
   rw [upd_self]
   exact toR ((B.all x).2 fun p p1 p2 p3 => back (h p p1 p2 (upd_done hd p3)) p2 p3)
  ·have hpo := ndone e c
   rw [upd_ne o e]
   have hx : Anc o x (o m) := I.K m a b hpo x fun p p1 p2 p3 => back (h p p1 p2 (upd_done hd p3)) p2 p3
   obtain ⟨r1, r2, r3⟩ := I.up m a b hpo
   by_cases hu : Anc o n0 (o m)
   ·by_cases hl : place n0 ≤ place x
    ·exact high hx r1 r2 hl
    ·obtain ⟨q, q1, q2, q3, q4, q5⟩ := via a b hpo e (.up b hu)
     have hq := h q q2 q1 (upd_done hd q4)
     have hq2 := high q5 q1 q4 (Int.le_refl _)
     have h3 := T'.above hq hq2 q1 (upd_done hd q4) (by omega)
     exact h3.trans (high hu r1 r2 (Int.le_refl _))
   ·exact upd_off hx hu
 ·intro m q a b c d f g
  by_cases e : m = n0
  ·subst e
   have hq := I.P q f (.inl g)
   refine ⟨upd_done hd hq, fun x hx h _ => ?_⟩
   obtain ⟨_, h1⟩ := h.cases_ne hx
   rw [upd_self] at h1
   exact (low f hq g).2 ((B.all x).1 ((low B.rch B.done hlt).1 h1) q d f hq)
  ·have hpo := ndone e c
   obtain ⟨m1, m2⟩ := I.M m q a b hpo d f g
   refine ⟨upd_done hd m1, fun x hx h hh => ?_⟩
   have hne : place m ≠ place n0 := fun h => e (L.inj _ _ a hn h)
   have ho := back h a hpo
   rcases hh with hh | hh
   ·exact (low f m1 (by omega)).2 (m2 x hx ho (.inl (by omega)))
   ·exact high (m2 x hx ho (.inr (by omega))) f m1 (by omega)
theorem Inv.again {j : Int} (I : Inv N sc place o j fin) (L : Pl N sc place) (hj : ∀ m, Rch N sc (-1) m → place m < j) : Inv N sc place o 1 true := by
 refine { toTree := I.toTree, P := fun m a _ => I.P m a (.inl (hj m a)), U := I.U, K := I.K, M := fun m q a b c d f g => ?_ }
 obtain ⟨m1, m2⟩ := I.M m q a b c d f g
 exact ⟨m1, fun x hx h _ => m2 x hx h (.inl (hj m a))⟩
theorem Inv.start (L : Pl N sc place) (hN : 0 < N) : Inv N sc place (fun x => if x = 0 then 0 else -1) 1 false := by
 refine { toTree := ⟨rfl, fun n a b c => ?_, fun n a b => ?_, fun n a b c => ?_⟩, P := fun m a b => ?_, U := fun m a b x h => ?_, K := fun m a b c => ?_, M := fun m q a b c => ?_ }
 ·show (if n = 0 then (0 : Int) else -1) = -1
  rw [if_neg (fun e : n = 0 => c (by rw [e]; exact .zero hN (by omega)))]
 ·show -1 ≤ (if n = 0 then (0 : Int) else -1)
  split <;> omega
 ·simp only [if_neg b] at c; omega
 ·rcases b with b | b
  ·have : m = 0 := L.inj _ _ a (.zero hN (by omega)) (by have := L.pos m a; have := L.zero; omega)
   simp [this]
  ·cases b
 ·by_cases e : m = 0
  ·subst e
   rw [h.at_zero]; exact .refl _
  ·simp only [if_neg e] at b; omega
 ·simp only [if_neg b] at c; omega
 ·simp only [if_neg b] at c; omega
def Fix (N : Nat) (sc : Int → List Int) (o : Int → Int) : Prop := ∀ n, Rch N sc (-1) n → n ≠ 0 → Best N sc o n (o n)
theorem Inv.dom {j : Int} (I : Inv N sc place o j fin) (L : Pl N sc place) (hj : ∀ m, Rch N sc (-1) m → 0 ≤ o m) (F : Fix N sc o) {x m : Int} (hm : Rch N sc (-1) m) : Anc o x m ↔ Dom N sc x m := by
 refine ⟨fun h => ?_, fun h => I.U m hm (hj m hm) x h⟩
 have hx := (I.toTree.anc h hm (hj m hm)).1
 refine ⟨hm, hx.inV L.edge, ?_⟩
 by_cases e : x = m
 ·exact .inl e
 refine .inr fun hr => ?_
 have key : ∀ y, Rch N sc x y → ¬ Anc o x y := by
  intro y hy
  induction hy with
  | zero _ h0 => exact fun h => h0 h.at_zero.symm
  | step ha hs hne ih =>
   rename_i a b
   intro hb
   have ha' := ha.any L.edge
   have hb' := ha'.next L.edge hs
   obtain ⟨b0, h1⟩ := hb.cases_ne (fun e => hne e.symm)
   exact ih (((F b hb' b0).all x).1 h1 a hs ha' (hj a ha'))
 exact key m hr h
end
end Go.Proofs.Ytilopoegoddggaa.G
namespace Go.Proofs.Ytilopoegoddggaa.X
open Go.RowKit Go.Proofs.YtilopoegoddggaaW.PrintWords Go.Proofs.YtilopoegoddggaaW.PrintLast Go.Proofs.YtilopoegoddggaaW.PrintMore
attribute [local go_sem] max2_int min2_int max_two min_two max_three min_three max_four min_four
set_option linter.all false
noncomputable section
def davitref07_Has.l0 : Nat → List Int → Int → Int → Option (Bool)
 | 0, _, _, _ => none
 | k + 1, x0, x1, x5 => if x5 < (x0.length : Int) then (if 0 ≤ x5 then (if (rd x0 x5) = x1 then (some true) else (davitref07_Has.l0 k x0 x1 (wrap64 (x5 + 1)))) else (none)) else (some false)
def davitref07_Has.f (k : Nat) (l0 : List Int) (a1 : Int) : Option (Bool) := davitref07_Has.l0 k l0 a1 0
theorem davitref07_Has.mono_l : ∀ k, (∀ y0 y1 y2, LeO (davitref07_Has.l0 k y0 y1 y2) (davitref07_Has.l0 (k + 1) y0 y1 y2))
 | 0 => fun _ _ _ r h => by simp [davitref07_Has.l0] at h
 | k + 1 => by
  have ih0 := davitref07_Has.mono_l k
  ·intro y0 y1 y2
   unfold davitref07_Has.l0
   repeat' first
   | (with_reducible exact ih0 _ _ _)
   | (with_reducible exact LeO.refl _)
   | (with_reducible exact LeO.none _)
   | (with_reducible refine LeO.ite ?_ ?_)
   | (with_reducible refine LeO.bind ?_ (fun _ => ?_))
   | exact ih0 _ _ _
   | exact LeO.none _
   | refine LeO.ite ?_ ?_
   | refine LeO.bind ?_ (fun _ => ?_)
theorem davitref07_Has.mono : ∀ a0 a1 k, LeO (davitref07_Has.f k a0 a1) (davitref07_Has.f (k + 1) a0 a1) := by
 intro a0 a1 k
 have ih0 := davitref07_Has.mono_l k
 unfold davitref07_Has.f
 repeat' first
   | (with_reducible exact ih0 _ _ _)
   | (with_reducible exact LeO.refl _)
   | (with_reducible exact LeO.none _)
   | (with_reducible refine LeO.ite ?_ ?_)
   | (with_reducible refine LeO.bind ?_ (fun _ => ?_))
   | exact ih0 _ _ _
   | exact LeO.none _
   | refine LeO.ite ?_ ?_
   | refine LeO.bind ?_ (fun _ => ?_)
set_option maxHeartbeats 8000000 in
set_option maxRecDepth 100000 in
theorem davitref07_Has.calls (k : Nat) (A0 : Option Addr) (c0 : Nat) (l0 : List Int) (a1 : Int) (r : Bool) (w : World) (hr0 : Kd.C (Kd.int .i64) w A0 l0.length l0) (hc0 : l0.length ≤ c0) (h : davitref07_Has.f k l0 a1 = some r) :
  Calls Try.prog 21 #[.slice A0 l0.length c0, .int .i64 a1] w fun e w' => e = .returned (.bool r) ∧ Drawn0 w w' := by
 have HR0 := Aside0.mk hr0
 have HC0 := Aside0.mk hc0
 clear hr0 hc0
 have H : (davitref07_Has.l0 k l0 a1 0) = some r := h
 clear h
 have H' := Aside0.mk H
 clear H
 go_enter Try.func21, Try.ntmps21
 go_wp2
 go_loopg [5] k (fun kq v5 w' => ∃ (x5_1 : Int), v5 = .int .i64 x5_1 ∧ Aside0 (davitref07_Has.l0 kq l0 a1 x5_1 = some r) ∧ Aside0 (kq ≤ k) ∧ Drawn0 w w')
 case atStart => exact ⟨(0), (by first | rfl | (simp; done) | (simp [*]; done)), H', ⟨Nat.le_refl _⟩, by repeat (first | exact Drawn0.refl _ | apply Drawn0.step)⟩
 case round =>
  clear H'
  try clear c2
  try clear p2
  obtain ⟨x5_1, rfl, HA, HK1, ⟨m1, rfl⟩⟩ := hrel
  cases gk with
  | zero => exact absurd HA.out (by simp [davitref07_Has.l0])
  | succ k1 =>
   have H := HA.out
   clear HA
   simp only [davitref07_Has.l0] at H
   by_cases c3 : x5_1 < (l0.length : Int)
   ·rw [if_pos c3] at H
    have c3b0 : decide (x5_1 < (l0.length : Int)) = true := decide_eq_true c3
    clear c3
    by_cases c4 : 0 ≤ x5_1
    ·rw [if_pos c4] at H
     have c4b0 : decide (0 ≤ x5_1) = true := decide_eq_true c4
     clear c4
     by_cases c5 : (rd l0 x5_1) = a1
     ·rw [if_pos c5] at H
      have c5b0 : ((rd l0 x5_1) == a1) = true := beq_iff_eq.mpr c5
      have c5b1 : ((rd l0 x5_1) != a1) = false := bne_eq_false_iff_eq.mpr c5
      clear c5
      obtain rfl := Option.some.inj H
      have p226 : 0 ≤ (x5_1 : Int) := of_decide_eq_true (by first | (with_reducible assumption) | assumption)
      have q226 : x5_1 < (l0.length : Int) := of_decide_eq_true (by first | (with_reducible assumption) | assumption)
      obtain ⟨ad226, e226, hx226_0⟩ := Kd.at_int HR0.out x5_1 p226 q226
      cases e226
      replace p226 := eq_true p226
      replace q226 := eq_true q226
      go_wp2
      go_ret
      exact ⟨by first | rfl | (simp; done) | (simp [*]; done), by repeat (first | exact Drawn0.refl _ | apply Drawn0.step)⟩
     ·rw [if_neg c5] at H
      have c5b0 : ((rd l0 x5_1) == a1) = false := beq_eq_false_iff_ne.mpr c5
      have c5b1 : ((rd l0 x5_1) != a1) = true := bne_iff_ne.mpr c5
      have H' := Aside0.mk H
      clear H
      have p226 : 0 ≤ (x5_1 : Int) := of_decide_eq_true (by first | (with_reducible assumption) | assumption)
      have q226 : x5_1 < (l0.length : Int) := of_decide_eq_true (by first | (with_reducible assumption) | assumption)
      obtain ⟨ad226, e226, hx226_0⟩ := Kd.at_int HR0.out x5_1 p226 q226
      cases e226
      replace p226 := eq_true p226
      replace q226 := eq_true q226
      go_wp2
      go_roundg k1
      case measure => have := HK1.out; omega
      case rel => exact ⟨(wrap64 (x5_1 + 1)), (by first | rfl | (simp; done) | (simp [*]; done)), H', ⟨by have := HK1.out; omega⟩, by repeat (first | exact Drawn0.refl _ | apply Drawn0.step)⟩
    ·rw [if_neg c4] at H
     exact absurd H (by simp)
   ·rw [if_neg c3] at H
    have c3b0 : decide (x5_1 < (l0.length : Int)) = false := decide_eq_false c3
    clear c3
    obtain rfl := Option.some.inj H
    go_wp2
    go_ret
    exact ⟨by first | rfl | (simp; done) | (simp [*]; done), by repeat (first | exact Drawn0.refl _ | apply Drawn0.step)⟩
end
end Go.Proofs.Ytilopoegoddggaa.X
