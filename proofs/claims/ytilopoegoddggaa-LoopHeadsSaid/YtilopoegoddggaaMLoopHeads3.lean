/- Part 4 of the proof of the statement LoopHeads: the words of the walks, the walks through the functions that it reaches, and the plain laws of what they compute. -/
import Derived.Test.YtilopoegoddggaaMLoopHeads2
namespace Go.Proofs.Ytilopoegoddggaa.X
open Go.RowKit Go.Proofs.YtilopoegoddggaaW.PrintWords Go.Proofs.YtilopoegoddggaaW.PrintLast Go.Proofs.YtilopoegoddggaaW.PrintMore
attribute [local go_sem] max2_int min2_int max_two min_two max_three min_three max_four min_four
set_option linter.all false
noncomputable section
mutual
def davitref07_Next.j0 : Nat → Int → Bool → Int → Int → List (S50) → Option (List Int)
 | 0, _, _, _, _, _ => none
 | k + 1, x1, x17, x151000, x151001, x151002 => if x17 = true then (some ([] : List Int)) else (if 0 ≤ x1 then (if x1 < (x151002.length : Int) then (if ((rd_T50 x151002 x1).f3.f0) = 2 then (davitref07_Next.j1 k ([] : List Int) true x151000 x151001 x151002 ((rd_T50 x151002 x1).f3.f0) ((rd_T50 x151002 x1).f3.f1) ((rd_T50 x151002 x1).f3.f2) ((rd_T50 x151002 x1).f3.f3) ((rd_T50 x151002 x1).f3.f4) ((rd_T50 x151002 x1).f3.f5) ((rd_T50 x151002 x1).f3.f6) ((rd_T50 x151002 x1).f3.f7)) else (if ((rd_T50 x151002 x1).f3.f0) = 3 then (davitref07_Next.j1 k ([] : List Int) true x151000 x151001 x151002 ((rd_T50 x151002 x1).f3.f0) ((rd_T50 x151002 x1).f3.f1) ((rd_T50 x151002 x1).f3.f2) ((rd_T50 x151002 x1).f3.f3) ((rd_T50 x151002 x1).f3.f4) ((rd_T50 x151002 x1).f3.f5) ((rd_T50 x151002 x1).f3.f6) ((rd_T50 x151002 x1).f3.f7)) else (davitref07_Next.j1 k ([] : List Int) (((rd_T50 x151002 x1).f3.f0) == 4) x151000 x151001 x151002 ((rd_T50 x151002 x1).f3.f0) ((rd_T50 x151002 x1).f3.f1) ((rd_T50 x151002 x1).f3.f2) ((rd_T50 x151002 x1).f3.f3) ((rd_T50 x151002 x1).f3.f4) ((rd_T50 x151002 x1).f3.f5) ((rd_T50 x151002 x1).f3.f6) ((rd_T50 x151002 x1).f3.f7)))) else (none)) else (none))
def davitref07_Next.j1 : Nat → List Int → Bool → Int → Int → List (S50) → Int → Int → Int → Int → List Int → Int → Int → Int → Option (List Int)
 | 0, _, _, _, _, _, _, _, _, _, _, _, _, _ => none
 | k + 1, x6, x36, x151000, x151001, x151002, x153000, x153001, x153002, x153003, x153004, x153005, x153006, x153007 => if x36 = true then (if x6.length < 17592186044416 then (davitref07_Next.j2 k (x6 ++ [x153005]) x151000 x151001 x151002 x153000 x153001 x153002 x153003 x153004 x153005 x153006 x153007) else (none)) else (davitref07_Next.j2 k x6 x151000 x151001 x151002 x153000 x153001 x153002 x153003 x153004 x153005 x153006 x153007)
def davitref07_Next.j2 : Nat → List Int → Int → Int → List (S50) → Int → Int → Int → Int → List Int → Int → Int → Int → Option (List Int)
 | 0, _, _, _, _, _, _, _, _, _, _, _, _ => none
 | k + 1, x6, x151000, x151001, x151002, x153000, x153001, x153002, x153003, x153004, x153005, x153006, x153007 => if x153000 = 3 then (if x6.length < 17592186044416 then (davitref07_Next.j3 k (x6 ++ [x153006]) x151000 x151001 x151002 x153000 x153001 x153002 x153003 x153004 x153005 x153006 x153007) else (none)) else (davitref07_Next.j3 k x6 x151000 x151001 x151002 x153000 x153001 x153002 x153003 x153004 x153005 x153006 x153007)
def davitref07_Next.j3 : Nat → List Int → Int → Int → List (S50) → Int → Int → Int → Int → List Int → Int → Int → Int → Option (List Int)
 | 0, _, _, _, _, _, _, _, _, _, _, _, _ => none
 | k + 1, x6, x151000, x151001, x151002, x153000, x153001, x153002, x153003, x153004, x153005, x153006, x153007 => if x153000 = 4 then (if x6.length < 17592186044416 then (davitref07_Next.j4 k (x6 ++ [x153007]) x151000 x151001 x151002) else (none)) else (davitref07_Next.j4 k x6 x151000 x151001 x151002)
def davitref07_Next.j4 : Nat → List Int → Int → Int → List (S50) → Option (List Int)
 | 0, _, _, _, _ => none
 | k + 1, x6, x151000, x151001, x151002 => davitref07_Next.l0 k x6 ([] : List Int) 0 x151000 x151001 x151002
def davitref07_Next.l0 : Nat → List Int → List Int → Int → Int → Int → List (S50) → Option (List Int)
 | 0, _, _, _, _, _, _ => none
 | k + 1, x6, x7, x8, x151000, x151001, x151002 => if x8 < (x6.length : Int) then (if 0 ≤ x8 then (if (rd x6 x8) ≥ 0 then (if (rd x6 x8) < (x151002.length : Int) then (if x7.length < 17592186044416 then (davitref07_Next.l0 k x6 (x7 ++ [rd x6 x8]) (wrap64 (x8 + 1)) x151000 x151001 x151002) else (none)) else (davitref07_Next.l0 k x6 x7 (wrap64 (x8 + 1)) x151000 x151001 x151002)) else (davitref07_Next.l0 k x6 x7 (wrap64 (x8 + 1)) x151000 x151001 x151002)) else (none)) else (some x7)
end
def davitref07_Next.f (k : Nat) (a0_0 : Int) (a0_1 : Int) (l0_2 : List (S50)) (a1 : Int) : Option (List Int) := if a1 < 0 then (davitref07_Next.j0 k a1 true a0_0 a0_1 l0_2) else (davitref07_Next.j0 k a1 (decide (a1 ≥ (l0_2.length : Int))) a0_0 a0_1 l0_2)
theorem davitref07_Next.mono_l : ∀ k, (∀ y0 y1 y2 y3 y4, LeO (davitref07_Next.j0 k y0 y1 y2 y3 y4) (davitref07_Next.j0 (k + 1) y0 y1 y2 y3 y4)) ∧ (∀ y0 y1 y2 y3 y4 y5 y6 y7 y8 y9 y10 y11 y12, LeO (davitref07_Next.j1 k y0 y1 y2 y3 y4 y5 y6 y7 y8 y9 y10 y11 y12) (davitref07_Next.j1 (k + 1) y0 y1 y2 y3 y4 y5 y6 y7 y8 y9 y10 y11 y12)) ∧ (∀ y0 y1 y2 y3 y4 y5 y6 y7 y8 y9 y10 y11, LeO (davitref07_Next.j2 k y0 y1 y2 y3 y4 y5 y6 y7 y8 y9 y10 y11) (davitref07_Next.j2 (k + 1) y0 y1 y2 y3 y4 y5 y6 y7 y8 y9 y10 y11)) ∧ (∀ y0 y1 y2 y3 y4 y5 y6 y7 y8 y9 y10 y11, LeO (davitref07_Next.j3 k y0 y1 y2 y3 y4 y5 y6 y7 y8 y9 y10 y11) (davitref07_Next.j3 (k + 1) y0 y1 y2 y3 y4 y5 y6 y7 y8 y9 y10 y11)) ∧ (∀ y0 y1 y2 y3, LeO (davitref07_Next.j4 k y0 y1 y2 y3) (davitref07_Next.j4 (k + 1) y0 y1 y2 y3)) ∧ (∀ y0 y1 y2 y3 y4 y5, LeO (davitref07_Next.l0 k y0 y1 y2 y3 y4 y5) (davitref07_Next.l0 (k + 1) y0 y1 y2 y3 y4 y5))
 | 0 => ⟨fun _ _ _ _ _ r h => by simp [davitref07_Next.j0] at h, fun _ _ _ _ _ _ _ _ _ _ _ _ _ r h => by simp [davitref07_Next.j1] at h, fun _ _ _ _ _ _ _ _ _ _ _ _ r h => by simp [davitref07_Next.j2] at h, fun _ _ _ _ _ _ _ _ _ _ _ _ r h => by simp [davitref07_Next.j3] at h, fun _ _ _ _ r h => by simp [davitref07_Next.j4] at h, fun _ _ _ _ _ _ r h => by simp [davitref07_Next.l0] at h⟩
 | k + 1 => by
  obtain ⟨ih0, ih1, ih2, ih3, ih4, ih5⟩ := davitref07_Next.mono_l k
  refine ⟨?_, ?_, ?_, ?_, ?_, ?_⟩
  ·intro y0 y1 y2 y3 y4
   unfold davitref07_Next.j0
   repeat' first
   | (with_reducible exact ih0 _ _ _ _ _)
   | (with_reducible exact ih1 _ _ _ _ _ _ _ _ _ _ _ _ _)
   | (with_reducible exact ih2 _ _ _ _ _ _ _ _ _ _ _ _)
   | (with_reducible exact ih3 _ _ _ _ _ _ _ _ _ _ _ _)
   | (with_reducible exact ih4 _ _ _ _)
   | (with_reducible exact ih5 _ _ _ _ _ _)
   | (with_reducible exact LeO.refl _)
   | (with_reducible exact LeO.none _)
   | (with_reducible refine LeO.ite ?_ ?_)
   | (with_reducible refine LeO.bind ?_ (fun _ => ?_))
   | exact ih0 _ _ _ _ _
   | exact ih1 _ _ _ _ _ _ _ _ _ _ _ _ _
   | exact ih2 _ _ _ _ _ _ _ _ _ _ _ _
   | exact ih3 _ _ _ _ _ _ _ _ _ _ _ _
   | exact ih4 _ _ _ _
   | exact ih5 _ _ _ _ _ _
   | exact LeO.none _
   | refine LeO.ite ?_ ?_
   | refine LeO.bind ?_ (fun _ => ?_)
  ·intro y0 y1 y2 y3 y4 y5 y6 y7 y8 y9 y10 y11 y12
   unfold davitref07_Next.j1
   repeat' first
   | (with_reducible exact ih0 _ _ _ _ _)
   | (with_reducible exact ih1 _ _ _ _ _ _ _ _ _ _ _ _ _)
   | (with_reducible exact ih2 _ _ _ _ _ _ _ _ _ _ _ _)
   | (with_reducible exact ih3 _ _ _ _ _ _ _ _ _ _ _ _)
   | (with_reducible exact ih4 _ _ _ _)
   | (with_reducible exact ih5 _ _ _ _ _ _)
   | (with_reducible exact LeO.refl _)
   | (with_reducible exact LeO.none _)
   | (with_reducible refine LeO.ite ?_ ?_)
   | (with_reducible refine LeO.bind ?_ (fun _ => ?_))
   | exact ih0 _ _ _ _ _
   | exact ih1 _ _ _ _ _ _ _ _ _ _ _ _ _
   | exact ih2 _ _ _ _ _ _ _ _ _ _ _ _
   | exact ih3 _ _ _ _ _ _ _ _ _ _ _ _
   | exact ih4 _ _ _ _
   | exact ih5 _ _ _ _ _ _
   | exact LeO.none _
   | refine LeO.ite ?_ ?_
   | refine LeO.bind ?_ (fun _ => ?_)
  ·intro y0 y1 y2 y3 y4 y5 y6 y7 y8 y9 y10 y11
   unfold davitref07_Next.j2
   repeat' first
   | (with_reducible exact ih0 _ _ _ _ _)
   | (with_reducible exact ih1 _ _ _ _ _ _ _ _ _ _ _ _ _)
   | (with_reducible exact ih2 _ _ _ _ _ _ _ _ _ _ _ _)
   | (with_reducible exact ih3 _ _ _ _ _ _ _ _ _ _ _ _)
   | (with_reducible exact ih4 _ _ _ _)
   | (with_reducible exact ih5 _ _ _ _ _ _)
   | (with_reducible exact LeO.refl _)
   | (with_reducible exact LeO.none _)
   | (with_reducible refine LeO.ite ?_ ?_)
   | (with_reducible refine LeO.bind ?_ (fun _ => ?_))
   | exact ih0 _ _ _ _ _
   | exact ih1 _ _ _ _ _ _ _ _ _ _ _ _ _
   | exact ih2 _ _ _ _ _ _ _ _ _ _ _ _
   | exact ih3 _ _ _ _ _ _ _ _ _ _ _ _
   | exact ih4 _ _ _ _
   | exact ih5 _ _ _ _ _ _
   | exact LeO.none _
   | refine LeO.ite ?_ ?_
   | refine LeO.bind ?_ (fun _ => ?_)
  ·intro y0 y1 y2 y3 y4 y5 y6 y7 y8 y9 y10 y11
   unfold davitref07_Next.j3
   repeat' first
   | (with_reducible exact ih0 _ _ _ _ _)
   | (with_reducible exact ih1 _ _ _ _ _ _ _ _ _ _ _ _ _)
   | (with_reducible exact ih2 _ _ _ _ _ _ _ _ _ _ _ _)
   | (with_reducible exact ih3 _ _ _ _ _ _ _ _ _ _ _ _)
   | (with_reducible exact ih4 _ _ _ _)
   | (with_reducible exact ih5 _ _ _ _ _ _)
   | (with_reducible exact LeO.refl _)
   | (with_reducible exact LeO.none _)
   | (with_reducible refine LeO.ite ?_ ?_)
   | (with_reducible refine LeO.bind ?_ (fun _ => ?_))
   | exact ih0 _ _ _ _ _
   | exact ih1 _ _ _ _ _ _ _ _ _ _ _ _ _
   | exact ih2 _ _ _ _ _ _ _ _ _ _ _ _
   | exact ih3 _ _ _ _ _ _ _ _ _ _ _ _
   | exact ih4 _ _ _ _
   | exact ih5 _ _ _ _ _ _
   | exact LeO.none _
   | refine LeO.ite ?_ ?_
   | refine LeO.bind ?_ (fun _ => ?_)
  ·intro y0 y1 y2 y3
   unfold davitref07_Next.j4
   repeat' first
   | (with_reducible exact ih0 _ _ _ _ _)
   | (with_reducible exact ih1 _ _ _ _ _ _ _ _ _ _ _ _ _)
   | (with_reducible exact ih2 _ _ _ _ _ _ _ _ _ _ _ _)
   | (with_reducible exact ih3 _ _ _ _ _ _ _ _ _ _ _ _)
   | (with_reducible exact ih4 _ _ _ _)
   | (with_reducible exact ih5 _ _ _ _ _ _)
   | (with_reducible exact LeO.refl _)
   | (with_reducible exact LeO.none _)
   | (with_reducible refine LeO.ite ?_ ?_)
   | (with_reducible refine LeO.bind ?_ (fun _ => ?_))
   | exact ih0 _ _ _ _ _
   | exact ih1 _ _ _ _ _ _ _ _ _ _ _ _ _
   | exact ih2 _ _ _ _ _ _ _ _ _ _ _ _
   | exact ih3 _ _ _ _ _ _ _ _ _ _ _ _
   | exact ih4 _ _ _ _
   | exact ih5 _ _ _ _ _ _
   | exact LeO.none _
   | refine LeO.ite ?_ ?_
   | refine LeO.bind ?_ (fun _ => ?_)
  ·intro y0 y1 y2 y3 y4 y5
   unfold davitref07_Next.l0
   repeat' first
   | (with_reducible exact ih0 _ _ _ _ _)
   | (with_reducible exact ih1 _ _ _ _ _ _ _ _ _ _ _ _ _)
   | (with_reducible exact ih2 _ _ _ _ _ _ _ _ _ _ _ _)
   | (with_reducible exact ih3 _ _ _ _ _ _ _ _ _ _ _ _)
   | (with_reducible exact ih4 _ _ _ _)
   | (with_reducible exact ih5 _ _ _ _ _ _)
   | (with_reducible exact LeO.refl _)
   | (with_reducible exact LeO.none _)
   | (with_reducible refine LeO.ite ?_ ?_)
   | (with_reducible refine LeO.bind ?_ (fun _ => ?_))
   | exact ih0 _ _ _ _ _
   | exact ih1 _ _ _ _ _ _ _ _ _ _ _ _ _
   | exact ih2 _ _ _ _ _ _ _ _ _ _ _ _
   | exact ih3 _ _ _ _ _ _ _ _ _ _ _ _
   | exact ih4 _ _ _ _
   | exact ih5 _ _ _ _ _ _
   | exact LeO.none _
   | refine LeO.ite ?_ ?_
   | refine LeO.bind ?_ (fun _ => ?_)
theorem davitref07_Next.mono : ∀ a0 a1 a2 a3 k, LeO (davitref07_Next.f k a0 a1 a2 a3) (davitref07_Next.f (k + 1) a0 a1 a2 a3) := by
 intro a0 a1 a2 a3 k
 obtain ⟨ih0, ih1, ih2, ih3, ih4, ih5⟩ := davitref07_Next.mono_l k
 unfold davitref07_Next.f
 repeat' first
   | (with_reducible exact ih0 _ _ _ _ _)
   | (with_reducible exact ih1 _ _ _ _ _ _ _ _ _ _ _ _ _)
   | (with_reducible exact ih2 _ _ _ _ _ _ _ _ _ _ _ _)
   | (with_reducible exact ih3 _ _ _ _ _ _ _ _ _ _ _ _)
   | (with_reducible exact ih4 _ _ _ _)
   | (with_reducible exact ih5 _ _ _ _ _ _)
   | (with_reducible exact LeO.refl _)
   | (with_reducible exact LeO.none _)
   | (with_reducible refine LeO.ite ?_ ?_)
   | (with_reducible refine LeO.bind ?_ (fun _ => ?_))
   | exact ih0 _ _ _ _ _
   | exact ih1 _ _ _ _ _ _ _ _ _ _ _ _ _
   | exact ih2 _ _ _ _ _ _ _ _ _ _ _ _
   | exact ih3 _ _ _ _ _ _ _ _ _ _ _ _
   | exact ih4 _ _ _ _
   | exact ih5 _ _ _ _ _ _
   | exact LeO.none _
   | refine LeO.ite ?_ ?_
   | refine LeO.bind ?_ (fun _ => ?_)
set_option maxHeartbeats 8000000 in
set_option maxRecDepth 100000 in
theorem davitref07_Next.calls (k : Nat) (a0_0 : Int) (a0_1 : Int) (A0_2 : Option Addr) (c0_2 : Nat) (l0_2 : List (S50)) (a1 : Int) (r : List Int) (w : World) (hr0_2 : Kd.C k50 w A0_2 l0_2.length l0_2) (hc0_2 : l0_2.length ≤ c0_2) (h : davitref07_Next.f k a0_0 a0_1 l0_2 a1 = some r) :
  Calls Try.prog 33 #[.agg #[.int .i64 a0_0, .int .i64 a0_1, .slice A0_2 l0_2.length c0_2], .int .i64 a1] w fun e w' => ∃ v0_ : Value, e = .returned (v0_) ∧ Kd.R (Kd.int .i64) 3 w' w.heap.size (fun _ => True) v0_ r ∧ Below w.heap.size w w' := by
 have hu24 := Try.underlying24
 have hu44 := Try.underlying44
 have HR0_2 := Aside0.mk hr0_2
 have HC0_2 := Aside0.mk hc0_2
 clear hr0_2 hc0_2
 have HB := Aside0.mk (Below.refl w.heap.size w)
 have H : (if a1 < 0 then (davitref07_Next.j0 k a1 true a0_0 a0_1 l0_2) else (davitref07_Next.j0 k a1 (decide (a1 ≥ (l0_2.length : Int))) a0_0 a0_1 l0_2)) = some r := h
 clear h
 have HC3 := Aside0.mk H
 clear H
 go_enter Try.func33, Try.ntmps33
 go_upto_region 1 with (first | ((with_reducible refine gate_dst (N := 2) rfl ?_); (try (refine gate_guard (by rfl) ?_; dsimp only)); refine box_event ?hg (N := 2) ?hd (cs := #[.int .i64 a0_0, .int .i64 a0_1, .slice A0_2 l0_2.length c0_2]) (t := 24) ?hr ?_; (case hd => rfl); (case hg => rfl); (case hr => first | (go_simp; done) | (go_simp; rfl)); intro gb150 hg w4 hbox hb; have n0_ := Aside0.mk (below_step (by repeat (first | (with_reducible first | exact HB.out | apply below_alloc | apply pw_below_drewN | apply below_drew1) | exact HB.out)) hb); have n1_ := Aside0.mk (hbox); have n2_ := Aside0.mk ((by rw [hg]; exact (below_size (by repeat (first | (with_reducible first | exact HB.out | apply below_alloc | apply pw_below_drewN | apply below_drew1) | exact HB.out))) : w.heap.size ≤ gb150)); have n3_ := Aside0.mk ((by rw [hg]; exact (below_size (by repeat (first | (with_reducible first | exact HB.out | apply below_alloc | apply pw_below_drewN | apply below_drew1) | exact HB.out))) : w.heap.size ≤ gb150)); clear HB; have HB := n0_; have BK150 := n1_; have GW150 := n2_; have GE150 := n3_; clear n0_ n1_ n2_ n3_; clear hb hbox hg))
 repeat (go_quiet (first | ((with_reducible refine gate_dst (N := 2) rfl ?_); (try (refine gate_guard (by rfl) ?_; dsimp only)); refine box_event ?hg (N := 2) ?hd (cs := #[.int .i64 a0_0, .int .i64 a0_1, .slice A0_2 l0_2.length c0_2]) (t := 24) ?hr ?_; (case hd => rfl); (case hg => rfl); (case hr => first | (go_simp; done) | (go_simp; rfl)); intro gb150 hg w4 hbox hb; have n0_ := Aside0.mk (below_step (by repeat (first | (with_reducible first | exact HB.out | apply below_alloc | apply pw_below_drewN | apply below_drew1) | exact HB.out)) hb); have n1_ := Aside0.mk (hbox); have n2_ := Aside0.mk ((by rw [hg]; exact (below_size (by repeat (first | (with_reducible first | exact HB.out | apply below_alloc | apply pw_below_drewN | apply below_drew1) | exact HB.out))) : w.heap.size ≤ gb150)); have n3_ := Aside0.mk ((by rw [hg]; exact (below_size (by repeat (first | (with_reducible first | exact HB.out | apply below_alloc | apply pw_below_drewN | apply below_drew1) | exact HB.out))) : w.heap.size ≤ gb150)); clear HB; have HB := n0_; have BK150 := n1_; have GW150 := n2_; have GE150 := n3_; clear n0_ n1_ n2_ n3_; clear hb hbox hg)); go_upto_region 1 with (first | ((with_reducible refine gate_dst (N := 2) rfl ?_); (try (refine gate_guard (by rfl) ?_; dsimp only)); refine box_event ?hg (N := 2) ?hd (cs := #[.int .i64 a0_0, .int .i64 a0_1, .slice A0_2 l0_2.length c0_2]) (t := 24) ?hr ?_; (case hd => rfl); (case hg => rfl); (case hr => first | (go_simp; done) | (go_simp; rfl)); intro gb150 hg w4 hbox hb; have n0_ := Aside0.mk (below_step (by repeat (first | (with_reducible first | exact HB.out | apply below_alloc | apply pw_below_drewN | apply below_drew1) | exact HB.out)) hb); have n1_ := Aside0.mk (hbox); have n2_ := Aside0.mk ((by rw [hg]; exact (below_size (by repeat (first | (with_reducible first | exact HB.out | apply below_alloc | apply pw_below_drewN | apply below_drew1) | exact HB.out))) : w.heap.size ≤ gb150)); have n3_ := Aside0.mk ((by rw [hg]; exact (below_size (by repeat (first | (with_reducible first | exact HB.out | apply below_alloc | apply pw_below_drewN | apply below_drew1) | exact HB.out))) : w.heap.size ≤ gb150)); clear HB; have HB := n0_; have BK150 := n1_; have GW150 := n2_; have GE150 := n3_; clear n0_ n1_ n2_ n3_; clear hb hbox hg)))
 (try simp only [Act.put, List.setIfInBounds_toArray, List.set_cons_zero, List.set_cons_succ])
 go_cut [17] (fun v17 wc => ∃ (kq : Nat) (x17_2 : Bool), v17 = .bool x17_2 ∧ Aside0 (davitref07_Next.j0 kq a1 x17_2 a0_0 a0_1 l0_2 = some r) ∧ Aside0 (kq ≤ k) ∧ Aside0 (wc.heap[gb150]? = some (.cells #[.int .i64 a0_0, .int .i64 a0_1, (.slice A0_2 l0_2.length c0_2)] 24 (0, 0))) ∧ Aside0 (Below w.heap.size w wc))
 case first =>
  have H := HC3.out
  clear HC3
  by_cases c5 : a1 < 0
  ·rw [if_pos c5] at H
   have c5b0 : decide (a1 < 0) = true := decide_eq_true c5
   clear c5
   (first | rw [c5b0] | (simp only [i64_w, i32_w]; rw [c5b0]) | skip)
   have H' := Aside0.mk H
   clear H
   go_wp2
   repeat (go_quiet (fail); try go_wp2)
   go_meet
   case rel => exact ⟨_, (true), (by first | rfl | (simp; done) | (simp [*]; done)), H', ⟨by first | omega | exact Nat.le_refl _⟩, ⟨by (with_reducible repeat (first | refine blk_drewN ?_ _ | refine blk_drew ?_ | refine blk_alloc ?_ _)); exact BK150.out⟩, ⟨by repeat (first | (with_reducible first | exact HB.out | apply below_alloc | apply pw_below_drewN | apply below_drew1 | refine below_set ?_ GE150.out) | exact HB.out)⟩⟩
  ·rw [if_neg c5] at H
   have c5b0 : decide (a1 < 0) = false := decide_eq_false c5
   clear c5
   (first | rw [c5b0] | (simp only [i64_w, i32_w]; rw [c5b0]) | skip)
   have H' := Aside0.mk H
   clear H
   have hcz6_0 : w4.cell? ⟨gb150, 0, none⟩ = some (.int .i64 a0_0) := (blk_cell BK150.out 0).trans rfl
   have hcz6_1 : w4.cell? ⟨gb150, 1, none⟩ = some (.int .i64 a0_1) := (blk_cell BK150.out 1).trans rfl
   have hcz6_2 : w4.cell? ⟨gb150, 2, none⟩ = some (.slice A0_2 l0_2.length c0_2) := (blk_cell BK150.out 2).trans rfl
   have hfz6_0 := blk_frozen BK150.out 0
   have hfz6_1 := blk_frozen BK150.out 1
   have hfz6_2 := blk_frozen BK150.out 2
   go_wp2
   repeat (go_quiet (fail); try go_wp2)
   go_meet
   case rel => exact ⟨_, (decide (a1 ≥ (l0_2.length : Int))), (by first | rfl | (simp; done) | (simp [*]; done)), H', ⟨by first | omega | exact Nat.le_refl _⟩, ⟨by (with_reducible repeat (first | refine blk_drewN ?_ _ | refine blk_drew ?_ | refine blk_alloc ?_ _)); exact BK150.out⟩, ⟨by repeat (first | (with_reducible first | exact HB.out | apply below_alloc | apply pw_below_drewN | apply below_drew1 | refine below_set ?_ GE150.out) | exact HB.out)⟩⟩
 case rest =>
  clear HC3
  try clear p2
  try clear c3
  try clear c5
  try clear c5b0
  try clear hcz6_0
  try clear hcz6_1
  try clear hcz6_2
  try clear hfz6_0
  try clear hfz6_1
  try clear hfz6_2
  obtain ⟨kq, x17_2, rfl, HA, HJ2, BK150, HB⟩ := hcut
  cases kq with
  | zero => exact absurd HA.out (by simp [davitref07_Next.j0])
  | succ kj2 =>
   have H := HA.out
   clear HA
   simp only [davitref07_Next.j0] at H
   by_cases c7 : x17_2 = true
   ·subst c7
    have H1 : (some ([] : List Int)) = some r := by rw [if_pos rfl] at H; exact H
    clear H
    have H := H1
    clear H1
    obtain rfl := Option.some.inj H
    go_wp2
    repeat (go_quiet (fail); try go_wp2)
    go_ret
    exact ⟨_, by first | rfl | (simp [errW_none, errW_some] <;> rfl) | (simp [*, errW_none, errW_some] <;> rfl), by first | exact Kd.R_nil _ _ _ _ _ | exact Kd.N_nil _ _ _ _ _ | exact Kd.V_nil _ _ _ _ _ | exact Kd.Q_nil _ _ _ _ _ | exact Kd.S_nil _ _ _ _ _, by repeat (first | (with_reducible first | exact HB.out | apply below_alloc | apply pw_below_drewN | apply below_drew1 | refine below_set ?_ GE150.out) | exact HB.out)⟩
   ·replace c7 := Bool.eq_false_iff.mpr c7
    subst c7
    have H1 : (if 0 ≤ a1 then (if a1 < (l0_2.length : Int) then (if ((rd_T50 l0_2 a1).f3.f0) = 2 then (davitref07_Next.j1 kj2 ([] : List Int) true a0_0 a0_1 l0_2 ((rd_T50 l0_2 a1).f3.f0) ((rd_T50 l0_2 a1).f3.f1) ((rd_T50 l0_2 a1).f3.f2) ((rd_T50 l0_2 a1).f3.f3) ((rd_T50 l0_2 a1).f3.f4) ((rd_T50 l0_2 a1).f3.f5) ((rd_T50 l0_2 a1).f3.f6) ((rd_T50 l0_2 a1).f3.f7)) else (if ((rd_T50 l0_2 a1).f3.f0) = 3 then (davitref07_Next.j1 kj2 ([] : List Int) true a0_0 a0_1 l0_2 ((rd_T50 l0_2 a1).f3.f0) ((rd_T50 l0_2 a1).f3.f1) ((rd_T50 l0_2 a1).f3.f2) ((rd_T50 l0_2 a1).f3.f3) ((rd_T50 l0_2 a1).f3.f4) ((rd_T50 l0_2 a1).f3.f5) ((rd_T50 l0_2 a1).f3.f6) ((rd_T50 l0_2 a1).f3.f7)) else (davitref07_Next.j1 kj2 ([] : List Int) (((rd_T50 l0_2 a1).f3.f0) == 4) a0_0 a0_1 l0_2 ((rd_T50 l0_2 a1).f3.f0) ((rd_T50 l0_2 a1).f3.f1) ((rd_T50 l0_2 a1).f3.f2) ((rd_T50 l0_2 a1).f3.f3) ((rd_T50 l0_2 a1).f3.f4) ((rd_T50 l0_2 a1).f3.f5) ((rd_T50 l0_2 a1).f3.f6) ((rd_T50 l0_2 a1).f3.f7)))) else (none)) else (none)) = some r := by rw [if_neg (show ¬ (false = true) by decide)] at H; exact H
    clear H
    have H := H1
    clear H1
    by_cases c8 : 0 ≤ a1
    ·rw [if_pos c8] at H
     have c8b0 : decide (0 ≤ a1) = true := decide_eq_true c8
     clear c8
     by_cases c9 : a1 < (l0_2.length : Int)
     ·rw [if_pos c9] at H
      have c9b0 : decide (a1 < (l0_2.length : Int)) = true := decide_eq_true c9
      clear c9
      have HC10 := Aside0.mk H
      clear H
      have hcz11_0 : wc.cell? ⟨gb150, 0, none⟩ = some (.int .i64 a0_0) := (blk_cell BK150.out 0).trans rfl
      have hcz11_1 : wc.cell? ⟨gb150, 1, none⟩ = some (.int .i64 a0_1) := (blk_cell BK150.out 1).trans rfl
      have hcz11_2 : wc.cell? ⟨gb150, 2, none⟩ = some (.slice A0_2 l0_2.length c0_2) := (blk_cell BK150.out 2).trans rfl
      have hfz11_0 := blk_frozen BK150.out 0
      have hfz11_1 := blk_frozen BK150.out 1
      have hfz11_2 := blk_frozen BK150.out 2
      have p151 : 0 ≤ (a1 : Int) := of_decide_eq_true (by first | (with_reducible assumption) | assumption)
      have q151 : a1 < (l0_2.length : Int) := of_decide_eq_true (by first | (with_reducible assumption) | assumption)
      obtain ⟨ad151, A151_2, c151_2, A151_5, c151_5, A151_10, c151_10, e151, hx151_0, hx151_1, hx151_2, hx151_3, hx151_4, hx151_5, hx151_6, hx151_7, hx151_8, hx151_9, hx151_10, hx151_11, hx151_12, hx151_13, hl151_2, hi151_2, hl151_5, hi151_5, hl151_10, hi151_10⟩ := at_T50 HR0_2.out a1 p151 q151
      cases e151
      replace hx151_0 := (HB.out.cell (World.block_lt_of_cell? w _ hx151_0)).trans hx151_0
      replace hx151_1 := (HB.out.cell (World.block_lt_of_cell? w _ hx151_1)).trans hx151_1
      replace hx151_2 := (HB.out.cell (World.block_lt_of_cell? w _ hx151_2)).trans hx151_2
      replace hx151_3 := (HB.out.cell (World.block_lt_of_cell? w _ hx151_3)).trans hx151_3
      replace hx151_4 := (HB.out.cell (World.block_lt_of_cell? w _ hx151_4)).trans hx151_4
      replace hx151_5 := (HB.out.cell (World.block_lt_of_cell? w _ hx151_5)).trans hx151_5
      replace hx151_6 := (HB.out.cell (World.block_lt_of_cell? w _ hx151_6)).trans hx151_6
      replace hx151_7 := (HB.out.cell (World.block_lt_of_cell? w _ hx151_7)).trans hx151_7
      replace hx151_8 := (HB.out.cell (World.block_lt_of_cell? w _ hx151_8)).trans hx151_8
      replace hx151_9 := (HB.out.cell (World.block_lt_of_cell? w _ hx151_9)).trans hx151_9
      replace hx151_10 := (HB.out.cell (World.block_lt_of_cell? w _ hx151_10)).trans hx151_10
      replace hx151_11 := (HB.out.cell (World.block_lt_of_cell? w _ hx151_11)).trans hx151_11
      replace hx151_12 := (HB.out.cell (World.block_lt_of_cell? w _ hx151_12)).trans hx151_12
      replace hx151_13 := (HB.out.cell (World.block_lt_of_cell? w _ hx151_13)).trans hx151_13
      have HR151_2 := Aside0.mk hi151_2
      have HC151_2 := Aside0.mk hl151_2
      clear hi151_2 hl151_2
      have HR151_5 := Aside0.mk hi151_5
      have HC151_5 := Aside0.mk hl151_5
      clear hi151_5 hl151_5
      have HR151_10 := Aside0.mk hi151_10
      have HC151_10 := Aside0.mk hl151_10
      clear hi151_10 hl151_10
      replace p151 := eq_true p151
      replace q151 := eq_true q151
      go_upto_region 5 with (first | ((with_reducible refine gate_dst (N := 5) rfl ?_); (try (refine gate_guard (by rfl) ?_; dsimp only)); refine box_event ?hg (N := 5) ?hd (cs := #[.int .i64 0, .int .i64 0, .int .i64 0, .int .i64 0, .slice none 0 0, .int .i64 0, .int .i64 0, .int .i64 0]) (t := 44) ?hr ?_; (case hd => rfl); (case hg => rfl); (case hr => first | (go_simp; done) | (go_simp; rfl)); intro gb152 hg w12 hbox hb; have n0_ := Aside0.mk (blk_below (g := gb150) (o := .cells #[.int .i64 a0_0, .int .i64 a0_1, .slice (some ad151) l0_2.length c0_2] 24 (0, 0)) (by (with_reducible repeat (first | refine blk_drewN ?_ _ | refine blk_drew ?_ | refine blk_alloc ?_ _)); exact BK150.out) hb); have n1_ := Aside0.mk (below_step (by repeat (first | (with_reducible first | exact HB.out | apply below_alloc | apply pw_below_drewN | apply below_drew1 | refine below_set ?_ GE150.out) | exact HB.out)) hb); have n2_ := Aside0.mk (hbox); have n3_ := Aside0.mk ((by rw [hg]; exact (below_size (by repeat (first | (with_reducible first | exact HB.out | apply below_alloc | apply pw_below_drewN | apply below_drew1 | refine below_set ?_ GE150.out) | exact HB.out))) : w.heap.size ≤ gb152)); have n4_ := Aside0.mk ((by rw [hg]; exact (below_size (by repeat (first | (with_reducible first | exact HB.out | apply below_alloc | apply pw_below_drewN | apply below_drew1 | refine below_set ?_ GE150.out) | exact HB.out))) : w.heap.size ≤ gb152)); have n5_ := Aside0.mk ((by rw [hg]; exact Nat.ne_of_lt (blk_lt (g := gb150) (o := .cells #[.int .i64 a0_0, .int .i64 a0_1, .slice (some ad151) l0_2.length c0_2] 24 (0, 0)) (by (with_reducible repeat (first | refine blk_drewN ?_ _ | refine blk_drew ?_ | refine blk_alloc ?_ _)); exact BK150.out)) : gb150 ≠ gb152)); have n6_ := Aside0.mk ((by rw [hg]; exact Nat.ne_of_gt (blk_lt (g := gb150) (o := .cells #[.int .i64 a0_0, .int .i64 a0_1, .slice (some ad151) l0_2.length c0_2] 24 (0, 0)) (by (with_reducible repeat (first | refine blk_drewN ?_ _ | refine blk_drew ?_ | refine blk_alloc ?_ _)); exact BK150.out)) : gb152 ≠ gb150)); clear BK150; clear HB; have BK150 := n0_; have HB := n1_; have BK152 := n2_; have GW152 := n3_; have GE152 := n4_; have NB150_152 := n5_; have NB152_150 := n6_; clear n0_ n1_ n2_ n3_ n4_ n5_ n6_; clear hb hbox hg; have hnb13 := NB152_150.out; have hnc13 := NB150_152.out; have hcz14_0 : w12.cell? ⟨gb152, 0, none⟩ = some (.int .i64 0) := (blk_cell BK152.out 0).trans rfl; have hcz14_1 : w12.cell? ⟨gb152, 1, none⟩ = some (.int .i64 0) := (blk_cell BK152.out 1).trans rfl; have hcz14_2 : w12.cell? ⟨gb152, 2, none⟩ = some (.int .i64 0) := (blk_cell BK152.out 2).trans rfl; have hcz14_3 : w12.cell? ⟨gb152, 3, none⟩ = some (.int .i64 0) := (blk_cell BK152.out 3).trans rfl; have hcz14_4 : w12.cell? ⟨gb152, 4, none⟩ = some (.slice none 0 0) := (blk_cell BK152.out 4).trans rfl; have hcz14_5 : w12.cell? ⟨gb152, 5, none⟩ = some (.int .i64 0) := (blk_cell BK152.out 5).trans rfl; have hcz14_6 : w12.cell? ⟨gb152, 6, none⟩ = some (.int .i64 0) := (blk_cell BK152.out 6).trans rfl; have hcz14_7 : w12.cell? ⟨gb152, 7, none⟩ = some (.int .i64 0) := (blk_cell BK152.out 7).trans rfl; have hfz14_0 := blk_frozen BK152.out 0; have hfz14_1 := blk_frozen BK152.out 1; have hfz14_2 := blk_frozen BK152.out 2; have hfz14_3 := blk_frozen BK152.out 3; have hfz14_4 := blk_frozen BK152.out 4; have hfz14_5 := blk_frozen BK152.out 5; have hfz14_6 := blk_frozen BK152.out 6; have hfz14_7 := blk_frozen BK152.out 7))
      repeat (go_quiet (first | ((with_reducible refine gate_dst (N := 5) rfl ?_); (try (refine gate_guard (by rfl) ?_; dsimp only)); refine box_event ?hg (N := 5) ?hd (cs := #[.int .i64 0, .int .i64 0, .int .i64 0, .int .i64 0, .slice none 0 0, .int .i64 0, .int .i64 0, .int .i64 0]) (t := 44) ?hr ?_; (case hd => rfl); (case hg => rfl); (case hr => first | (go_simp; done) | (go_simp; rfl)); intro gb152 hg w12 hbox hb; have n0_ := Aside0.mk (blk_below (g := gb150) (o := .cells #[.int .i64 a0_0, .int .i64 a0_1, .slice (some ad151) l0_2.length c0_2] 24 (0, 0)) (by (with_reducible repeat (first | refine blk_drewN ?_ _ | refine blk_drew ?_ | refine blk_alloc ?_ _)); exact BK150.out) hb); have n1_ := Aside0.mk (below_step (by repeat (first | (with_reducible first | exact HB.out | apply below_alloc | apply pw_below_drewN | apply below_drew1 | refine below_set ?_ GE150.out) | exact HB.out)) hb); have n2_ := Aside0.mk (hbox); have n3_ := Aside0.mk ((by rw [hg]; exact (below_size (by repeat (first | (with_reducible first | exact HB.out | apply below_alloc | apply pw_below_drewN | apply below_drew1 | refine below_set ?_ GE150.out) | exact HB.out))) : w.heap.size ≤ gb152)); have n4_ := Aside0.mk ((by rw [hg]; exact (below_size (by repeat (first | (with_reducible first | exact HB.out | apply below_alloc | apply pw_below_drewN | apply below_drew1 | refine below_set ?_ GE150.out) | exact HB.out))) : w.heap.size ≤ gb152)); have n5_ := Aside0.mk ((by rw [hg]; exact Nat.ne_of_lt (blk_lt (g := gb150) (o := .cells #[.int .i64 a0_0, .int .i64 a0_1, .slice (some ad151) l0_2.length c0_2] 24 (0, 0)) (by (with_reducible repeat (first | refine blk_drewN ?_ _ | refine blk_drew ?_ | refine blk_alloc ?_ _)); exact BK150.out)) : gb150 ≠ gb152)); have n6_ := Aside0.mk ((by rw [hg]; exact Nat.ne_of_gt (blk_lt (g := gb150) (o := .cells #[.int .i64 a0_0, .int .i64 a0_1, .slice (some ad151) l0_2.length c0_2] 24 (0, 0)) (by (with_reducible repeat (first | refine blk_drewN ?_ _ | refine blk_drew ?_ | refine blk_alloc ?_ _)); exact BK150.out)) : gb152 ≠ gb150)); clear BK150; clear HB; have BK150 := n0_; have HB := n1_; have BK152 := n2_; have GW152 := n3_; have GE152 := n4_; have NB150_152 := n5_; have NB152_150 := n6_; clear n0_ n1_ n2_ n3_ n4_ n5_ n6_; clear hb hbox hg; have hnb13 := NB152_150.out; have hnc13 := NB150_152.out; have hcz14_0 : w12.cell? ⟨gb152, 0, none⟩ = some (.int .i64 0) := (blk_cell BK152.out 0).trans rfl; have hcz14_1 : w12.cell? ⟨gb152, 1, none⟩ = some (.int .i64 0) := (blk_cell BK152.out 1).trans rfl; have hcz14_2 : w12.cell? ⟨gb152, 2, none⟩ = some (.int .i64 0) := (blk_cell BK152.out 2).trans rfl; have hcz14_3 : w12.cell? ⟨gb152, 3, none⟩ = some (.int .i64 0) := (blk_cell BK152.out 3).trans rfl; have hcz14_4 : w12.cell? ⟨gb152, 4, none⟩ = some (.slice none 0 0) := (blk_cell BK152.out 4).trans rfl; have hcz14_5 : w12.cell? ⟨gb152, 5, none⟩ = some (.int .i64 0) := (blk_cell BK152.out 5).trans rfl; have hcz14_6 : w12.cell? ⟨gb152, 6, none⟩ = some (.int .i64 0) := (blk_cell BK152.out 6).trans rfl; have hcz14_7 : w12.cell? ⟨gb152, 7, none⟩ = some (.int .i64 0) := (blk_cell BK152.out 7).trans rfl; have hfz14_0 := blk_frozen BK152.out 0; have hfz14_1 := blk_frozen BK152.out 1; have hfz14_2 := blk_frozen BK152.out 2; have hfz14_3 := blk_frozen BK152.out 3; have hfz14_4 := blk_frozen BK152.out 4; have hfz14_5 := blk_frozen BK152.out 5; have hfz14_6 := blk_frozen BK152.out 6; have hfz14_7 := blk_frozen BK152.out 7)); go_upto_region 5 with (first | ((with_reducible refine gate_dst (N := 5) rfl ?_); (try (refine gate_guard (by rfl) ?_; dsimp only)); refine box_event ?hg (N := 5) ?hd (cs := #[.int .i64 0, .int .i64 0, .int .i64 0, .int .i64 0, .slice none 0 0, .int .i64 0, .int .i64 0, .int .i64 0]) (t := 44) ?hr ?_; (case hd => rfl); (case hg => rfl); (case hr => first | (go_simp; done) | (go_simp; rfl)); intro gb152 hg w12 hbox hb; have n0_ := Aside0.mk (blk_below (g := gb150) (o := .cells #[.int .i64 a0_0, .int .i64 a0_1, .slice (some ad151) l0_2.length c0_2] 24 (0, 0)) (by (with_reducible repeat (first | refine blk_drewN ?_ _ | refine blk_drew ?_ | refine blk_alloc ?_ _)); exact BK150.out) hb); have n1_ := Aside0.mk (below_step (by repeat (first | (with_reducible first | exact HB.out | apply below_alloc | apply pw_below_drewN | apply below_drew1 | refine below_set ?_ GE150.out) | exact HB.out)) hb); have n2_ := Aside0.mk (hbox); have n3_ := Aside0.mk ((by rw [hg]; exact (below_size (by repeat (first | (with_reducible first | exact HB.out | apply below_alloc | apply pw_below_drewN | apply below_drew1 | refine below_set ?_ GE150.out) | exact HB.out))) : w.heap.size ≤ gb152)); have n4_ := Aside0.mk ((by rw [hg]; exact (below_size (by repeat (first | (with_reducible first | exact HB.out | apply below_alloc | apply pw_below_drewN | apply below_drew1 | refine below_set ?_ GE150.out) | exact HB.out))) : w.heap.size ≤ gb152)); have n5_ := Aside0.mk ((by rw [hg]; exact Nat.ne_of_lt (blk_lt (g := gb150) (o := .cells #[.int .i64 a0_0, .int .i64 a0_1, .slice (some ad151) l0_2.length c0_2] 24 (0, 0)) (by (with_reducible repeat (first | refine blk_drewN ?_ _ | refine blk_drew ?_ | refine blk_alloc ?_ _)); exact BK150.out)) : gb150 ≠ gb152)); have n6_ := Aside0.mk ((by rw [hg]; exact Nat.ne_of_gt (blk_lt (g := gb150) (o := .cells #[.int .i64 a0_0, .int .i64 a0_1, .slice (some ad151) l0_2.length c0_2] 24 (0, 0)) (by (with_reducible repeat (first | refine blk_drewN ?_ _ | refine blk_drew ?_ | refine blk_alloc ?_ _)); exact BK150.out)) : gb152 ≠ gb150)); clear BK150; clear HB; have BK150 := n0_; have HB := n1_; have BK152 := n2_; have GW152 := n3_; have GE152 := n4_; have NB150_152 := n5_; have NB152_150 := n6_; clear n0_ n1_ n2_ n3_ n4_ n5_ n6_; clear hb hbox hg; have hnb13 := NB152_150.out; have hnc13 := NB150_152.out; have hcz14_0 : w12.cell? ⟨gb152, 0, none⟩ = some (.int .i64 0) := (blk_cell BK152.out 0).trans rfl; have hcz14_1 : w12.cell? ⟨gb152, 1, none⟩ = some (.int .i64 0) := (blk_cell BK152.out 1).trans rfl; have hcz14_2 : w12.cell? ⟨gb152, 2, none⟩ = some (.int .i64 0) := (blk_cell BK152.out 2).trans rfl; have hcz14_3 : w12.cell? ⟨gb152, 3, none⟩ = some (.int .i64 0) := (blk_cell BK152.out 3).trans rfl; have hcz14_4 : w12.cell? ⟨gb152, 4, none⟩ = some (.slice none 0 0) := (blk_cell BK152.out 4).trans rfl; have hcz14_5 : w12.cell? ⟨gb152, 5, none⟩ = some (.int .i64 0) := (blk_cell BK152.out 5).trans rfl; have hcz14_6 : w12.cell? ⟨gb152, 6, none⟩ = some (.int .i64 0) := (blk_cell BK152.out 6).trans rfl; have hcz14_7 : w12.cell? ⟨gb152, 7, none⟩ = some (.int .i64 0) := (blk_cell BK152.out 7).trans rfl; have hfz14_0 := blk_frozen BK152.out 0; have hfz14_1 := blk_frozen BK152.out 1; have hfz14_2 := blk_frozen BK152.out 2; have hfz14_3 := blk_frozen BK152.out 3; have hfz14_4 := blk_frozen BK152.out 4; have hfz14_5 := blk_frozen BK152.out 5; have hfz14_6 := blk_frozen BK152.out 6; have hfz14_7 := blk_frozen BK152.out 7)))
      (try simp only [Act.put, List.setIfInBounds_toArray, List.set_cons_zero, List.set_cons_succ])
      go_cut [36] (fun v36 wc => ∃ (kq : Nat) (x36_9 : Bool), v36 = .bool x36_9 ∧ Aside0 (davitref07_Next.j1 kq ([] : List Int) x36_9 a0_0 a0_1 l0_2 ((rd_T50 l0_2 a1).f3.f0) ((rd_T50 l0_2 a1).f3.f1) ((rd_T50 l0_2 a1).f3.f2) ((rd_T50 l0_2 a1).f3.f3) ((rd_T50 l0_2 a1).f3.f4) ((rd_T50 l0_2 a1).f3.f5) ((rd_T50 l0_2 a1).f3.f6) ((rd_T50 l0_2 a1).f3.f7) = some r) ∧ Aside0 (kq ≤ kj2) ∧ Aside0 (Kd.R (Kd.int .i64) 3 wc w.heap.size (fun _ => True) (.slice none 0 0) ([] : List Int)) ∧ Aside0 (wc.heap[gb150]? = some (.cells #[.int .i64 a0_0, .int .i64 a0_1, (.slice (some ad151) l0_2.length c0_2)] 24 (0, 0))) ∧ Aside0 (wc.heap[gb152]? = some (.cells #[.int .i64 ((rd_T50 l0_2 a1).f3.f0), .int .i64 ((rd_T50 l0_2 a1).f3.f1), .int .i64 ((rd_T50 l0_2 a1).f3.f2), .int .i64 ((rd_T50 l0_2 a1).f3.f3), (.slice A151_10 ((rd_T50 l0_2 a1).f3.f4).length c151_10), .int .i64 ((rd_T50 l0_2 a1).f3.f5), .int .i64 ((rd_T50 l0_2 a1).f3.f6), .int .i64 ((rd_T50 l0_2 a1).f3.f7)] 44 (0, 0))) ∧ Aside0 (Below w.heap.size w wc))
      case first =>
       have H := HC10.out
       clear HC10
       by_cases c15 : ((rd_T50 l0_2 a1).f3.f0) = 2
       ·rw [if_pos c15] at H
        have c15b0 : (((rd_T50 l0_2 a1).f3.f0) == 2) = true := beq_iff_eq.mpr c15
        have c15b1 : (((rd_T50 l0_2 a1).f3.f0) != 2) = false := bne_eq_false_iff_eq.mpr c15
        clear c15
        (first | rw [c15b0] | (simp only [i64_w, i32_w]; rw [c15b0]) | skip)
        have H' := Aside0.mk H
        clear H
        have hnb16 := NB152_150.out
        have hnc16 := NB150_152.out
        have hcz17_0 : w12.cell? ⟨gb152, 0, none⟩ = some (.int .i64 0) := (blk_cell BK152.out 0).trans rfl
        have hcz17_1 : w12.cell? ⟨gb152, 1, none⟩ = some (.int .i64 0) := (blk_cell BK152.out 1).trans rfl
        have hcz17_2 : w12.cell? ⟨gb152, 2, none⟩ = some (.int .i64 0) := (blk_cell BK152.out 2).trans rfl
        have hcz17_3 : w12.cell? ⟨gb152, 3, none⟩ = some (.int .i64 0) := (blk_cell BK152.out 3).trans rfl
        have hcz17_4 : w12.cell? ⟨gb152, 4, none⟩ = some (.slice none 0 0) := (blk_cell BK152.out 4).trans rfl
        have hcz17_5 : w12.cell? ⟨gb152, 5, none⟩ = some (.int .i64 0) := (blk_cell BK152.out 5).trans rfl
        have hcz17_6 : w12.cell? ⟨gb152, 6, none⟩ = some (.int .i64 0) := (blk_cell BK152.out 6).trans rfl
        have hcz17_7 : w12.cell? ⟨gb152, 7, none⟩ = some (.int .i64 0) := (blk_cell BK152.out 7).trans rfl
        have hfz17_0 := blk_frozen BK152.out 0
        have hfz17_1 := blk_frozen BK152.out 1
        have hfz17_2 := blk_frozen BK152.out 2
        have hfz17_3 := blk_frozen BK152.out 3
        have hfz17_4 := blk_frozen BK152.out 4
        have hfz17_5 := blk_frozen BK152.out 5
        have hfz17_6 := blk_frozen BK152.out 6
        have hfz17_7 := blk_frozen BK152.out 7
        go_wp2
        repeat (go_quiet (fail); try go_wp2)
        go_meet
        case rel => exact ⟨_, (true), (by first | rfl | (simp; done) | (simp [*]; done)), H', ⟨by have := HJ2.out; first | omega | exact Nat.le_refl _⟩, ⟨by first | exact Kd.R_nil _ _ _ _ _ | exact Kd.N_nil _ _ _ _ _ | exact Kd.V_nil _ _ _ _ _ | exact Kd.Q_nil _ _ _ _ _ | exact Kd.S_nil _ _ _ _ _⟩, ⟨by (with_reducible repeat (first | refine blk_drewN ?_ _ | refine blk_drew ?_ | refine blk_alloc ?_ _)); refine blk_far ?_ NB150_152.out _; (with_reducible repeat (first | refine blk_drewN ?_ _ | refine blk_drew ?_ | refine blk_alloc ?_ _)); refine blk_far ?_ NB150_152.out _; (with_reducible repeat (first | refine blk_drewN ?_ _ | refine blk_drew ?_ | refine blk_alloc ?_ _)); refine blk_far ?_ NB150_152.out _; (with_reducible repeat (first | refine blk_drewN ?_ _ | refine blk_drew ?_ | refine blk_alloc ?_ _)); refine blk_far ?_ NB150_152.out _; (with_reducible repeat (first | refine blk_drewN ?_ _ | refine blk_drew ?_ | refine blk_alloc ?_ _)); refine blk_far ?_ NB150_152.out _; (with_reducible repeat (first | refine blk_drewN ?_ _ | refine blk_drew ?_ | refine blk_alloc ?_ _)); refine blk_far ?_ NB150_152.out _; (with_reducible repeat (first | refine blk_drewN ?_ _ | refine blk_drew ?_ | refine blk_alloc ?_ _)); refine blk_far ?_ NB150_152.out _; (with_reducible repeat (first | refine blk_drewN ?_ _ | refine blk_drew ?_ | refine blk_alloc ?_ _)); refine blk_far ?_ NB150_152.out _; (with_reducible repeat (first | refine blk_drewN ?_ _ | refine blk_drew ?_ | refine blk_alloc ?_ _)); exact BK150.out⟩, ⟨by (with_reducible repeat (first | refine blk_drewN ?_ _ | refine blk_drew ?_ | refine blk_alloc ?_ _)); refine blk_put (cs := #[.int .i64 ((rd_T50 l0_2 a1).f3.f0), .int .i64 ((rd_T50 l0_2 a1).f3.f1), .int .i64 ((rd_T50 l0_2 a1).f3.f2), .int .i64 ((rd_T50 l0_2 a1).f3.f3), .slice A151_10 ((rd_T50 l0_2 a1).f3.f4).length c151_10, .int .i64 ((rd_T50 l0_2 a1).f3.f5), .int .i64 ((rd_T50 l0_2 a1).f3.f6), .int .i64 0]) ?_ 7 _ rfl; (with_reducible repeat (first | refine blk_drewN ?_ _ | refine blk_drew ?_ | refine blk_alloc ?_ _)); refine blk_put (cs := #[.int .i64 ((rd_T50 l0_2 a1).f3.f0), .int .i64 ((rd_T50 l0_2 a1).f3.f1), .int .i64 ((rd_T50 l0_2 a1).f3.f2), .int .i64 ((rd_T50 l0_2 a1).f3.f3), .slice A151_10 ((rd_T50 l0_2 a1).f3.f4).length c151_10, .int .i64 ((rd_T50 l0_2 a1).f3.f5), .int .i64 0, .int .i64 0]) ?_ 6 _ rfl; (with_reducible repeat (first | refine blk_drewN ?_ _ | refine blk_drew ?_ | refine blk_alloc ?_ _)); refine blk_put (cs := #[.int .i64 ((rd_T50 l0_2 a1).f3.f0), .int .i64 ((rd_T50 l0_2 a1).f3.f1), .int .i64 ((rd_T50 l0_2 a1).f3.f2), .int .i64 ((rd_T50 l0_2 a1).f3.f3), .slice A151_10 ((rd_T50 l0_2 a1).f3.f4).length c151_10, .int .i64 0, .int .i64 0, .int .i64 0]) ?_ 5 _ rfl; (with_reducible repeat (first | refine blk_drewN ?_ _ | refine blk_drew ?_ | refine blk_alloc ?_ _)); refine blk_put (cs := #[.int .i64 ((rd_T50 l0_2 a1).f3.f0), .int .i64 ((rd_T50 l0_2 a1).f3.f1), .int .i64 ((rd_T50 l0_2 a1).f3.f2), .int .i64 ((rd_T50 l0_2 a1).f3.f3), .slice none 0 0, .int .i64 0, .int .i64 0, .int .i64 0]) ?_ 4 _ rfl; (with_reducible repeat (first | refine blk_drewN ?_ _ | refine blk_drew ?_ | refine blk_alloc ?_ _)); refine blk_put (cs := #[.int .i64 ((rd_T50 l0_2 a1).f3.f0), .int .i64 ((rd_T50 l0_2 a1).f3.f1), .int .i64 ((rd_T50 l0_2 a1).f3.f2), .int .i64 0, .slice none 0 0, .int .i64 0, .int .i64 0, .int .i64 0]) ?_ 3 _ rfl; (with_reducible repeat (first | refine blk_drewN ?_ _ | refine blk_drew ?_ | refine blk_alloc ?_ _)); refine blk_put (cs := #[.int .i64 ((rd_T50 l0_2 a1).f3.f0), .int .i64 ((rd_T50 l0_2 a1).f3.f1), .int .i64 0, .int .i64 0, .slice none 0 0, .int .i64 0, .int .i64 0, .int .i64 0]) ?_ 2 _ rfl; (with_reducible repeat (first | refine blk_drewN ?_ _ | refine blk_drew ?_ | refine blk_alloc ?_ _)); refine blk_put (cs := #[.int .i64 ((rd_T50 l0_2 a1).f3.f0), .int .i64 0, .int .i64 0, .int .i64 0, .slice none 0 0, .int .i64 0, .int .i64 0, .int .i64 0]) ?_ 1 _ rfl; (with_reducible repeat (first | refine blk_drewN ?_ _ | refine blk_drew ?_ | refine blk_alloc ?_ _)); refine blk_put (cs := #[.int .i64 0, .int .i64 0, .int .i64 0, .int .i64 0, .slice none 0 0, .int .i64 0, .int .i64 0, .int .i64 0]) ?_ 0 _ rfl; (with_reducible repeat (first | refine blk_drewN ?_ _ | refine blk_drew ?_ | refine blk_alloc ?_ _)); exact BK152.out⟩, ⟨by repeat (first | (with_reducible first | exact HB.out | apply below_alloc | apply pw_below_drewN | apply below_drew1 | refine below_set ?_ GE150.out | refine below_set ?_ GE152.out) | exact HB.out)⟩⟩
       ·rw [if_neg c15] at H
        have c15b0 : (((rd_T50 l0_2 a1).f3.f0) == 2) = false := beq_eq_false_iff_ne.mpr c15
        have c15b1 : (((rd_T50 l0_2 a1).f3.f0) != 2) = true := bne_iff_ne.mpr c15
        (first | rw [c15b0] | (simp only [i64_w, i32_w]; rw [c15b0]) | skip)
        by_cases c18 : ((rd_T50 l0_2 a1).f3.f0) = 3
        ·rw [if_pos c18] at H
         have c18b0 : (((rd_T50 l0_2 a1).f3.f0) == 3) = true := beq_iff_eq.mpr c18
         have c18b1 : (((rd_T50 l0_2 a1).f3.f0) != 3) = false := bne_eq_false_iff_eq.mpr c18
         clear c18
         have H' := Aside0.mk H
         clear H
         have hnb19 := NB152_150.out
         have hnc19 := NB150_152.out
         have hcz20_0 : w12.cell? ⟨gb152, 0, none⟩ = some (.int .i64 0) := (blk_cell BK152.out 0).trans rfl
         have hcz20_1 : w12.cell? ⟨gb152, 1, none⟩ = some (.int .i64 0) := (blk_cell BK152.out 1).trans rfl
         have hcz20_2 : w12.cell? ⟨gb152, 2, none⟩ = some (.int .i64 0) := (blk_cell BK152.out 2).trans rfl
         have hcz20_3 : w12.cell? ⟨gb152, 3, none⟩ = some (.int .i64 0) := (blk_cell BK152.out 3).trans rfl
         have hcz20_4 : w12.cell? ⟨gb152, 4, none⟩ = some (.slice none 0 0) := (blk_cell BK152.out 4).trans rfl
         have hcz20_5 : w12.cell? ⟨gb152, 5, none⟩ = some (.int .i64 0) := (blk_cell BK152.out 5).trans rfl
         have hcz20_6 : w12.cell? ⟨gb152, 6, none⟩ = some (.int .i64 0) := (blk_cell BK152.out 6).trans rfl
         have hcz20_7 : w12.cell? ⟨gb152, 7, none⟩ = some (.int .i64 0) := (blk_cell BK152.out 7).trans rfl
         have hfz20_0 := blk_frozen BK152.out 0
         have hfz20_1 := blk_frozen BK152.out 1
         have hfz20_2 := blk_frozen BK152.out 2
         have hfz20_3 := blk_frozen BK152.out 3
         have hfz20_4 := blk_frozen BK152.out 4
         have hfz20_5 := blk_frozen BK152.out 5
         have hfz20_6 := blk_frozen BK152.out 6
         have hfz20_7 := blk_frozen BK152.out 7
         go_wp2
         repeat (go_quiet (fail); try go_wp2)
         go_meet
         case rel => exact ⟨_, (true), (by first | rfl | (simp; done) | (simp [*]; done)), H', ⟨by have := HJ2.out; first | omega | exact Nat.le_refl _⟩, ⟨by first | exact Kd.R_nil _ _ _ _ _ | exact Kd.N_nil _ _ _ _ _ | exact Kd.V_nil _ _ _ _ _ | exact Kd.Q_nil _ _ _ _ _ | exact Kd.S_nil _ _ _ _ _⟩, ⟨by (with_reducible repeat (first | refine blk_drewN ?_ _ | refine blk_drew ?_ | refine blk_alloc ?_ _)); refine blk_far ?_ NB150_152.out _; (with_reducible repeat (first | refine blk_drewN ?_ _ | refine blk_drew ?_ | refine blk_alloc ?_ _)); refine blk_far ?_ NB150_152.out _; (with_reducible repeat (first | refine blk_drewN ?_ _ | refine blk_drew ?_ | refine blk_alloc ?_ _)); refine blk_far ?_ NB150_152.out _; (with_reducible repeat (first | refine blk_drewN ?_ _ | refine blk_drew ?_ | refine blk_alloc ?_ _)); refine blk_far ?_ NB150_152.out _; (with_reducible repeat (first | refine blk_drewN ?_ _ | refine blk_drew ?_ | refine blk_alloc ?_ _)); refine blk_far ?_ NB150_152.out _; (with_reducible repeat (first | refine blk_drewN ?_ _ | refine blk_drew ?_ | refine blk_alloc ?_ _)); refine blk_far ?_ NB150_152.out _; (with_reducible repeat (first | refine blk_drewN ?_ _ | refine blk_drew ?_ | refine blk_alloc ?_ _)); refine blk_far ?_ NB150_152.out _; (with_reducible repeat (first | refine blk_drewN ?_ _ | refine blk_drew ?_ | refine blk_alloc ?_ _)); refine blk_far ?_ NB150_152.out _; (with_reducible repeat (first | refine blk_drewN ?_ _ | refine blk_drew ?_ | refine blk_alloc ?_ _)); exact BK150.out⟩, ⟨by (with_reducible repeat (first | refine blk_drewN ?_ _ | refine blk_drew ?_ | refine blk_alloc ?_ _)); refine blk_put (cs := #[.int .i64 ((rd_T50 l0_2 a1).f3.f0), .int .i64 ((rd_T50 l0_2 a1).f3.f1), .int .i64 ((rd_T50 l0_2 a1).f3.f2), .int .i64 ((rd_T50 l0_2 a1).f3.f3), .slice A151_10 ((rd_T50 l0_2 a1).f3.f4).length c151_10, .int .i64 ((rd_T50 l0_2 a1).f3.f5), .int .i64 ((rd_T50 l0_2 a1).f3.f6), .int .i64 0]) ?_ 7 _ rfl; (with_reducible repeat (first | refine blk_drewN ?_ _ | refine blk_drew ?_ | refine blk_alloc ?_ _)); refine blk_put (cs := #[.int .i64 ((rd_T50 l0_2 a1).f3.f0), .int .i64 ((rd_T50 l0_2 a1).f3.f1), .int .i64 ((rd_T50 l0_2 a1).f3.f2), .int .i64 ((rd_T50 l0_2 a1).f3.f3), .slice A151_10 ((rd_T50 l0_2 a1).f3.f4).length c151_10, .int .i64 ((rd_T50 l0_2 a1).f3.f5), .int .i64 0, .int .i64 0]) ?_ 6 _ rfl; (with_reducible repeat (first | refine blk_drewN ?_ _ | refine blk_drew ?_ | refine blk_alloc ?_ _)); refine blk_put (cs := #[.int .i64 ((rd_T50 l0_2 a1).f3.f0), .int .i64 ((rd_T50 l0_2 a1).f3.f1), .int .i64 ((rd_T50 l0_2 a1).f3.f2), .int .i64 ((rd_T50 l0_2 a1).f3.f3), .slice A151_10 ((rd_T50 l0_2 a1).f3.f4).length c151_10, .int .i64 0, .int .i64 0, .int .i64 0]) ?_ 5 _ rfl; (with_reducible repeat (first | refine blk_drewN ?_ _ | refine blk_drew ?_ | refine blk_alloc ?_ _)); refine blk_put (cs := #[.int .i64 ((rd_T50 l0_2 a1).f3.f0), .int .i64 ((rd_T50 l0_2 a1).f3.f1), .int .i64 ((rd_T50 l0_2 a1).f3.f2), .int .i64 ((rd_T50 l0_2 a1).f3.f3), .slice none 0 0, .int .i64 0, .int .i64 0, .int .i64 0]) ?_ 4 _ rfl; (with_reducible repeat (first | refine blk_drewN ?_ _ | refine blk_drew ?_ | refine blk_alloc ?_ _)); refine blk_put (cs := #[.int .i64 ((rd_T50 l0_2 a1).f3.f0), .int .i64 ((rd_T50 l0_2 a1).f3.f1), .int .i64 ((rd_T50 l0_2 a1).f3.f2), .int .i64 0, .slice none 0 0, .int .i64 0, .int .i64 0, .int .i64 0]) ?_ 3 _ rfl; (with_reducible repeat (first | refine blk_drewN ?_ _ | refine blk_drew ?_ | refine blk_alloc ?_ _)); refine blk_put (cs := #[.int .i64 ((rd_T50 l0_2 a1).f3.f0), .int .i64 ((rd_T50 l0_2 a1).f3.f1), .int .i64 0, .int .i64 0, .slice none 0 0, .int .i64 0, .int .i64 0, .int .i64 0]) ?_ 2 _ rfl; (with_reducible repeat (first | refine blk_drewN ?_ _ | refine blk_drew ?_ | refine blk_alloc ?_ _)); refine blk_put (cs := #[.int .i64 ((rd_T50 l0_2 a1).f3.f0), .int .i64 0, .int .i64 0, .int .i64 0, .slice none 0 0, .int .i64 0, .int .i64 0, .int .i64 0]) ?_ 1 _ rfl; (with_reducible repeat (first | refine blk_drewN ?_ _ | refine blk_drew ?_ | refine blk_alloc ?_ _)); refine blk_put (cs := #[.int .i64 0, .int .i64 0, .int .i64 0, .int .i64 0, .slice none 0 0, .int .i64 0, .int .i64 0, .int .i64 0]) ?_ 0 _ rfl; (with_reducible repeat (first | refine blk_drewN ?_ _ | refine blk_drew ?_ | refine blk_alloc ?_ _)); exact BK152.out⟩, ⟨by repeat (first | (with_reducible first | exact HB.out | apply below_alloc | apply pw_below_drewN | apply below_drew1 | refine below_set ?_ GE150.out | refine below_set ?_ GE152.out) | exact HB.out)⟩⟩
        ·rw [if_neg c18] at H
         have c18b0 : (((rd_T50 l0_2 a1).f3.f0) == 3) = false := beq_eq_false_iff_ne.mpr c18
         have c18b1 : (((rd_T50 l0_2 a1).f3.f0) != 3) = true := bne_iff_ne.mpr c18
         have H' := Aside0.mk H
         clear H
         have hnb21 := NB152_150.out
         have hnc21 := NB150_152.out
         have hcz22_0 : w12.cell? ⟨gb152, 0, none⟩ = some (.int .i64 0) := (blk_cell BK152.out 0).trans rfl
         have hcz22_1 : w12.cell? ⟨gb152, 1, none⟩ = some (.int .i64 0) := (blk_cell BK152.out 1).trans rfl
         have hcz22_2 : w12.cell? ⟨gb152, 2, none⟩ = some (.int .i64 0) := (blk_cell BK152.out 2).trans rfl
         have hcz22_3 : w12.cell? ⟨gb152, 3, none⟩ = some (.int .i64 0) := (blk_cell BK152.out 3).trans rfl
         have hcz22_4 : w12.cell? ⟨gb152, 4, none⟩ = some (.slice none 0 0) := (blk_cell BK152.out 4).trans rfl
         have hcz22_5 : w12.cell? ⟨gb152, 5, none⟩ = some (.int .i64 0) := (blk_cell BK152.out 5).trans rfl
         have hcz22_6 : w12.cell? ⟨gb152, 6, none⟩ = some (.int .i64 0) := (blk_cell BK152.out 6).trans rfl
         have hcz22_7 : w12.cell? ⟨gb152, 7, none⟩ = some (.int .i64 0) := (blk_cell BK152.out 7).trans rfl
         have hfz22_0 := blk_frozen BK152.out 0
         have hfz22_1 := blk_frozen BK152.out 1
         have hfz22_2 := blk_frozen BK152.out 2
         have hfz22_3 := blk_frozen BK152.out 3
         have hfz22_4 := blk_frozen BK152.out 4
         have hfz22_5 := blk_frozen BK152.out 5
         have hfz22_6 := blk_frozen BK152.out 6
         have hfz22_7 := blk_frozen BK152.out 7
         go_wp2
         repeat (go_quiet (fail); try go_wp2)
         go_meet
         case rel => exact ⟨_, ((((rd_T50 l0_2 a1).f3.f0) == 4)), (by first | rfl | (simp; done) | (simp [*]; done)), H', ⟨by have := HJ2.out; first | omega | exact Nat.le_refl _⟩, ⟨by first | exact Kd.R_nil _ _ _ _ _ | exact Kd.N_nil _ _ _ _ _ | exact Kd.V_nil _ _ _ _ _ | exact Kd.Q_nil _ _ _ _ _ | exact Kd.S_nil _ _ _ _ _⟩, ⟨by (with_reducible repeat (first | refine blk_drewN ?_ _ | refine blk_drew ?_ | refine blk_alloc ?_ _)); refine blk_far ?_ NB150_152.out _; (with_reducible repeat (first | refine blk_drewN ?_ _ | refine blk_drew ?_ | refine blk_alloc ?_ _)); refine blk_far ?_ NB150_152.out _; (with_reducible repeat (first | refine blk_drewN ?_ _ | refine blk_drew ?_ | refine blk_alloc ?_ _)); refine blk_far ?_ NB150_152.out _; (with_reducible repeat (first | refine blk_drewN ?_ _ | refine blk_drew ?_ | refine blk_alloc ?_ _)); refine blk_far ?_ NB150_152.out _; (with_reducible repeat (first | refine blk_drewN ?_ _ | refine blk_drew ?_ | refine blk_alloc ?_ _)); refine blk_far ?_ NB150_152.out _; (with_reducible repeat (first | refine blk_drewN ?_ _ | refine blk_drew ?_ | refine blk_alloc ?_ _)); refine blk_far ?_ NB150_152.out _; (with_reducible repeat (first | refine blk_drewN ?_ _ | refine blk_drew ?_ | refine blk_alloc ?_ _)); refine blk_far ?_ NB150_152.out _; (with_reducible repeat (first | refine blk_drewN ?_ _ | refine blk_drew ?_ | refine blk_alloc ?_ _)); refine blk_far ?_ NB150_152.out _; (with_reducible repeat (first | refine blk_drewN ?_ _ | refine blk_drew ?_ | refine blk_alloc ?_ _)); exact BK150.out⟩, ⟨by (with_reducible repeat (first | refine blk_drewN ?_ _ | refine blk_drew ?_ | refine blk_alloc ?_ _)); refine blk_put (cs := #[.int .i64 ((rd_T50 l0_2 a1).f3.f0), .int .i64 ((rd_T50 l0_2 a1).f3.f1), .int .i64 ((rd_T50 l0_2 a1).f3.f2), .int .i64 ((rd_T50 l0_2 a1).f3.f3), .slice A151_10 ((rd_T50 l0_2 a1).f3.f4).length c151_10, .int .i64 ((rd_T50 l0_2 a1).f3.f5), .int .i64 ((rd_T50 l0_2 a1).f3.f6), .int .i64 0]) ?_ 7 _ rfl; (with_reducible repeat (first | refine blk_drewN ?_ _ | refine blk_drew ?_ | refine blk_alloc ?_ _)); refine blk_put (cs := #[.int .i64 ((rd_T50 l0_2 a1).f3.f0), .int .i64 ((rd_T50 l0_2 a1).f3.f1), .int .i64 ((rd_T50 l0_2 a1).f3.f2), .int .i64 ((rd_T50 l0_2 a1).f3.f3), .slice A151_10 ((rd_T50 l0_2 a1).f3.f4).length c151_10, .int .i64 ((rd_T50 l0_2 a1).f3.f5), .int .i64 0, .int .i64 0]) ?_ 6 _ rfl; (with_reducible repeat (first | refine blk_drewN ?_ _ | refine blk_drew ?_ | refine blk_alloc ?_ _)); refine blk_put (cs := #[.int .i64 ((rd_T50 l0_2 a1).f3.f0), .int .i64 ((rd_T50 l0_2 a1).f3.f1), .int .i64 ((rd_T50 l0_2 a1).f3.f2), .int .i64 ((rd_T50 l0_2 a1).f3.f3), .slice A151_10 ((rd_T50 l0_2 a1).f3.f4).length c151_10, .int .i64 0, .int .i64 0, .int .i64 0]) ?_ 5 _ rfl; (with_reducible repeat (first | refine blk_drewN ?_ _ | refine blk_drew ?_ | refine blk_alloc ?_ _)); refine blk_put (cs := #[.int .i64 ((rd_T50 l0_2 a1).f3.f0), .int .i64 ((rd_T50 l0_2 a1).f3.f1), .int .i64 ((rd_T50 l0_2 a1).f3.f2), .int .i64 ((rd_T50 l0_2 a1).f3.f3), .slice none 0 0, .int .i64 0, .int .i64 0, .int .i64 0]) ?_ 4 _ rfl; (with_reducible repeat (first | refine blk_drewN ?_ _ | refine blk_drew ?_ | refine blk_alloc ?_ _)); refine blk_put (cs := #[.int .i64 ((rd_T50 l0_2 a1).f3.f0), .int .i64 ((rd_T50 l0_2 a1).f3.f1), .int .i64 ((rd_T50 l0_2 a1).f3.f2), .int .i64 0, .slice none 0 0, .int .i64 0, .int .i64 0, .int .i64 0]) ?_ 3 _ rfl; (with_reducible repeat (first | refine blk_drewN ?_ _ | refine blk_drew ?_ | refine blk_alloc ?_ _)); refine blk_put (cs := #[.int .i64 ((rd_T50 l0_2 a1).f3.f0), .int .i64 ((rd_T50 l0_2 a1).f3.f1), .int .i64 0, .int .i64 0, .slice none 0 0, .int .i64 0, .int .i64 0, .int .i64 0]) ?_ 2 _ rfl; (with_reducible repeat (first | refine blk_drewN ?_ _ | refine blk_drew ?_ | refine blk_alloc ?_ _)); refine blk_put (cs := #[.int .i64 ((rd_T50 l0_2 a1).f3.f0), .int .i64 0, .int .i64 0, .int .i64 0, .slice none 0 0, .int .i64 0, .int .i64 0, .int .i64 0]) ?_ 1 _ rfl; (with_reducible repeat (first | refine blk_drewN ?_ _ | refine blk_drew ?_ | refine blk_alloc ?_ _)); refine blk_put (cs := #[.int .i64 0, .int .i64 0, .int .i64 0, .int .i64 0, .slice none 0 0, .int .i64 0, .int .i64 0, .int .i64 0]) ?_ 0 _ rfl; (with_reducible repeat (first | refine blk_drewN ?_ _ | refine blk_drew ?_ | refine blk_alloc ?_ _)); exact BK152.out⟩, ⟨by repeat (first | (with_reducible first | exact HB.out | apply below_alloc | apply pw_below_drewN | apply below_drew1 | refine below_set ?_ GE150.out | refine below_set ?_ GE152.out) | exact HB.out)⟩⟩
      case rest =>
       clear HC10
       try clear c1
       try clear p1
       try clear q1
       try clear hx1
       try clear c2
       try clear p2
       try clear c3
       try clear c5
       try clear c5b0
       try clear c7
       try clear c8
       try clear c8b0
       try clear c9
       try clear c9b0
       try clear c13
       try clear c15
       try clear c15b0
       try clear c15b1
       try clear p15
       try clear q15
       try clear hx15
       try clear c16
       try clear c18
       try clear c18b0
       try clear c18b1
       try clear c19
       try clear c21
       try clear hcz11_0
       try clear hcz11_1
       try clear hcz11_2
       try clear hcz14_0
       try clear hcz14_1
       try clear hcz14_2
       try clear hcz14_3
       try clear hcz14_4
       try clear hcz14_5
       try clear hcz14_6
       try clear hcz14_7
       try clear hcz17_0
       try clear hcz17_1
       try clear hcz17_2
       try clear hcz17_3
       try clear hcz17_4
       try clear hcz17_5
       try clear hcz17_6
       try clear hcz17_7
       try clear hcz20_0
       try clear hcz20_1
       try clear hcz20_2
       try clear hcz20_3
       try clear hcz20_4
       try clear hcz20_5
       try clear hcz20_6
       try clear hcz20_7
       try clear hcz22_0
       try clear hcz22_1
       try clear hcz22_2
       try clear hcz22_3
       try clear hcz22_4
       try clear hcz22_5
       try clear hcz22_6
       try clear hcz22_7
       try clear hcz6_0
       try clear hcz6_1
       try clear hcz6_2
       try clear hfz11_0
       try clear hfz11_1
       try clear hfz11_2
       try clear hfz14_0
       try clear hfz14_1
       try clear hfz14_2
       try clear hfz14_3
       try clear hfz14_4
       try clear hfz14_5
       try clear hfz14_6
       try clear hfz14_7
       try clear hfz17_0
       try clear hfz17_1
       try clear hfz17_2
       try clear hfz17_3
       try clear hfz17_4
       try clear hfz17_5
       try clear hfz17_6
       try clear hfz17_7
       try clear hfz20_0
       try clear hfz20_1
       try clear hfz20_2
       try clear hfz20_3
       try clear hfz20_4
       try clear hfz20_5
       try clear hfz20_6
       try clear hfz20_7
       try clear hfz22_0
       try clear hfz22_1
       try clear hfz22_2
       try clear hfz22_3
       try clear hfz22_4
       try clear hfz22_5
       try clear hfz22_6
       try clear hfz22_7
       try clear hfz6_0
       try clear hfz6_1
       try clear hfz6_2
       try clear hx151_0
       try clear hx151_1
       try clear hx151_10
       try clear hx151_11
       try clear hx151_12
       try clear hx151_13
       try clear hx151_2
       try clear hx151_3
       try clear hx151_4
       try clear hx151_5
       try clear hx151_6
       try clear hx151_7
       try clear hx151_8
       try clear hx151_9
       try clear p151
       try clear p2
       try clear q151
       obtain ⟨kq, x36_9, rfl, HA, HJ9, HO_6, BK150, BK152, HB⟩ := hcut
       cases kq with
       | zero => exact absurd HA.out (by simp [davitref07_Next.j1])
       | succ kj9 =>
        have H := HA.out
        clear HA
        simp only [davitref07_Next.j1] at H
        have HC23 := Aside0.mk H
        clear H
        go_upto_if 36 with (fail)
        repeat (go_quiet (fail); go_upto_if 36 with (fail))
        go_cut [6] (fun v6 wc => ∃ (kq : Nat) (x6_22 : List Int), Aside0 (davitref07_Next.j2 kq x6_22 a0_0 a0_1 l0_2 ((rd_T50 l0_2 a1).f3.f0) ((rd_T50 l0_2 a1).f3.f1) ((rd_T50 l0_2 a1).f3.f2) ((rd_T50 l0_2 a1).f3.f3) ((rd_T50 l0_2 a1).f3.f4) ((rd_T50 l0_2 a1).f3.f5) ((rd_T50 l0_2 a1).f3.f6) ((rd_T50 l0_2 a1).f3.f7) = some r) ∧ Aside0 (kq ≤ kj9) ∧ Aside0 (Kd.R (Kd.int .i64) 3 wc w.heap.size (fun _ => True) v6 x6_22) ∧ Aside0 (wc.heap[gb150]? = some (.cells #[.int .i64 a0_0, .int .i64 a0_1, (.slice (some ad151) l0_2.length c0_2)] 24 (0, 0))) ∧ Aside0 (wc.heap[gb152]? = some (.cells #[.int .i64 ((rd_T50 l0_2 a1).f3.f0), .int .i64 ((rd_T50 l0_2 a1).f3.f1), .int .i64 ((rd_T50 l0_2 a1).f3.f2), .int .i64 ((rd_T50 l0_2 a1).f3.f3), (.slice A151_10 ((rd_T50 l0_2 a1).f3.f4).length c151_10), .int .i64 ((rd_T50 l0_2 a1).f3.f5), .int .i64 ((rd_T50 l0_2 a1).f3.f6), .int .i64 ((rd_T50 l0_2 a1).f3.f7)] 44 (0, 0))) ∧ Aside0 (Below w.heap.size w wc))
        case first =>
         have H := HC23.out
         clear HC23
         by_cases c24 : x36_9 = true
         ·subst c24
          have H1 : (if ([] : List Int).length < 17592186044416 then (davitref07_Next.j2 kj9 (([] : List Int) ++ [((rd_T50 l0_2 a1).f3.f5)]) a0_0 a0_1 l0_2 ((rd_T50 l0_2 a1).f3.f0) ((rd_T50 l0_2 a1).f3.f1) ((rd_T50 l0_2 a1).f3.f2) ((rd_T50 l0_2 a1).f3.f3) ((rd_T50 l0_2 a1).f3.f4) ((rd_T50 l0_2 a1).f3.f5) ((rd_T50 l0_2 a1).f3.f6) ((rd_T50 l0_2 a1).f3.f7)) else (none)) = some r := by rw [if_pos rfl] at H; exact H
          clear H
          have H := H1
          clear H1
          by_cases c25 : ([] : List Int).length < 17592186044416
          ·rw [if_pos c25] at H
           have LMc25 := Aside0.mk c25
           clear c25
           obtain ⟨y153, hy153⟩ : ∃ y_ : List Int, y_ = (([] : List Int) ++ [((rd_T50 l0_2 a1).f3.f5)]) := ⟨_, rfl⟩
           replace H : (davitref07_Next.j2 kj9 y153 a0_0 a0_1 l0_2 ((rd_T50 l0_2 a1).f3.f0) ((rd_T50 l0_2 a1).f3.f1) ((rd_T50 l0_2 a1).f3.f2) ((rd_T50 l0_2 a1).f3.f3) ((rd_T50 l0_2 a1).f3.f4) ((rd_T50 l0_2 a1).f3.f5) ((rd_T50 l0_2 a1).f3.f6) ((rd_T50 l0_2 a1).f3.f7)) = some r := by first | (rw [hy153]; with_reducible exact H) | (have H2_ := (Option.bind_some _ _).symm.trans H; rw [hy153]; with_reducible exact H2_) | (have H2_ := (Option.bind_some _ _).symm.trans H; with_reducible exact H2_) | with_reducible exact H | (rw [hy153]; exact H) | exact H
           have Ny153 := Aside0.mk hy153
           clear hy153
           have H' := Aside0.mk H
           clear H
           have hnb26 := NB152_150.out
           have hnc26 := NB150_152.out
           have hcz27_0 : wc.cell? ⟨gb152, 0, none⟩ = some (.int .i64 ((rd_T50 l0_2 a1).f3.f0)) := (blk_cell BK152.out 0).trans rfl
           have hcz27_1 : wc.cell? ⟨gb152, 1, none⟩ = some (.int .i64 ((rd_T50 l0_2 a1).f3.f1)) := (blk_cell BK152.out 1).trans rfl
           have hcz27_2 : wc.cell? ⟨gb152, 2, none⟩ = some (.int .i64 ((rd_T50 l0_2 a1).f3.f2)) := (blk_cell BK152.out 2).trans rfl
           have hcz27_3 : wc.cell? ⟨gb152, 3, none⟩ = some (.int .i64 ((rd_T50 l0_2 a1).f3.f3)) := (blk_cell BK152.out 3).trans rfl
           have hcz27_4 : wc.cell? ⟨gb152, 4, none⟩ = some (.slice A151_10 ((rd_T50 l0_2 a1).f3.f4).length c151_10) := (blk_cell BK152.out 4).trans rfl
           have hcz27_5 : wc.cell? ⟨gb152, 5, none⟩ = some (.int .i64 ((rd_T50 l0_2 a1).f3.f5)) := (blk_cell BK152.out 5).trans rfl
           have hcz27_6 : wc.cell? ⟨gb152, 6, none⟩ = some (.int .i64 ((rd_T50 l0_2 a1).f3.f6)) := (blk_cell BK152.out 6).trans rfl
           have hcz27_7 : wc.cell? ⟨gb152, 7, none⟩ = some (.int .i64 ((rd_T50 l0_2 a1).f3.f7)) := (blk_cell BK152.out 7).trans rfl
           have hfz27_0 := blk_frozen BK152.out 0
           have hfz27_1 := blk_frozen BK152.out 1
           have hfz27_2 := blk_frozen BK152.out 2
           have hfz27_3 := blk_frozen BK152.out 3
           have hfz27_4 := blk_frozen BK152.out 4
           have hfz27_5 := blk_frozen BK152.out 5
           have hfz27_6 := blk_frozen BK152.out 6
           have hfz27_7 := blk_frozen BK152.out 7
           go_wp2_with (first | ((with_reducible refine gate_builtin (b := .append) (xs := #[.tmp 37, .tmp 40]) rfl ?_); (try (refine gate_guard (by rfl) ?_; dsimp only)); at_builtin; refine Kd.R_append (Kd.int .i64) (w0 := w) w.heap.size rfl (.tmp 37) (.tmp 40) 27 3 (.int .i64 0) 8 rfl Try.underlying27 info3 rfl (by decide) (by omega) (.slice none 0 0) ([] : List Int) ((rd_T50 l0_2 a1).f3.f5) [.int .i64 ((rd_T50 l0_2 a1).f3.f5)] (fun _ => True) (fun _ => False) rfl rfl ?aP (fun _ hk => hk.elim) ?aF ?aO ?aB ?aS ?aL ?_; (case aP => exact rfl); (case aB => exact (by repeat (first | (with_reducible first | exact HB.out | apply below_alloc | apply pw_below_drewN | apply below_drew1 | refine below_set ?_ GE150.out | refine below_set ?_ GE152.out) | exact HB.out))); (case aF => exact (fun _ _ => trivial)); (case aO => exact (by (with_reducible repeat (first | apply Kd.R_alloc | apply Kd.R_drewN | apply Kd.R_drew)); exact HO_6.out)); (case aS => exact (below_size (by repeat (first | (with_reducible first | exact HB.out | apply below_alloc | apply pw_below_drewN | apply below_drew1 | refine below_set ?_ GE150.out | refine below_set ?_ GE152.out) | exact HB.out)))); (case aL => have := LMc25.out; omega); intro v154 w28 ho hb hg hat; rw [← Ny153.out] at ho; have n0_ := Aside0.mk (blk_grown (g := gb150) (o := .cells #[.int .i64 a0_0, .int .i64 a0_1, .slice (some ad151) l0_2.length c0_2] 24 (0, 0)) (by (with_reducible repeat (first | refine blk_drewN ?_ _ | refine blk_drew ?_ | refine blk_alloc ?_ _)); exact BK150.out) hg (Kd.R_ne HO_6.out BK150.out (by decide))); have n1_ := Aside0.mk (blk_grown (g := gb152) (o := .cells #[.int .i64 ((rd_T50 l0_2 a1).f3.f0), .int .i64 ((rd_T50 l0_2 a1).f3.f1), .int .i64 ((rd_T50 l0_2 a1).f3.f2), .int .i64 ((rd_T50 l0_2 a1).f3.f3), .slice A151_10 ((rd_T50 l0_2 a1).f3.f4).length c151_10, .int .i64 ((rd_T50 l0_2 a1).f3.f5), .int .i64 ((rd_T50 l0_2 a1).f3.f6), .int .i64 ((rd_T50 l0_2 a1).f3.f7)] 44 (0, 0)) (by (with_reducible repeat (first | refine blk_drewN ?_ _ | refine blk_drew ?_ | refine blk_alloc ?_ _)); exact BK152.out) hg (Kd.R_ne HO_6.out BK152.out (by decide))); have n2_ := Aside0.mk (hb); have n3_ := Aside0.mk (ho); clear BK150; clear BK152; clear HB; clear HO_6; have BK150 := n0_; have BK152 := n1_; have HB := n2_; have HO155 := n3_; clear n0_ n1_ n2_ n3_; clear ho hb hg hat))
           repeat (go_quiet (first | ((with_reducible refine gate_builtin (b := .append) (xs := #[.tmp 37, .tmp 40]) rfl ?_); (try (refine gate_guard (by rfl) ?_; dsimp only)); at_builtin; refine Kd.R_append (Kd.int .i64) (w0 := w) w.heap.size rfl (.tmp 37) (.tmp 40) 27 3 (.int .i64 0) 8 rfl Try.underlying27 info3 rfl (by decide) (by omega) (.slice none 0 0) ([] : List Int) ((rd_T50 l0_2 a1).f3.f5) [.int .i64 ((rd_T50 l0_2 a1).f3.f5)] (fun _ => True) (fun _ => False) rfl rfl ?aP (fun _ hk => hk.elim) ?aF ?aO ?aB ?aS ?aL ?_; (case aP => exact rfl); (case aB => exact (by repeat (first | (with_reducible first | exact HB.out | apply below_alloc | apply pw_below_drewN | apply below_drew1 | refine below_set ?_ GE150.out | refine below_set ?_ GE152.out) | exact HB.out))); (case aF => exact (fun _ _ => trivial)); (case aO => exact (by (with_reducible repeat (first | apply Kd.R_alloc | apply Kd.R_drewN | apply Kd.R_drew)); exact HO_6.out)); (case aS => exact (below_size (by repeat (first | (with_reducible first | exact HB.out | apply below_alloc | apply pw_below_drewN | apply below_drew1 | refine below_set ?_ GE150.out | refine below_set ?_ GE152.out) | exact HB.out)))); (case aL => have := LMc25.out; omega); intro v154 w28 ho hb hg hat; rw [← Ny153.out] at ho; have n0_ := Aside0.mk (blk_grown (g := gb150) (o := .cells #[.int .i64 a0_0, .int .i64 a0_1, .slice (some ad151) l0_2.length c0_2] 24 (0, 0)) (by (with_reducible repeat (first | refine blk_drewN ?_ _ | refine blk_drew ?_ | refine blk_alloc ?_ _)); exact BK150.out) hg (Kd.R_ne HO_6.out BK150.out (by decide))); have n1_ := Aside0.mk (blk_grown (g := gb152) (o := .cells #[.int .i64 ((rd_T50 l0_2 a1).f3.f0), .int .i64 ((rd_T50 l0_2 a1).f3.f1), .int .i64 ((rd_T50 l0_2 a1).f3.f2), .int .i64 ((rd_T50 l0_2 a1).f3.f3), .slice A151_10 ((rd_T50 l0_2 a1).f3.f4).length c151_10, .int .i64 ((rd_T50 l0_2 a1).f3.f5), .int .i64 ((rd_T50 l0_2 a1).f3.f6), .int .i64 ((rd_T50 l0_2 a1).f3.f7)] 44 (0, 0)) (by (with_reducible repeat (first | refine blk_drewN ?_ _ | refine blk_drew ?_ | refine blk_alloc ?_ _)); exact BK152.out) hg (Kd.R_ne HO_6.out BK152.out (by decide))); have n2_ := Aside0.mk (hb); have n3_ := Aside0.mk (ho); clear BK150; clear BK152; clear HB; clear HO_6; have BK150 := n0_; have BK152 := n1_; have HB := n2_; have HO155 := n3_; clear n0_ n1_ n2_ n3_; clear ho hb hg hat)); try go_wp2_with (first | ((with_reducible refine gate_builtin (b := .append) (xs := #[.tmp 37, .tmp 40]) rfl ?_); (try (refine gate_guard (by rfl) ?_; dsimp only)); at_builtin; refine Kd.R_append (Kd.int .i64) (w0 := w) w.heap.size rfl (.tmp 37) (.tmp 40) 27 3 (.int .i64 0) 8 rfl Try.underlying27 info3 rfl (by decide) (by omega) (.slice none 0 0) ([] : List Int) ((rd_T50 l0_2 a1).f3.f5) [.int .i64 ((rd_T50 l0_2 a1).f3.f5)] (fun _ => True) (fun _ => False) rfl rfl ?aP (fun _ hk => hk.elim) ?aF ?aO ?aB ?aS ?aL ?_; (case aP => exact rfl); (case aB => exact (by repeat (first | (with_reducible first | exact HB.out | apply below_alloc | apply pw_below_drewN | apply below_drew1 | refine below_set ?_ GE150.out | refine below_set ?_ GE152.out) | exact HB.out))); (case aF => exact (fun _ _ => trivial)); (case aO => exact (by (with_reducible repeat (first | apply Kd.R_alloc | apply Kd.R_drewN | apply Kd.R_drew)); exact HO_6.out)); (case aS => exact (below_size (by repeat (first | (with_reducible first | exact HB.out | apply below_alloc | apply pw_below_drewN | apply below_drew1 | refine below_set ?_ GE150.out | refine below_set ?_ GE152.out) | exact HB.out)))); (case aL => have := LMc25.out; omega); intro v154 w28 ho hb hg hat; rw [← Ny153.out] at ho; have n0_ := Aside0.mk (blk_grown (g := gb150) (o := .cells #[.int .i64 a0_0, .int .i64 a0_1, .slice (some ad151) l0_2.length c0_2] 24 (0, 0)) (by (with_reducible repeat (first | refine blk_drewN ?_ _ | refine blk_drew ?_ | refine blk_alloc ?_ _)); exact BK150.out) hg (Kd.R_ne HO_6.out BK150.out (by decide))); have n1_ := Aside0.mk (blk_grown (g := gb152) (o := .cells #[.int .i64 ((rd_T50 l0_2 a1).f3.f0), .int .i64 ((rd_T50 l0_2 a1).f3.f1), .int .i64 ((rd_T50 l0_2 a1).f3.f2), .int .i64 ((rd_T50 l0_2 a1).f3.f3), .slice A151_10 ((rd_T50 l0_2 a1).f3.f4).length c151_10, .int .i64 ((rd_T50 l0_2 a1).f3.f5), .int .i64 ((rd_T50 l0_2 a1).f3.f6), .int .i64 ((rd_T50 l0_2 a1).f3.f7)] 44 (0, 0)) (by (with_reducible repeat (first | refine blk_drewN ?_ _ | refine blk_drew ?_ | refine blk_alloc ?_ _)); exact BK152.out) hg (Kd.R_ne HO_6.out BK152.out (by decide))); have n2_ := Aside0.mk (hb); have n3_ := Aside0.mk (ho); clear BK150; clear BK152; clear HB; clear HO_6; have BK150 := n0_; have BK152 := n1_; have HB := n2_; have HO155 := n3_; clear n0_ n1_ n2_ n3_; clear ho hb hg hat)))
           go_meet
           case rel => exact ⟨_, (y153), H', ⟨by have := HJ2.out; have := HJ9.out; first | omega | exact Nat.le_refl _⟩, ⟨by (with_reducible repeat (first | apply Kd.R_alloc | apply Kd.R_drewN | apply Kd.R_drew)); exact HO155.out⟩, ⟨by (with_reducible repeat (first | refine blk_drewN ?_ _ | refine blk_drew ?_ | refine blk_alloc ?_ _)); exact BK150.out⟩, ⟨by (with_reducible repeat (first | refine blk_drewN ?_ _ | refine blk_drew ?_ | refine blk_alloc ?_ _)); exact BK152.out⟩, ⟨by repeat (first | (with_reducible first | exact HB.out | apply below_alloc | apply pw_below_drewN | apply below_drew1 | refine below_set ?_ GE150.out | refine below_set ?_ GE152.out) | exact HB.out)⟩⟩
          ·rw [if_neg c25] at H
           exact absurd H (by simp)
         ·replace c24 := Bool.eq_false_iff.mpr c24
          subst c24
          have H1 : (davitref07_Next.j2 kj9 ([] : List Int) a0_0 a0_1 l0_2 ((rd_T50 l0_2 a1).f3.f0) ((rd_T50 l0_2 a1).f3.f1) ((rd_T50 l0_2 a1).f3.f2) ((rd_T50 l0_2 a1).f3.f3) ((rd_T50 l0_2 a1).f3.f4) ((rd_T50 l0_2 a1).f3.f5) ((rd_T50 l0_2 a1).f3.f6) ((rd_T50 l0_2 a1).f3.f7)) = some r := by rw [if_neg (show ¬ (false = true) by decide)] at H; exact H
          clear H
          have H := H1
          clear H1
          have H' := Aside0.mk H
          clear H
          go_wp2
          repeat (go_quiet (fail); try go_wp2)
          go_meet
          case rel => exact ⟨_, (([] : List Int)), H', ⟨by have := HJ2.out; have := HJ9.out; first | omega | exact Nat.le_refl _⟩, ⟨by (with_reducible repeat (first | apply Kd.R_alloc | apply Kd.R_drewN | apply Kd.R_drew)); exact HO_6.out⟩, ⟨by (with_reducible repeat (first | refine blk_drewN ?_ _ | refine blk_drew ?_ | refine blk_alloc ?_ _)); exact BK150.out⟩, ⟨by (with_reducible repeat (first | refine blk_drewN ?_ _ | refine blk_drew ?_ | refine blk_alloc ?_ _)); exact BK152.out⟩, ⟨by repeat (first | (with_reducible first | exact HB.out | apply below_alloc | apply pw_below_drewN | apply below_drew1 | refine below_set ?_ GE150.out | refine below_set ?_ GE152.out) | exact HB.out)⟩⟩
        case rest =>
         clear HC23
         try clear c1
         try clear p1
         try clear q1
         try clear hx1
         try clear c2
         try clear p2
         try clear c3
         try clear c5
         try clear c5b0
         try clear c7
         try clear c8
         try clear c8b0
         try clear c9
         try clear c9b0
         try clear c13
         try clear c15
         try clear c15b0
         try clear c15b1
         try clear p15
         try clear q15
         try clear hx15
         try clear c16
         try clear c18
         try clear c18b0
         try clear c18b1
         try clear c19
         try clear c21
         try clear c24
         try clear c25
         try clear c26
         try clear hcz11_0
         try clear hcz11_1
         try clear hcz11_2
         try clear hcz14_0
         try clear hcz14_1
         try clear hcz14_2
         try clear hcz14_3
         try clear hcz14_4
         try clear hcz14_5
         try clear hcz14_6
         try clear hcz14_7
         try clear hcz17_0
         try clear hcz17_1
         try clear hcz17_2
         try clear hcz17_3
         try clear hcz17_4
         try clear hcz17_5
         try clear hcz17_6
         try clear hcz17_7
         try clear hcz20_0
         try clear hcz20_1
         try clear hcz20_2
         try clear hcz20_3
         try clear hcz20_4
         try clear hcz20_5
         try clear hcz20_6
         try clear hcz20_7
         try clear hcz22_0
         try clear hcz22_1
         try clear hcz22_2
         try clear hcz22_3
         try clear hcz22_4
         try clear hcz22_5
         try clear hcz22_6
         try clear hcz22_7
         try clear hcz27_0
         try clear hcz27_1
         try clear hcz27_2
         try clear hcz27_3
         try clear hcz27_4
         try clear hcz27_5
         try clear hcz27_6
         try clear hcz27_7
         try clear hcz6_0
         try clear hcz6_1
         try clear hcz6_2
         try clear hfz11_0
         try clear hfz11_1
         try clear hfz11_2
         try clear hfz14_0
         try clear hfz14_1
         try clear hfz14_2
         try clear hfz14_3
         try clear hfz14_4
         try clear hfz14_5
         try clear hfz14_6
         try clear hfz14_7
         try clear hfz17_0
         try clear hfz17_1
         try clear hfz17_2
         try clear hfz17_3
         try clear hfz17_4
         try clear hfz17_5
         try clear hfz17_6
         try clear hfz17_7
         try clear hfz20_0
         try clear hfz20_1
         try clear hfz20_2
         try clear hfz20_3
         try clear hfz20_4
         try clear hfz20_5
         try clear hfz20_6
         try clear hfz20_7
         try clear hfz22_0
         try clear hfz22_1
         try clear hfz22_2
         try clear hfz22_3
         try clear hfz22_4
         try clear hfz22_5
         try clear hfz22_6
         try clear hfz22_7
         try clear hfz27_0
         try clear hfz27_1
         try clear hfz27_2
         try clear hfz27_3
         try clear hfz27_4
         try clear hfz27_5
         try clear hfz27_6
         try clear hfz27_7
         try clear hfz6_0
         try clear hfz6_1
         try clear hfz6_2
         try clear hx151_0
         try clear hx151_1
         try clear hx151_10
         try clear hx151_11
         try clear hx151_12
         try clear hx151_13
         try clear hx151_2
         try clear hx151_3
         try clear hx151_4
         try clear hx151_5
         try clear hx151_6
         try clear hx151_7
         try clear hx151_8
         try clear hx151_9
         try clear p1
         try clear p15
         try clear p151
         try clear p2
         try clear q1
         try clear q15
         try clear q151
         obtain ⟨kq, x6_22, HA, HJ22, HO_6, BK150, BK152, HB⟩ := hcut
         cases kq with
         | zero => exact absurd HA.out (by simp [davitref07_Next.j2])
         | succ kj22 =>
          have H := HA.out
          clear HA
          simp only [davitref07_Next.j2] at H
          have HC29 := Aside0.mk H
          clear H
          have hnb30 := NB152_150.out
          have hnc30 := NB150_152.out
          have hcz31_0 : wc.cell? ⟨gb152, 0, none⟩ = some (.int .i64 ((rd_T50 l0_2 a1).f3.f0)) := (blk_cell BK152.out 0).trans rfl
          have hcz31_1 : wc.cell? ⟨gb152, 1, none⟩ = some (.int .i64 ((rd_T50 l0_2 a1).f3.f1)) := (blk_cell BK152.out 1).trans rfl
          have hcz31_2 : wc.cell? ⟨gb152, 2, none⟩ = some (.int .i64 ((rd_T50 l0_2 a1).f3.f2)) := (blk_cell BK152.out 2).trans rfl
          have hcz31_3 : wc.cell? ⟨gb152, 3, none⟩ = some (.int .i64 ((rd_T50 l0_2 a1).f3.f3)) := (blk_cell BK152.out 3).trans rfl
          have hcz31_4 : wc.cell? ⟨gb152, 4, none⟩ = some (.slice A151_10 ((rd_T50 l0_2 a1).f3.f4).length c151_10) := (blk_cell BK152.out 4).trans rfl
          have hcz31_5 : wc.cell? ⟨gb152, 5, none⟩ = some (.int .i64 ((rd_T50 l0_2 a1).f3.f5)) := (blk_cell BK152.out 5).trans rfl
          have hcz31_6 : wc.cell? ⟨gb152, 6, none⟩ = some (.int .i64 ((rd_T50 l0_2 a1).f3.f6)) := (blk_cell BK152.out 6).trans rfl
          have hcz31_7 : wc.cell? ⟨gb152, 7, none⟩ = some (.int .i64 ((rd_T50 l0_2 a1).f3.f7)) := (blk_cell BK152.out 7).trans rfl
          have hfz31_0 := blk_frozen BK152.out 0
          have hfz31_1 := blk_frozen BK152.out 1
          have hfz31_2 := blk_frozen BK152.out 2
          have hfz31_3 := blk_frozen BK152.out 3
          have hfz31_4 := blk_frozen BK152.out 4
          have hfz31_5 := blk_frozen BK152.out 5
          have hfz31_6 := blk_frozen BK152.out 6
          have hfz31_7 := blk_frozen BK152.out 7
          go_upto_if 44 with (fail)
          repeat (go_quiet (fail); go_upto_if 44 with (fail))
          go_cut [6] (fun v6 wc => ∃ (kq : Nat) (x6_28 : List Int), Aside0 (davitref07_Next.j3 kq x6_28 a0_0 a0_1 l0_2 ((rd_T50 l0_2 a1).f3.f0) ((rd_T50 l0_2 a1).f3.f1) ((rd_T50 l0_2 a1).f3.f2) ((rd_T50 l0_2 a1).f3.f3) ((rd_T50 l0_2 a1).f3.f4) ((rd_T50 l0_2 a1).f3.f5) ((rd_T50 l0_2 a1).f3.f6) ((rd_T50 l0_2 a1).f3.f7) = some r) ∧ Aside0 (kq ≤ kj22) ∧ Aside0 (Kd.R (Kd.int .i64) 3 wc w.heap.size (fun _ => True) v6 x6_28) ∧ Aside0 (wc.heap[gb150]? = some (.cells #[.int .i64 a0_0, .int .i64 a0_1, (.slice (some ad151) l0_2.length c0_2)] 24 (0, 0))) ∧ Aside0 (wc.heap[gb152]? = some (.cells #[.int .i64 ((rd_T50 l0_2 a1).f3.f0), .int .i64 ((rd_T50 l0_2 a1).f3.f1), .int .i64 ((rd_T50 l0_2 a1).f3.f2), .int .i64 ((rd_T50 l0_2 a1).f3.f3), (.slice A151_10 ((rd_T50 l0_2 a1).f3.f4).length c151_10), .int .i64 ((rd_T50 l0_2 a1).f3.f5), .int .i64 ((rd_T50 l0_2 a1).f3.f6), .int .i64 ((rd_T50 l0_2 a1).f3.f7)] 44 (0, 0))) ∧ Aside0 (Below w.heap.size w wc))
          case first =>
           have H := HC29.out
           clear HC29
           by_cases c32 : ((rd_T50 l0_2 a1).f3.f0) = 3
           ·rw [if_pos c32] at H
            have c32b0 : (((rd_T50 l0_2 a1).f3.f0) == 3) = true := beq_iff_eq.mpr c32
            have c32b1 : (((rd_T50 l0_2 a1).f3.f0) != 3) = false := bne_eq_false_iff_eq.mpr c32
            clear c32
            (first | rw [c32b0] | (simp only [i64_w, i32_w]; rw [c32b0]) | skip)
            by_cases c33 : x6_22.length < 17592186044416
            ·rw [if_pos c33] at H
             have LMc33 := Aside0.mk c33
             clear c33
             obtain ⟨y156, hy156⟩ : ∃ y_ : List Int, y_ = (x6_22 ++ [((rd_T50 l0_2 a1).f3.f6)]) := ⟨_, rfl⟩
             replace H : (davitref07_Next.j3 kj22 y156 a0_0 a0_1 l0_2 ((rd_T50 l0_2 a1).f3.f0) ((rd_T50 l0_2 a1).f3.f1) ((rd_T50 l0_2 a1).f3.f2) ((rd_T50 l0_2 a1).f3.f3) ((rd_T50 l0_2 a1).f3.f4) ((rd_T50 l0_2 a1).f3.f5) ((rd_T50 l0_2 a1).f3.f6) ((rd_T50 l0_2 a1).f3.f7)) = some r := by first | (rw [hy156]; with_reducible exact H) | (have H2_ := (Option.bind_some _ _).symm.trans H; rw [hy156]; with_reducible exact H2_) | (have H2_ := (Option.bind_some _ _).symm.trans H; with_reducible exact H2_) | with_reducible exact H | (rw [hy156]; exact H) | exact H
             have Ny156 := Aside0.mk hy156
             clear hy156
             have H' := Aside0.mk H
             clear H
             have hnb34 := NB152_150.out
             have hnc34 := NB150_152.out
             have hcz35_0 : wc.cell? ⟨gb152, 0, none⟩ = some (.int .i64 ((rd_T50 l0_2 a1).f3.f0)) := (blk_cell BK152.out 0).trans rfl
             have hcz35_1 : wc.cell? ⟨gb152, 1, none⟩ = some (.int .i64 ((rd_T50 l0_2 a1).f3.f1)) := (blk_cell BK152.out 1).trans rfl
             have hcz35_2 : wc.cell? ⟨gb152, 2, none⟩ = some (.int .i64 ((rd_T50 l0_2 a1).f3.f2)) := (blk_cell BK152.out 2).trans rfl
             have hcz35_3 : wc.cell? ⟨gb152, 3, none⟩ = some (.int .i64 ((rd_T50 l0_2 a1).f3.f3)) := (blk_cell BK152.out 3).trans rfl
             have hcz35_4 : wc.cell? ⟨gb152, 4, none⟩ = some (.slice A151_10 ((rd_T50 l0_2 a1).f3.f4).length c151_10) := (blk_cell BK152.out 4).trans rfl
             have hcz35_5 : wc.cell? ⟨gb152, 5, none⟩ = some (.int .i64 ((rd_T50 l0_2 a1).f3.f5)) := (blk_cell BK152.out 5).trans rfl
             have hcz35_6 : wc.cell? ⟨gb152, 6, none⟩ = some (.int .i64 ((rd_T50 l0_2 a1).f3.f6)) := (blk_cell BK152.out 6).trans rfl
             have hcz35_7 : wc.cell? ⟨gb152, 7, none⟩ = some (.int .i64 ((rd_T50 l0_2 a1).f3.f7)) := (blk_cell BK152.out 7).trans rfl
             have hfz35_0 := blk_frozen BK152.out 0
             have hfz35_1 := blk_frozen BK152.out 1
             have hfz35_2 := blk_frozen BK152.out 2
             have hfz35_3 := blk_frozen BK152.out 3
             have hfz35_4 := blk_frozen BK152.out 4
             have hfz35_5 := blk_frozen BK152.out 5
             have hfz35_6 := blk_frozen BK152.out 6
             have hfz35_7 := blk_frozen BK152.out 7
             go_wp2_with (first | ((with_reducible refine gate_builtin (b := .append) (xs := #[.tmp 45, .tmp 48]) rfl ?_); (try (refine gate_guard (by rfl) ?_; dsimp only)); at_builtin; refine Kd.R_append (Kd.int .i64) (w0 := w) w.heap.size rfl (.tmp 45) (.tmp 48) 27 3 (.int .i64 0) 8 rfl Try.underlying27 info3 rfl (by decide) (by omega) u6 x6_22 ((rd_T50 l0_2 a1).f3.f6) [.int .i64 ((rd_T50 l0_2 a1).f3.f6)] (fun _ => True) (fun _ => False) rfl rfl ?aP (fun _ hk => hk.elim) ?aF ?aO ?aB ?aS ?aL ?_; (case aP => exact rfl); (case aB => exact (by repeat (first | (with_reducible first | exact HB.out | apply below_alloc | apply pw_below_drewN | apply below_drew1 | refine below_set ?_ GE150.out | refine below_set ?_ GE152.out) | exact HB.out))); (case aF => exact (fun _ _ => trivial)); (case aO => exact (by (with_reducible repeat (first | apply Kd.R_alloc | apply Kd.R_drewN | apply Kd.R_drew)); exact HO_6.out)); (case aS => exact (below_size (by repeat (first | (with_reducible first | exact HB.out | apply below_alloc | apply pw_below_drewN | apply below_drew1 | refine below_set ?_ GE150.out | refine below_set ?_ GE152.out) | exact HB.out)))); (case aL => have := LMc33.out; omega); intro v157 w36 ho hb hg hat; rw [← Ny156.out] at ho; have n0_ := Aside0.mk (blk_grown (g := gb150) (o := .cells #[.int .i64 a0_0, .int .i64 a0_1, .slice (some ad151) l0_2.length c0_2] 24 (0, 0)) (by (with_reducible repeat (first | refine blk_drewN ?_ _ | refine blk_drew ?_ | refine blk_alloc ?_ _)); exact BK150.out) hg (Kd.R_ne HO_6.out BK150.out (by decide))); have n1_ := Aside0.mk (blk_grown (g := gb152) (o := .cells #[.int .i64 ((rd_T50 l0_2 a1).f3.f0), .int .i64 ((rd_T50 l0_2 a1).f3.f1), .int .i64 ((rd_T50 l0_2 a1).f3.f2), .int .i64 ((rd_T50 l0_2 a1).f3.f3), .slice A151_10 ((rd_T50 l0_2 a1).f3.f4).length c151_10, .int .i64 ((rd_T50 l0_2 a1).f3.f5), .int .i64 ((rd_T50 l0_2 a1).f3.f6), .int .i64 ((rd_T50 l0_2 a1).f3.f7)] 44 (0, 0)) (by (with_reducible repeat (first | refine blk_drewN ?_ _ | refine blk_drew ?_ | refine blk_alloc ?_ _)); exact BK152.out) hg (Kd.R_ne HO_6.out BK152.out (by decide))); have n2_ := Aside0.mk (hb); have n3_ := Aside0.mk (ho); clear BK150; clear BK152; clear HB; clear HO_6; have BK150 := n0_; have BK152 := n1_; have HB := n2_; have HO158 := n3_; clear n0_ n1_ n2_ n3_; clear ho hb hg hat))
             repeat (go_quiet (first | ((with_reducible refine gate_builtin (b := .append) (xs := #[.tmp 45, .tmp 48]) rfl ?_); (try (refine gate_guard (by rfl) ?_; dsimp only)); at_builtin; refine Kd.R_append (Kd.int .i64) (w0 := w) w.heap.size rfl (.tmp 45) (.tmp 48) 27 3 (.int .i64 0) 8 rfl Try.underlying27 info3 rfl (by decide) (by omega) u6 x6_22 ((rd_T50 l0_2 a1).f3.f6) [.int .i64 ((rd_T50 l0_2 a1).f3.f6)] (fun _ => True) (fun _ => False) rfl rfl ?aP (fun _ hk => hk.elim) ?aF ?aO ?aB ?aS ?aL ?_; (case aP => exact rfl); (case aB => exact (by repeat (first | (with_reducible first | exact HB.out | apply below_alloc | apply pw_below_drewN | apply below_drew1 | refine below_set ?_ GE150.out | refine below_set ?_ GE152.out) | exact HB.out))); (case aF => exact (fun _ _ => trivial)); (case aO => exact (by (with_reducible repeat (first | apply Kd.R_alloc | apply Kd.R_drewN | apply Kd.R_drew)); exact HO_6.out)); (case aS => exact (below_size (by repeat (first | (with_reducible first | exact HB.out | apply below_alloc | apply pw_below_drewN | apply below_drew1 | refine below_set ?_ GE150.out | refine below_set ?_ GE152.out) | exact HB.out)))); (case aL => have := LMc33.out; omega); intro v157 w36 ho hb hg hat; rw [← Ny156.out] at ho; have n0_ := Aside0.mk (blk_grown (g := gb150) (o := .cells #[.int .i64 a0_0, .int .i64 a0_1, .slice (some ad151) l0_2.length c0_2] 24 (0, 0)) (by (with_reducible repeat (first | refine blk_drewN ?_ _ | refine blk_drew ?_ | refine blk_alloc ?_ _)); exact BK150.out) hg (Kd.R_ne HO_6.out BK150.out (by decide))); have n1_ := Aside0.mk (blk_grown (g := gb152) (o := .cells #[.int .i64 ((rd_T50 l0_2 a1).f3.f0), .int .i64 ((rd_T50 l0_2 a1).f3.f1), .int .i64 ((rd_T50 l0_2 a1).f3.f2), .int .i64 ((rd_T50 l0_2 a1).f3.f3), .slice A151_10 ((rd_T50 l0_2 a1).f3.f4).length c151_10, .int .i64 ((rd_T50 l0_2 a1).f3.f5), .int .i64 ((rd_T50 l0_2 a1).f3.f6), .int .i64 ((rd_T50 l0_2 a1).f3.f7)] 44 (0, 0)) (by (with_reducible repeat (first | refine blk_drewN ?_ _ | refine blk_drew ?_ | refine blk_alloc ?_ _)); exact BK152.out) hg (Kd.R_ne HO_6.out BK152.out (by decide))); have n2_ := Aside0.mk (hb); have n3_ := Aside0.mk (ho); clear BK150; clear BK152; clear HB; clear HO_6; have BK150 := n0_; have BK152 := n1_; have HB := n2_; have HO158 := n3_; clear n0_ n1_ n2_ n3_; clear ho hb hg hat)); try go_wp2_with (first | ((with_reducible refine gate_builtin (b := .append) (xs := #[.tmp 45, .tmp 48]) rfl ?_); (try (refine gate_guard (by rfl) ?_; dsimp only)); at_builtin; refine Kd.R_append (Kd.int .i64) (w0 := w) w.heap.size rfl (.tmp 45) (.tmp 48) 27 3 (.int .i64 0) 8 rfl Try.underlying27 info3 rfl (by decide) (by omega) u6 x6_22 ((rd_T50 l0_2 a1).f3.f6) [.int .i64 ((rd_T50 l0_2 a1).f3.f6)] (fun _ => True) (fun _ => False) rfl rfl ?aP (fun _ hk => hk.elim) ?aF ?aO ?aB ?aS ?aL ?_; (case aP => exact rfl); (case aB => exact (by repeat (first | (with_reducible first | exact HB.out | apply below_alloc | apply pw_below_drewN | apply below_drew1 | refine below_set ?_ GE150.out | refine below_set ?_ GE152.out) | exact HB.out))); (case aF => exact (fun _ _ => trivial)); (case aO => exact (by (with_reducible repeat (first | apply Kd.R_alloc | apply Kd.R_drewN | apply Kd.R_drew)); exact HO_6.out)); (case aS => exact (below_size (by repeat (first | (with_reducible first | exact HB.out | apply below_alloc | apply pw_below_drewN | apply below_drew1 | refine below_set ?_ GE150.out | refine below_set ?_ GE152.out) | exact HB.out)))); (case aL => have := LMc33.out; omega); intro v157 w36 ho hb hg hat; rw [← Ny156.out] at ho; have n0_ := Aside0.mk (blk_grown (g := gb150) (o := .cells #[.int .i64 a0_0, .int .i64 a0_1, .slice (some ad151) l0_2.length c0_2] 24 (0, 0)) (by (with_reducible repeat (first | refine blk_drewN ?_ _ | refine blk_drew ?_ | refine blk_alloc ?_ _)); exact BK150.out) hg (Kd.R_ne HO_6.out BK150.out (by decide))); have n1_ := Aside0.mk (blk_grown (g := gb152) (o := .cells #[.int .i64 ((rd_T50 l0_2 a1).f3.f0), .int .i64 ((rd_T50 l0_2 a1).f3.f1), .int .i64 ((rd_T50 l0_2 a1).f3.f2), .int .i64 ((rd_T50 l0_2 a1).f3.f3), .slice A151_10 ((rd_T50 l0_2 a1).f3.f4).length c151_10, .int .i64 ((rd_T50 l0_2 a1).f3.f5), .int .i64 ((rd_T50 l0_2 a1).f3.f6), .int .i64 ((rd_T50 l0_2 a1).f3.f7)] 44 (0, 0)) (by (with_reducible repeat (first | refine blk_drewN ?_ _ | refine blk_drew ?_ | refine blk_alloc ?_ _)); exact BK152.out) hg (Kd.R_ne HO_6.out BK152.out (by decide))); have n2_ := Aside0.mk (hb); have n3_ := Aside0.mk (ho); clear BK150; clear BK152; clear HB; clear HO_6; have BK150 := n0_; have BK152 := n1_; have HB := n2_; have HO158 := n3_; clear n0_ n1_ n2_ n3_; clear ho hb hg hat)))
             go_meet
             case rel => exact ⟨_, (y156), H', ⟨by have := HJ2.out; have := HJ9.out; have := HJ22.out; first | omega | exact Nat.le_refl _⟩, ⟨by (with_reducible repeat (first | apply Kd.R_alloc | apply Kd.R_drewN | apply Kd.R_drew)); exact HO158.out⟩, ⟨by (with_reducible repeat (first | refine blk_drewN ?_ _ | refine blk_drew ?_ | refine blk_alloc ?_ _)); exact BK150.out⟩, ⟨by (with_reducible repeat (first | refine blk_drewN ?_ _ | refine blk_drew ?_ | refine blk_alloc ?_ _)); exact BK152.out⟩, ⟨by repeat (first | (with_reducible first | exact HB.out | apply below_alloc | apply pw_below_drewN | apply below_drew1 | refine below_set ?_ GE150.out | refine below_set ?_ GE152.out) | exact HB.out)⟩⟩
            ·rw [if_neg c33] at H
             exact absurd H (by simp)
           ·rw [if_neg c32] at H
            have c32b0 : (((rd_T50 l0_2 a1).f3.f0) == 3) = false := beq_eq_false_iff_ne.mpr c32
            have c32b1 : (((rd_T50 l0_2 a1).f3.f0) != 3) = true := bne_iff_ne.mpr c32
            (first | rw [c32b0] | (simp only [i64_w, i32_w]; rw [c32b0]) | skip)
            have H' := Aside0.mk H
            clear H
            go_wp2
            repeat (go_quiet (fail); try go_wp2)
            go_meet
            case rel => exact ⟨_, (x6_22), H', ⟨by have := HJ2.out; have := HJ9.out; have := HJ22.out; first | omega | exact Nat.le_refl _⟩, ⟨by (with_reducible repeat (first | apply Kd.R_alloc | apply Kd.R_drewN | apply Kd.R_drew)); exact HO_6.out⟩, ⟨by (with_reducible repeat (first | refine blk_drewN ?_ _ | refine blk_drew ?_ | refine blk_alloc ?_ _)); exact BK150.out⟩, ⟨by (with_reducible repeat (first | refine blk_drewN ?_ _ | refine blk_drew ?_ | refine blk_alloc ?_ _)); exact BK152.out⟩, ⟨by repeat (first | (with_reducible first | exact HB.out | apply below_alloc | apply pw_below_drewN | apply below_drew1 | refine below_set ?_ GE150.out | refine below_set ?_ GE152.out) | exact HB.out)⟩⟩
          case rest =>
           clear HC29
           try clear c1
           try clear p1
           try clear q1
           try clear hx1
           try clear c2
           try clear p2
           try clear c3
           try clear c5
           try clear c5b0
           try clear c7
           try clear c8
           try clear c8b0
           try clear c9
           try clear c9b0
           try clear c13
           try clear c15
           try clear c15b0
           try clear c15b1
           try clear p15
           try clear q15
           try clear hx15
           try clear c16
           try clear c18
           try clear c18b0
           try clear c18b1
           try clear c19
           try clear c21
           try clear c24
           try clear c25
           try clear c26
           try clear c30
           try clear c32
           try clear c32b0
           try clear c32b1
           try clear c33
           try clear c34
           try clear hcz11_0
           try clear hcz11_1
           try clear hcz11_2
           try clear hcz14_0
           try clear hcz14_1
           try clear hcz14_2
           try clear hcz14_3
           try clear hcz14_4
           try clear hcz14_5
           try clear hcz14_6
           try clear hcz14_7
           try clear hcz17_0
           try clear hcz17_1
           try clear hcz17_2
           try clear hcz17_3
           try clear hcz17_4
           try clear hcz17_5
           try clear hcz17_6
           try clear hcz17_7
           try clear hcz20_0
           try clear hcz20_1
           try clear hcz20_2
           try clear hcz20_3
           try clear hcz20_4
           try clear hcz20_5
           try clear hcz20_6
           try clear hcz20_7
           try clear hcz22_0
           try clear hcz22_1
           try clear hcz22_2
           try clear hcz22_3
           try clear hcz22_4
           try clear hcz22_5
           try clear hcz22_6
           try clear hcz22_7
           try clear hcz27_0
           try clear hcz27_1
           try clear hcz27_2
           try clear hcz27_3
           try clear hcz27_4
           try clear hcz27_5
           try clear hcz27_6
           try clear hcz27_7
           try clear hcz31_0
           try clear hcz31_1
           try clear hcz31_2
           try clear hcz31_3
           try clear hcz31_4
           try clear hcz31_5
           try clear hcz31_6
           try clear hcz31_7
           try clear hcz35_0
           try clear hcz35_1
           try clear hcz35_2
           try clear hcz35_3
           try clear hcz35_4
           try clear hcz35_5
           try clear hcz35_6
           try clear hcz35_7
           try clear hcz6_0
           try clear hcz6_1
           try clear hcz6_2
           try clear hfz11_0
           try clear hfz11_1
           try clear hfz11_2
           try clear hfz14_0
           try clear hfz14_1
           try clear hfz14_2
           try clear hfz14_3
           try clear hfz14_4
           try clear hfz14_5
           try clear hfz14_6
           try clear hfz14_7
           try clear hfz17_0
           try clear hfz17_1
           try clear hfz17_2
           try clear hfz17_3
           try clear hfz17_4
           try clear hfz17_5
           try clear hfz17_6
           try clear hfz17_7
           try clear hfz20_0
           try clear hfz20_1
           try clear hfz20_2
           try clear hfz20_3
           try clear hfz20_4
           try clear hfz20_5
           try clear hfz20_6
           try clear hfz20_7
           try clear hfz22_0
           try clear hfz22_1
           try clear hfz22_2
           try clear hfz22_3
           try clear hfz22_4
           try clear hfz22_5
           try clear hfz22_6
           try clear hfz22_7
           try clear hfz27_0
           try clear hfz27_1
           try clear hfz27_2
           try clear hfz27_3
           try clear hfz27_4
           try clear hfz27_5
           try clear hfz27_6
           try clear hfz27_7
           try clear hfz31_0
           try clear hfz31_1
           try clear hfz31_2
           try clear hfz31_3
           try clear hfz31_4
           try clear hfz31_5
           try clear hfz31_6
           try clear hfz31_7
           try clear hfz35_0
           try clear hfz35_1
           try clear hfz35_2
           try clear hfz35_3
           try clear hfz35_4
           try clear hfz35_5
           try clear hfz35_6
           try clear hfz35_7
           try clear hfz6_0
           try clear hfz6_1
           try clear hfz6_2
           try clear hx151_0
           try clear hx151_1
           try clear hx151_10
           try clear hx151_11
           try clear hx151_12
           try clear hx151_13
           try clear hx151_2
           try clear hx151_3
           try clear hx151_4
           try clear hx151_5
           try clear hx151_6
           try clear hx151_7
           try clear hx151_8
           try clear hx151_9
           try clear p1
           try clear p15
           try clear p151
           try clear p2
           try clear q1
           try clear q15
           try clear q151
           obtain ⟨kq, x6_28, HA, HJ28, HO_6, BK150, BK152, HB⟩ := hcut
           cases kq with
           | zero => exact absurd HA.out (by simp [davitref07_Next.j3])
           | succ kj28 =>
            have H := HA.out
            clear HA
            simp only [davitref07_Next.j3] at H
            have HC37 := Aside0.mk H
            clear H
            have hnb38 := NB152_150.out
            have hnc38 := NB150_152.out
            have hcz39_0 : wc.cell? ⟨gb152, 0, none⟩ = some (.int .i64 ((rd_T50 l0_2 a1).f3.f0)) := (blk_cell BK152.out 0).trans rfl
            have hcz39_1 : wc.cell? ⟨gb152, 1, none⟩ = some (.int .i64 ((rd_T50 l0_2 a1).f3.f1)) := (blk_cell BK152.out 1).trans rfl
            have hcz39_2 : wc.cell? ⟨gb152, 2, none⟩ = some (.int .i64 ((rd_T50 l0_2 a1).f3.f2)) := (blk_cell BK152.out 2).trans rfl
            have hcz39_3 : wc.cell? ⟨gb152, 3, none⟩ = some (.int .i64 ((rd_T50 l0_2 a1).f3.f3)) := (blk_cell BK152.out 3).trans rfl
            have hcz39_4 : wc.cell? ⟨gb152, 4, none⟩ = some (.slice A151_10 ((rd_T50 l0_2 a1).f3.f4).length c151_10) := (blk_cell BK152.out 4).trans rfl
            have hcz39_5 : wc.cell? ⟨gb152, 5, none⟩ = some (.int .i64 ((rd_T50 l0_2 a1).f3.f5)) := (blk_cell BK152.out 5).trans rfl
            have hcz39_6 : wc.cell? ⟨gb152, 6, none⟩ = some (.int .i64 ((rd_T50 l0_2 a1).f3.f6)) := (blk_cell BK152.out 6).trans rfl
            have hcz39_7 : wc.cell? ⟨gb152, 7, none⟩ = some (.int .i64 ((rd_T50 l0_2 a1).f3.f7)) := (blk_cell BK152.out 7).trans rfl
            have hfz39_0 := blk_frozen BK152.out 0
            have hfz39_1 := blk_frozen BK152.out 1
            have hfz39_2 := blk_frozen BK152.out 2
            have hfz39_3 := blk_frozen BK152.out 3
            have hfz39_4 := blk_frozen BK152.out 4
            have hfz39_5 := blk_frozen BK152.out 5
            have hfz39_6 := blk_frozen BK152.out 6
            have hfz39_7 := blk_frozen BK152.out 7
            go_upto_if 52 with (fail)
            repeat (go_quiet (fail); go_upto_if 52 with (fail))
            go_cut [6] (fun v6 wc => ∃ (kq : Nat) (x6_36 : List Int), Aside0 (davitref07_Next.j4 kq x6_36 a0_0 a0_1 l0_2 = some r) ∧ Aside0 (kq ≤ kj28) ∧ Aside0 (Kd.R (Kd.int .i64) 3 wc w.heap.size (fun _ => True) v6 x6_36) ∧ Aside0 (wc.heap[gb150]? = some (.cells #[.int .i64 a0_0, .int .i64 a0_1, (.slice (some ad151) l0_2.length c0_2)] 24 (0, 0))) ∧ Aside0 (wc.heap[gb152]? = some (.cells #[.int .i64 ((rd_T50 l0_2 a1).f3.f0), .int .i64 ((rd_T50 l0_2 a1).f3.f1), .int .i64 ((rd_T50 l0_2 a1).f3.f2), .int .i64 ((rd_T50 l0_2 a1).f3.f3), (.slice A151_10 ((rd_T50 l0_2 a1).f3.f4).length c151_10), .int .i64 ((rd_T50 l0_2 a1).f3.f5), .int .i64 ((rd_T50 l0_2 a1).f3.f6), .int .i64 ((rd_T50 l0_2 a1).f3.f7)] 44 (0, 0))) ∧ Aside0 (Below w.heap.size w wc))
            case first =>
             have H := HC37.out
             clear HC37
             by_cases c40 : ((rd_T50 l0_2 a1).f3.f0) = 4
             ·rw [if_pos c40] at H
              have c40b0 : (((rd_T50 l0_2 a1).f3.f0) == 4) = true := beq_iff_eq.mpr c40
              have c40b1 : (((rd_T50 l0_2 a1).f3.f0) != 4) = false := bne_eq_false_iff_eq.mpr c40
              clear c40
              (first | rw [c40b0] | (simp only [i64_w, i32_w]; rw [c40b0]) | skip)
              by_cases c41 : x6_28.length < 17592186044416
              ·rw [if_pos c41] at H
               have LMc41 := Aside0.mk c41
               clear c41
               obtain ⟨y159, hy159⟩ : ∃ y_ : List Int, y_ = (x6_28 ++ [((rd_T50 l0_2 a1).f3.f7)]) := ⟨_, rfl⟩
               replace H : (davitref07_Next.j4 kj28 y159 a0_0 a0_1 l0_2) = some r := by first | (rw [hy159]; with_reducible exact H) | (have H2_ := (Option.bind_some _ _).symm.trans H; rw [hy159]; with_reducible exact H2_) | (have H2_ := (Option.bind_some _ _).symm.trans H; with_reducible exact H2_) | with_reducible exact H | (rw [hy159]; exact H) | exact H
               have Ny159 := Aside0.mk hy159
               clear hy159
               have H' := Aside0.mk H
               clear H
               have hnb42 := NB152_150.out
               have hnc42 := NB150_152.out
               have hcz43_0 : wc.cell? ⟨gb152, 0, none⟩ = some (.int .i64 ((rd_T50 l0_2 a1).f3.f0)) := (blk_cell BK152.out 0).trans rfl
               have hcz43_1 : wc.cell? ⟨gb152, 1, none⟩ = some (.int .i64 ((rd_T50 l0_2 a1).f3.f1)) := (blk_cell BK152.out 1).trans rfl
               have hcz43_2 : wc.cell? ⟨gb152, 2, none⟩ = some (.int .i64 ((rd_T50 l0_2 a1).f3.f2)) := (blk_cell BK152.out 2).trans rfl
               have hcz43_3 : wc.cell? ⟨gb152, 3, none⟩ = some (.int .i64 ((rd_T50 l0_2 a1).f3.f3)) := (blk_cell BK152.out 3).trans rfl
               have hcz43_4 : wc.cell? ⟨gb152, 4, none⟩ = some (.slice A151_10 ((rd_T50 l0_2 a1).f3.f4).length c151_10) := (blk_cell BK152.out 4).trans rfl
               have hcz43_5 : wc.cell? ⟨gb152, 5, none⟩ = some (.int .i64 ((rd_T50 l0_2 a1).f3.f5)) := (blk_cell BK152.out 5).trans rfl
               have hcz43_6 : wc.cell? ⟨gb152, 6, none⟩ = some (.int .i64 ((rd_T50 l0_2 a1).f3.f6)) := (blk_cell BK152.out 6).trans rfl
               have hcz43_7 : wc.cell? ⟨gb152, 7, none⟩ = some (.int .i64 ((rd_T50 l0_2 a1).f3.f7)) := (blk_cell BK152.out 7).trans rfl
               have hfz43_0 := blk_frozen BK152.out 0
               have hfz43_1 := blk_frozen BK152.out 1
               have hfz43_2 := blk_frozen BK152.out 2
               have hfz43_3 := blk_frozen BK152.out 3
               have hfz43_4 := blk_frozen BK152.out 4
               have hfz43_5 := blk_frozen BK152.out 5
               have hfz43_6 := blk_frozen BK152.out 6
               have hfz43_7 := blk_frozen BK152.out 7
               go_wp2_with (first | ((with_reducible refine gate_builtin (b := .append) (xs := #[.tmp 53, .tmp 56]) rfl ?_); (try (refine gate_guard (by rfl) ?_; dsimp only)); at_builtin; refine Kd.R_append (Kd.int .i64) (w0 := w) w.heap.size rfl (.tmp 53) (.tmp 56) 27 3 (.int .i64 0) 8 rfl Try.underlying27 info3 rfl (by decide) (by omega) u6 x6_28 ((rd_T50 l0_2 a1).f3.f7) [.int .i64 ((rd_T50 l0_2 a1).f3.f7)] (fun _ => True) (fun _ => False) rfl rfl ?aP (fun _ hk => hk.elim) ?aF ?aO ?aB ?aS ?aL ?_; (case aP => exact rfl); (case aB => exact (by repeat (first | (with_reducible first | exact HB.out | apply below_alloc | apply pw_below_drewN | apply below_drew1 | refine below_set ?_ GE150.out | refine below_set ?_ GE152.out) | exact HB.out))); (case aF => exact (fun _ _ => trivial)); (case aO => exact (by (with_reducible repeat (first | apply Kd.R_alloc | apply Kd.R_drewN | apply Kd.R_drew)); exact HO_6.out)); (case aS => exact (below_size (by repeat (first | (with_reducible first | exact HB.out | apply below_alloc | apply pw_below_drewN | apply below_drew1 | refine below_set ?_ GE150.out | refine below_set ?_ GE152.out) | exact HB.out)))); (case aL => have := LMc41.out; omega); intro v160 w44 ho hb hg hat; rw [← Ny159.out] at ho; have n0_ := Aside0.mk (blk_grown (g := gb150) (o := .cells #[.int .i64 a0_0, .int .i64 a0_1, .slice (some ad151) l0_2.length c0_2] 24 (0, 0)) (by (with_reducible repeat (first | refine blk_drewN ?_ _ | refine blk_drew ?_ | refine blk_alloc ?_ _)); exact BK150.out) hg (Kd.R_ne HO_6.out BK150.out (by decide))); have n1_ := Aside0.mk (blk_grown (g := gb152) (o := .cells #[.int .i64 ((rd_T50 l0_2 a1).f3.f0), .int .i64 ((rd_T50 l0_2 a1).f3.f1), .int .i64 ((rd_T50 l0_2 a1).f3.f2), .int .i64 ((rd_T50 l0_2 a1).f3.f3), .slice A151_10 ((rd_T50 l0_2 a1).f3.f4).length c151_10, .int .i64 ((rd_T50 l0_2 a1).f3.f5), .int .i64 ((rd_T50 l0_2 a1).f3.f6), .int .i64 ((rd_T50 l0_2 a1).f3.f7)] 44 (0, 0)) (by (with_reducible repeat (first | refine blk_drewN ?_ _ | refine blk_drew ?_ | refine blk_alloc ?_ _)); exact BK152.out) hg (Kd.R_ne HO_6.out BK152.out (by decide))); have n2_ := Aside0.mk (hb); have n3_ := Aside0.mk (ho); clear BK150; clear BK152; clear HB; clear HO_6; have BK150 := n0_; have BK152 := n1_; have HB := n2_; have HO161 := n3_; clear n0_ n1_ n2_ n3_; clear ho hb hg hat))
               repeat (go_quiet (first | ((with_reducible refine gate_builtin (b := .append) (xs := #[.tmp 53, .tmp 56]) rfl ?_); (try (refine gate_guard (by rfl) ?_; dsimp only)); at_builtin; refine Kd.R_append (Kd.int .i64) (w0 := w) w.heap.size rfl (.tmp 53) (.tmp 56) 27 3 (.int .i64 0) 8 rfl Try.underlying27 info3 rfl (by decide) (by omega) u6 x6_28 ((rd_T50 l0_2 a1).f3.f7) [.int .i64 ((rd_T50 l0_2 a1).f3.f7)] (fun _ => True) (fun _ => False) rfl rfl ?aP (fun _ hk => hk.elim) ?aF ?aO ?aB ?aS ?aL ?_; (case aP => exact rfl); (case aB => exact (by repeat (first | (with_reducible first | exact HB.out | apply below_alloc | apply pw_below_drewN | apply below_drew1 | refine below_set ?_ GE150.out | refine below_set ?_ GE152.out) | exact HB.out))); (case aF => exact (fun _ _ => trivial)); (case aO => exact (by (with_reducible repeat (first | apply Kd.R_alloc | apply Kd.R_drewN | apply Kd.R_drew)); exact HO_6.out)); (case aS => exact (below_size (by repeat (first | (with_reducible first | exact HB.out | apply below_alloc | apply pw_below_drewN | apply below_drew1 | refine below_set ?_ GE150.out | refine below_set ?_ GE152.out) | exact HB.out)))); (case aL => have := LMc41.out; omega); intro v160 w44 ho hb hg hat; rw [← Ny159.out] at ho; have n0_ := Aside0.mk (blk_grown (g := gb150) (o := .cells #[.int .i64 a0_0, .int .i64 a0_1, .slice (some ad151) l0_2.length c0_2] 24 (0, 0)) (by (with_reducible repeat (first | refine blk_drewN ?_ _ | refine blk_drew ?_ | refine blk_alloc ?_ _)); exact BK150.out) hg (Kd.R_ne HO_6.out BK150.out (by decide))); have n1_ := Aside0.mk (blk_grown (g := gb152) (o := .cells #[.int .i64 ((rd_T50 l0_2 a1).f3.f0), .int .i64 ((rd_T50 l0_2 a1).f3.f1), .int .i64 ((rd_T50 l0_2 a1).f3.f2), .int .i64 ((rd_T50 l0_2 a1).f3.f3), .slice A151_10 ((rd_T50 l0_2 a1).f3.f4).length c151_10, .int .i64 ((rd_T50 l0_2 a1).f3.f5), .int .i64 ((rd_T50 l0_2 a1).f3.f6), .int .i64 ((rd_T50 l0_2 a1).f3.f7)] 44 (0, 0)) (by (with_reducible repeat (first | refine blk_drewN ?_ _ | refine blk_drew ?_ | refine blk_alloc ?_ _)); exact BK152.out) hg (Kd.R_ne HO_6.out BK152.out (by decide))); have n2_ := Aside0.mk (hb); have n3_ := Aside0.mk (ho); clear BK150; clear BK152; clear HB; clear HO_6; have BK150 := n0_; have BK152 := n1_; have HB := n2_; have HO161 := n3_; clear n0_ n1_ n2_ n3_; clear ho hb hg hat)); try go_wp2_with (first | ((with_reducible refine gate_builtin (b := .append) (xs := #[.tmp 53, .tmp 56]) rfl ?_); (try (refine gate_guard (by rfl) ?_; dsimp only)); at_builtin; refine Kd.R_append (Kd.int .i64) (w0 := w) w.heap.size rfl (.tmp 53) (.tmp 56) 27 3 (.int .i64 0) 8 rfl Try.underlying27 info3 rfl (by decide) (by omega) u6 x6_28 ((rd_T50 l0_2 a1).f3.f7) [.int .i64 ((rd_T50 l0_2 a1).f3.f7)] (fun _ => True) (fun _ => False) rfl rfl ?aP (fun _ hk => hk.elim) ?aF ?aO ?aB ?aS ?aL ?_; (case aP => exact rfl); (case aB => exact (by repeat (first | (with_reducible first | exact HB.out | apply below_alloc | apply pw_below_drewN | apply below_drew1 | refine below_set ?_ GE150.out | refine below_set ?_ GE152.out) | exact HB.out))); (case aF => exact (fun _ _ => trivial)); (case aO => exact (by (with_reducible repeat (first | apply Kd.R_alloc | apply Kd.R_drewN | apply Kd.R_drew)); exact HO_6.out)); (case aS => exact (below_size (by repeat (first | (with_reducible first | exact HB.out | apply below_alloc | apply pw_below_drewN | apply below_drew1 | refine below_set ?_ GE150.out | refine below_set ?_ GE152.out) | exact HB.out)))); (case aL => have := LMc41.out; omega); intro v160 w44 ho hb hg hat; rw [← Ny159.out] at ho; have n0_ := Aside0.mk (blk_grown (g := gb150) (o := .cells #[.int .i64 a0_0, .int .i64 a0_1, .slice (some ad151) l0_2.length c0_2] 24 (0, 0)) (by (with_reducible repeat (first | refine blk_drewN ?_ _ | refine blk_drew ?_ | refine blk_alloc ?_ _)); exact BK150.out) hg (Kd.R_ne HO_6.out BK150.out (by decide))); have n1_ := Aside0.mk (blk_grown (g := gb152) (o := .cells #[.int .i64 ((rd_T50 l0_2 a1).f3.f0), .int .i64 ((rd_T50 l0_2 a1).f3.f1), .int .i64 ((rd_T50 l0_2 a1).f3.f2), .int .i64 ((rd_T50 l0_2 a1).f3.f3), .slice A151_10 ((rd_T50 l0_2 a1).f3.f4).length c151_10, .int .i64 ((rd_T50 l0_2 a1).f3.f5), .int .i64 ((rd_T50 l0_2 a1).f3.f6), .int .i64 ((rd_T50 l0_2 a1).f3.f7)] 44 (0, 0)) (by (with_reducible repeat (first | refine blk_drewN ?_ _ | refine blk_drew ?_ | refine blk_alloc ?_ _)); exact BK152.out) hg (Kd.R_ne HO_6.out BK152.out (by decide))); have n2_ := Aside0.mk (hb); have n3_ := Aside0.mk (ho); clear BK150; clear BK152; clear HB; clear HO_6; have BK150 := n0_; have BK152 := n1_; have HB := n2_; have HO161 := n3_; clear n0_ n1_ n2_ n3_; clear ho hb hg hat)))
               go_meet
               case rel => exact ⟨_, (y159), H', ⟨by have := HJ2.out; have := HJ9.out; have := HJ22.out; have := HJ28.out; first | omega | exact Nat.le_refl _⟩, ⟨by (with_reducible repeat (first | apply Kd.R_alloc | apply Kd.R_drewN | apply Kd.R_drew)); exact HO161.out⟩, ⟨by (with_reducible repeat (first | refine blk_drewN ?_ _ | refine blk_drew ?_ | refine blk_alloc ?_ _)); exact BK150.out⟩, ⟨by (with_reducible repeat (first | refine blk_drewN ?_ _ | refine blk_drew ?_ | refine blk_alloc ?_ _)); exact BK152.out⟩, ⟨by repeat (first | (with_reducible first | exact HB.out | apply below_alloc | apply pw_below_drewN | apply below_drew1 | refine below_set ?_ GE150.out | refine below_set ?_ GE152.out) | exact HB.out)⟩⟩
              ·rw [if_neg c41] at H
               exact absurd H (by simp)
             ·rw [if_neg c40] at H
              have c40b0 : (((rd_T50 l0_2 a1).f3.f0) == 4) = false := beq_eq_false_iff_ne.mpr c40
              have c40b1 : (((rd_T50 l0_2 a1).f3.f0) != 4) = true := bne_iff_ne.mpr c40
              (first | rw [c40b0] | (simp only [i64_w, i32_w]; rw [c40b0]) | skip)
              have H' := Aside0.mk H
              clear H
              go_wp2
              repeat (go_quiet (fail); try go_wp2)
              go_meet
              case rel => exact ⟨_, (x6_28), H', ⟨by have := HJ2.out; have := HJ9.out; have := HJ22.out; have := HJ28.out; first | omega | exact Nat.le_refl _⟩, ⟨by (with_reducible repeat (first | apply Kd.R_alloc | apply Kd.R_drewN | apply Kd.R_drew)); exact HO_6.out⟩, ⟨by (with_reducible repeat (first | refine blk_drewN ?_ _ | refine blk_drew ?_ | refine blk_alloc ?_ _)); exact BK150.out⟩, ⟨by (with_reducible repeat (first | refine blk_drewN ?_ _ | refine blk_drew ?_ | refine blk_alloc ?_ _)); exact BK152.out⟩, ⟨by repeat (first | (with_reducible first | exact HB.out | apply below_alloc | apply pw_below_drewN | apply below_drew1 | refine below_set ?_ GE150.out | refine below_set ?_ GE152.out) | exact HB.out)⟩⟩
            case rest =>
             clear HC37
             try clear c1
             try clear p1
             try clear q1
             try clear hx1
             try clear c2
             try clear p2
             try clear c3
             try clear c4
             try clear c5
             try clear c5b0
             try clear c7
             try clear c8
             try clear c8b0
             try clear c9
             try clear c9b0
             try clear c13
             try clear c15
             try clear c15b0
             try clear c15b1
             try clear p15
             try clear q15
             try clear hx15
             try clear c16
             try clear c18
             try clear c18b0
             try clear c18b1
             try clear c19
             try clear c21
             try clear c24
             try clear c25
             try clear c26
             try clear c30
             try clear c32
             try clear c32b0
             try clear c32b1
             try clear c33
             try clear c34
             try clear c38
             try clear c40
             try clear c40b0
             try clear c40b1
             try clear c41
             try clear c42
             try clear hcz11_0
             try clear hcz11_1
             try clear hcz11_2
             try clear hcz14_0
             try clear hcz14_1
             try clear hcz14_2
             try clear hcz14_3
             try clear hcz14_4
             try clear hcz14_5
             try clear hcz14_6
             try clear hcz14_7
             try clear hcz17_0
             try clear hcz17_1
             try clear hcz17_2
             try clear hcz17_3
             try clear hcz17_4
             try clear hcz17_5
             try clear hcz17_6
             try clear hcz17_7
             try clear hcz20_0
             try clear hcz20_1
             try clear hcz20_2
             try clear hcz20_3
             try clear hcz20_4
             try clear hcz20_5
             try clear hcz20_6
             try clear hcz20_7
             try clear hcz22_0
             try clear hcz22_1
             try clear hcz22_2
             try clear hcz22_3
             try clear hcz22_4
             try clear hcz22_5
             try clear hcz22_6
             try clear hcz22_7
             try clear hcz27_0
             try clear hcz27_1
             try clear hcz27_2
             try clear hcz27_3
             try clear hcz27_4
             try clear hcz27_5
             try clear hcz27_6
             try clear hcz27_7
             try clear hcz31_0
             try clear hcz31_1
             try clear hcz31_2
             try clear hcz31_3
             try clear hcz31_4
             try clear hcz31_5
             try clear hcz31_6
             try clear hcz31_7
             try clear hcz35_0
             try clear hcz35_1
             try clear hcz35_2
             try clear hcz35_3
             try clear hcz35_4
             try clear hcz35_5
             try clear hcz35_6
             try clear hcz35_7
             try clear hcz39_0
             try clear hcz39_1
             try clear hcz39_2
             try clear hcz39_3
             try clear hcz39_4
             try clear hcz39_5
             try clear hcz39_6
             try clear hcz39_7
             try clear hcz43_0
             try clear hcz43_1
             try clear hcz43_2
             try clear hcz43_3
             try clear hcz43_4
             try clear hcz43_5
             try clear hcz43_6
             try clear hcz43_7
             try clear hcz6_0
             try clear hcz6_1
             try clear hcz6_2
             try clear hfz11_0
             try clear hfz11_1
             try clear hfz11_2
             try clear hfz14_0
             try clear hfz14_1
             try clear hfz14_2
             try clear hfz14_3
             try clear hfz14_4
             try clear hfz14_5
             try clear hfz14_6
             try clear hfz14_7
             try clear hfz17_0
             try clear hfz17_1
             try clear hfz17_2
             try clear hfz17_3
             try clear hfz17_4
             try clear hfz17_5
             try clear hfz17_6
             try clear hfz17_7
             try clear hfz20_0
             try clear hfz20_1
             try clear hfz20_2
             try clear hfz20_3
             try clear hfz20_4
             try clear hfz20_5
             try clear hfz20_6
             try clear hfz20_7
             try clear hfz22_0
             try clear hfz22_1
             try clear hfz22_2
             try clear hfz22_3
             try clear hfz22_4
             try clear hfz22_5
             try clear hfz22_6
             try clear hfz22_7
             try clear hfz27_0
             try clear hfz27_1
             try clear hfz27_2
             try clear hfz27_3
             try clear hfz27_4
             try clear hfz27_5
             try clear hfz27_6
             try clear hfz27_7
             try clear hfz31_0
             try clear hfz31_1
             try clear hfz31_2
             try clear hfz31_3
             try clear hfz31_4
             try clear hfz31_5
             try clear hfz31_6
             try clear hfz31_7
             try clear hfz35_0
             try clear hfz35_1
             try clear hfz35_2
             try clear hfz35_3
             try clear hfz35_4
             try clear hfz35_5
             try clear hfz35_6
             try clear hfz35_7
             try clear hfz39_0
             try clear hfz39_1
             try clear hfz39_2
             try clear hfz39_3
             try clear hfz39_4
             try clear hfz39_5
             try clear hfz39_6
             try clear hfz39_7
             try clear hfz43_0
             try clear hfz43_1
             try clear hfz43_2
             try clear hfz43_3
             try clear hfz43_4
             try clear hfz43_5
             try clear hfz43_6
             try clear hfz43_7
             try clear hfz6_0
             try clear hfz6_1
             try clear hfz6_2
             try clear hx151_0
             try clear hx151_1
             try clear hx151_10
             try clear hx151_11
             try clear hx151_12
             try clear hx151_13
             try clear hx151_2
             try clear hx151_3
             try clear hx151_4
             try clear hx151_5
             try clear hx151_6
             try clear hx151_7
             try clear hx151_8
             try clear hx151_9
             try clear p1
             try clear p15
             try clear p151
             try clear p2
             try clear q1
             try clear q15
             try clear q151
             obtain ⟨kq, x6_36, HA, HJ36, HO_6, BK150, BK152, HB⟩ := hcut
             cases kq with
             | zero => exact absurd HA.out (by simp [davitref07_Next.j4])
             | succ kj36 =>
              have H := HA.out
              clear HA
              simp only [davitref07_Next.j4] at H
              have H' := Aside0.mk H
              clear H
              go_wp2
              repeat (go_quiet (fail); try go_wp2)
              go_loopg [7, 8] kj36 (fun kq v7 v8 w' => ∃ (x7_6 : List Int) (x8_6 : Int), v8 = .int .i64 x8_6 ∧ Aside0 (davitref07_Next.l0 kq x6_36 x7_6 x8_6 a0_0 a0_1 l0_2 = some r) ∧ Aside0 (kq ≤ kj36) ∧ Aside0 (Kd.R (Kd.int .i64) 3 w' w.heap.size (fun k_ => some k_ ≠ (v7 : Value).ownBlock) u6 x6_36) ∧ Aside0 (Kd.R (Kd.int .i64) 3 w' w.heap.size (fun k_ => some k_ ≠ (u6 : Value).ownBlock) v7 x7_6) ∧ Aside0 (w'.heap[gb150]? = some (.cells #[.int .i64 a0_0, .int .i64 a0_1, (.slice (some ad151) l0_2.length c0_2)] 24 (0, 0))) ∧ Aside0 (w'.heap[gb152]? = some (.cells #[.int .i64 ((rd_T50 l0_2 a1).f3.f0), .int .i64 ((rd_T50 l0_2 a1).f3.f1), .int .i64 ((rd_T50 l0_2 a1).f3.f2), .int .i64 ((rd_T50 l0_2 a1).f3.f3), (.slice A151_10 ((rd_T50 l0_2 a1).f3.f4).length c151_10), .int .i64 ((rd_T50 l0_2 a1).f3.f5), .int .i64 ((rd_T50 l0_2 a1).f3.f6), .int .i64 ((rd_T50 l0_2 a1).f3.f7)] 44 (0, 0))) ∧ Aside0 (Below w.heap.size w w'))
              case atStart => exact ⟨(([] : List Int)), (0), (by first | rfl | (simp; done) | (simp [*]; done)), H', ⟨Nat.le_refl _⟩, ⟨by (with_reducible repeat (first | apply Kd.R_alloc | apply Kd.R_drewN | apply Kd.R_drew)); exact Kd.R_mono HO_6.out (fun _ hk => (by simp [Value.ownBlock]))⟩, ⟨by first | exact Kd.R_nil _ _ _ _ _ | exact Kd.N_nil _ _ _ _ _ | exact Kd.V_nil _ _ _ _ _ | exact Kd.Q_nil _ _ _ _ _ | exact Kd.S_nil _ _ _ _ _⟩, ⟨by (with_reducible repeat (first | refine blk_drewN ?_ _ | refine blk_drew ?_ | refine blk_alloc ?_ _)); exact BK150.out⟩, ⟨by (with_reducible repeat (first | refine blk_drewN ?_ _ | refine blk_drew ?_ | refine blk_alloc ?_ _)); exact BK152.out⟩, ⟨by repeat (first | (with_reducible first | exact HB.out | apply below_alloc | apply pw_below_drewN | apply below_drew1 | refine below_set ?_ GE150.out | refine below_set ?_ GE152.out) | exact HB.out)⟩⟩
              case round =>
               clear H'
               try clear c1
               try clear p1
               try clear q1
               try clear hx1
               try clear c2
               try clear p2
               try clear c3
               try clear c4
               try clear c5
               try clear c5b0
               try clear c7
               try clear c8
               try clear c8b0
               try clear c9
               try clear c9b0
               try clear c13
               try clear c15
               try clear c15b0
               try clear c15b1
               try clear p15
               try clear q15
               try clear hx15
               try clear c16
               try clear c18
               try clear c18b0
               try clear c18b1
               try clear c19
               try clear c21
               try clear c24
               try clear c25
               try clear c26
               try clear c30
               try clear c32
               try clear c32b0
               try clear c32b1
               try clear c33
               try clear c34
               try clear c38
               try clear c40
               try clear c40b0
               try clear c40b1
               try clear c41
               try clear c42
               try clear hcz11_0
               try clear hcz11_1
               try clear hcz11_2
               try clear hcz14_0
               try clear hcz14_1
               try clear hcz14_2
               try clear hcz14_3
               try clear hcz14_4
               try clear hcz14_5
               try clear hcz14_6
               try clear hcz14_7
               try clear hcz17_0
               try clear hcz17_1
               try clear hcz17_2
               try clear hcz17_3
               try clear hcz17_4
               try clear hcz17_5
               try clear hcz17_6
               try clear hcz17_7
               try clear hcz20_0
               try clear hcz20_1
               try clear hcz20_2
               try clear hcz20_3
               try clear hcz20_4
               try clear hcz20_5
               try clear hcz20_6
               try clear hcz20_7
               try clear hcz22_0
               try clear hcz22_1
               try clear hcz22_2
               try clear hcz22_3
               try clear hcz22_4
               try clear hcz22_5
               try clear hcz22_6
               try clear hcz22_7
               try clear hcz27_0
               try clear hcz27_1
               try clear hcz27_2
               try clear hcz27_3
               try clear hcz27_4
               try clear hcz27_5
               try clear hcz27_6
               try clear hcz27_7
               try clear hcz31_0
               try clear hcz31_1
               try clear hcz31_2
               try clear hcz31_3
               try clear hcz31_4
               try clear hcz31_5
               try clear hcz31_6
               try clear hcz31_7
               try clear hcz35_0
               try clear hcz35_1
               try clear hcz35_2
               try clear hcz35_3
               try clear hcz35_4
               try clear hcz35_5
               try clear hcz35_6
               try clear hcz35_7
               try clear hcz39_0
               try clear hcz39_1
               try clear hcz39_2
               try clear hcz39_3
               try clear hcz39_4
               try clear hcz39_5
               try clear hcz39_6
               try clear hcz39_7
               try clear hcz43_0
               try clear hcz43_1
               try clear hcz43_2
               try clear hcz43_3
               try clear hcz43_4
               try clear hcz43_5
               try clear hcz43_6
               try clear hcz43_7
               try clear hcz6_0
               try clear hcz6_1
               try clear hcz6_2
               try clear hfz11_0
               try clear hfz11_1
               try clear hfz11_2
               try clear hfz14_0
               try clear hfz14_1
               try clear hfz14_2
               try clear hfz14_3
               try clear hfz14_4
               try clear hfz14_5
               try clear hfz14_6
               try clear hfz14_7
               try clear hfz17_0
               try clear hfz17_1
               try clear hfz17_2
               try clear hfz17_3
               try clear hfz17_4
               try clear hfz17_5
               try clear hfz17_6
               try clear hfz17_7
               try clear hfz20_0
               try clear hfz20_1
               try clear hfz20_2
               try clear hfz20_3
               try clear hfz20_4
               try clear hfz20_5
               try clear hfz20_6
               try clear hfz20_7
               try clear hfz22_0
               try clear hfz22_1
               try clear hfz22_2
               try clear hfz22_3
               try clear hfz22_4
               try clear hfz22_5
               try clear hfz22_6
               try clear hfz22_7
               try clear hfz27_0
               try clear hfz27_1
               try clear hfz27_2
               try clear hfz27_3
               try clear hfz27_4
               try clear hfz27_5
               try clear hfz27_6
               try clear hfz27_7
               try clear hfz31_0
               try clear hfz31_1
               try clear hfz31_2
               try clear hfz31_3
               try clear hfz31_4
               try clear hfz31_5
               try clear hfz31_6
               try clear hfz31_7
               try clear hfz35_0
               try clear hfz35_1
               try clear hfz35_2
               try clear hfz35_3
               try clear hfz35_4
               try clear hfz35_5
               try clear hfz35_6
               try clear hfz35_7
               try clear hfz39_0
               try clear hfz39_1
               try clear hfz39_2
               try clear hfz39_3
               try clear hfz39_4
               try clear hfz39_5
               try clear hfz39_6
               try clear hfz39_7
               try clear hfz43_0
               try clear hfz43_1
               try clear hfz43_2
               try clear hfz43_3
               try clear hfz43_4
               try clear hfz43_5
               try clear hfz43_6
               try clear hfz43_7
               try clear hfz6_0
               try clear hfz6_1
               try clear hfz6_2
               try clear hx151_0
               try clear hx151_1
               try clear hx151_10
               try clear hx151_11
               try clear hx151_12
               try clear hx151_13
               try clear hx151_2
               try clear hx151_3
               try clear hx151_4
               try clear hx151_5
               try clear hx151_6
               try clear hx151_7
               try clear hx151_8
               try clear hx151_9
               try clear p1
               try clear p15
               try clear p151
               try clear p2
               try clear q1
               try clear q15
               try clear q151
               obtain ⟨x7_6, x8_6, rfl, HA, HK6, HO_6, HO_7, BK150, BK152, HB⟩ := hrel
               cases gk with
               | zero => exact absurd HA.out (by simp [davitref07_Next.l0])
               | succ k6 =>
                have H := HA.out
                clear HA
                simp only [davitref07_Next.l0] at H
                by_cases c45 : x8_6 < (x6_36.length : Int)
                ·rw [if_pos c45] at H
                 have c45b0 : decide (x8_6 < (x6_36.length : Int)) = true := decide_eq_true c45
                 clear c45
                 by_cases c46 : 0 ≤ x8_6
                 ·rw [if_pos c46] at H
                  have c46b0 : decide (0 ≤ x8_6) = true := decide_eq_true c46
                  clear c46
                  by_cases c47 : (rd x6_36 x8_6) ≥ 0
                  ·rw [if_pos c47] at H
                   have c47b0 : decide (0 ≤ (rd x6_36 x8_6)) = true := decide_eq_true c47
                   clear c47
                   by_cases c48 : (rd x6_36 x8_6) < (l0_2.length : Int)
                   ·rw [if_pos c48] at H
                    have c48b0 : decide ((rd x6_36 x8_6) < (l0_2.length : Int)) = true := decide_eq_true c48
                    clear c48
                    by_cases c49 : x7_6.length < 17592186044416
                    ·rw [if_pos c49] at H
                     have LMc49 := Aside0.mk c49
                     clear c49
                     obtain ⟨y165, hy165⟩ : ∃ y_ : List Int, y_ = (x7_6 ++ [rd x6_36 x8_6]) := ⟨_, rfl⟩
                     replace H : (davitref07_Next.l0 k6 x6_36 y165 (wrap64 (x8_6 + 1)) a0_0 a0_1 l0_2) = some r := by first | (rw [hy165]; with_reducible exact H) | (have H2_ := (Option.bind_some _ _).symm.trans H; rw [hy165]; with_reducible exact H2_) | (have H2_ := (Option.bind_some _ _).symm.trans H; with_reducible exact H2_) | with_reducible exact H | (rw [hy165]; exact H) | exact H
                     have Ny165 := Aside0.mk hy165
                     clear hy165
                     have H' := Aside0.mk H
                     clear H
                     obtain ⟨Ao50, co50, eo50⟩ := Kd.R_slice HO_6.out
                     subst eo50
                     have p162 : 0 ≤ (x8_6 : Int) := of_decide_eq_true (by first | (with_reducible assumption) | assumption)
                     have q162 : x8_6 < (x6_36.length : Int) := of_decide_eq_true (by first | (with_reducible assumption) | assumption)
                     obtain ⟨ad162, e162, hx162_0⟩ := Kd.at_int (Kd.R_reads' HO_6.out).2.2 x8_6 p162 q162
                     cases e162
                     replace p162 := eq_true p162
                     replace q162 := eq_true q162
                     have p163 : 0 ≤ (x8_6 : Int) := of_decide_eq_true (by first | (with_reducible assumption) | assumption)
                     have q163 : x8_6 < (x6_36.length : Int) := of_decide_eq_true (by first | (with_reducible assumption) | assumption)
                     obtain ⟨ad163, e163, hx163_0⟩ := Kd.at_int (Kd.R_reads' HO_6.out).2.2 x8_6 p163 q163
                     obtain rfl : ad162 = ad163 := (by injection e163)
                     replace p163 := eq_true p163
                     replace q163 := eq_true q163
                     have hnb51 := NB150_152.out
                     have hnc51 := NB152_150.out
                     have hcz52_0 : wr.cell? ⟨gb150, 0, none⟩ = some (.int .i64 a0_0) := (blk_cell BK150.out 0).trans rfl
                     have hcz52_1 : wr.cell? ⟨gb150, 1, none⟩ = some (.int .i64 a0_1) := (blk_cell BK150.out 1).trans rfl
                     have hcz52_2 : wr.cell? ⟨gb150, 2, none⟩ = some (.slice (some ad151) l0_2.length c0_2) := (blk_cell BK150.out 2).trans rfl
                     have hfz52_0 := blk_frozen BK150.out 0
                     have hfz52_1 := blk_frozen BK150.out 1
                     have hfz52_2 := blk_frozen BK150.out 2
                     have p164 : 0 ≤ (x8_6 : Int) := of_decide_eq_true (by first | (with_reducible assumption) | assumption)
                     have q164 : x8_6 < (x6_36.length : Int) := of_decide_eq_true (by first | (with_reducible assumption) | assumption)
                     obtain ⟨ad164, e164, hx164_0⟩ := Kd.at_int (Kd.R_reads' HO_6.out).2.2 x8_6 p164 q164
                     obtain rfl : ad162 = ad164 := (by injection e164)
                     replace p164 := eq_true p164
                     replace q164 := eq_true q164
                     go_wp2_with (first | ((with_reducible refine gate_builtin (b := .append) (xs := #[.tmp 79, .tmp 84]) rfl ?_); (try (refine gate_guard (by rfl) ?_; dsimp only)); at_builtin; refine Kd.R_append (Kd.int .i64) (w0 := w) w.heap.size rfl (.tmp 79) (.tmp 84) 27 3 (.int .i64 0) 8 rfl Try.underlying27 info3 rfl (by decide) (by omega) u7 x7_6 (rd x6_36 x8_6) [.int .i64 (rd x6_36 x8_6)] (fun k_ => some k_ ≠ (.slice (some ad162) x6_36.length co50 : Value).ownBlock) (fun _ => False) rfl rfl ?aP (fun _ hk => hk.elim) ?aF ?aO ?aB ?aS ?aL ?_; (case aP => exact rfl); (case aB => exact (by repeat (first | (with_reducible first | exact HB.out | apply below_alloc | apply pw_below_drewN | apply below_drew1 | refine below_set ?_ GE150.out | refine below_set ?_ GE152.out) | exact HB.out))); (case aF => exact (fun k_ hk => Kd.fresh' (Kd.R_lt (by (with_reducible repeat (first | apply Kd.R_alloc | apply Kd.R_drewN | apply Kd.R_drew)); exact HO_6.out)) k_ hk)); (case aO => exact (by (with_reducible repeat (first | apply Kd.R_alloc | apply Kd.R_drewN | apply Kd.R_drew)); exact HO_7.out)); (case aS => exact (below_size (by repeat (first | (with_reducible first | exact HB.out | apply below_alloc | apply pw_below_drewN | apply below_drew1 | refine below_set ?_ GE150.out | refine below_set ?_ GE152.out) | exact HB.out)))); (case aL => have := LMc49.out; omega); intro v166 w53 ho hb hg hat; rw [← Ny165.out] at ho; have n0_ := Aside0.mk (Kd.R_after (ok := (fun _ => True)) (by (with_reducible repeat (first | apply Kd.R_alloc | apply Kd.R_drewN | apply Kd.R_drew)); exact Kd.R_mono HO_6.out (fun _ hk => ⟨trivial, hk⟩)) hg hat); have n1_ := Aside0.mk (blk_grown (g := gb150) (o := .cells #[.int .i64 a0_0, .int .i64 a0_1, .slice (some ad151) l0_2.length c0_2] 24 (0, 0)) (by (with_reducible repeat (first | refine blk_drewN ?_ _ | refine blk_drew ?_ | refine blk_alloc ?_ _)); exact BK150.out) hg (Kd.R_ne HO_7.out BK150.out (by decide))); have n2_ := Aside0.mk (blk_grown (g := gb152) (o := .cells #[.int .i64 ((rd_T50 l0_2 a1).f3.f0), .int .i64 ((rd_T50 l0_2 a1).f3.f1), .int .i64 ((rd_T50 l0_2 a1).f3.f2), .int .i64 ((rd_T50 l0_2 a1).f3.f3), .slice A151_10 ((rd_T50 l0_2 a1).f3.f4).length c151_10, .int .i64 ((rd_T50 l0_2 a1).f3.f5), .int .i64 ((rd_T50 l0_2 a1).f3.f6), .int .i64 ((rd_T50 l0_2 a1).f3.f7)] 44 (0, 0)) (by (with_reducible repeat (first | refine blk_drewN ?_ _ | refine blk_drew ?_ | refine blk_alloc ?_ _)); exact BK152.out) hg (Kd.R_ne HO_7.out BK152.out (by decide))); have n3_ := Aside0.mk (hb); have n4_ := Aside0.mk (ho); clear HO_6; clear BK150; clear BK152; clear HB; clear HO_7; have HO_6 := n0_; have BK150 := n1_; have BK152 := n2_; have HB := n3_; have HO167 := n4_; clear n0_ n1_ n2_ n3_ n4_; clear ho hb hg hat))
                     repeat (go_quiet (first | ((with_reducible refine gate_builtin (b := .append) (xs := #[.tmp 79, .tmp 84]) rfl ?_); (try (refine gate_guard (by rfl) ?_; dsimp only)); at_builtin; refine Kd.R_append (Kd.int .i64) (w0 := w) w.heap.size rfl (.tmp 79) (.tmp 84) 27 3 (.int .i64 0) 8 rfl Try.underlying27 info3 rfl (by decide) (by omega) u7 x7_6 (rd x6_36 x8_6) [.int .i64 (rd x6_36 x8_6)] (fun k_ => some k_ ≠ (.slice (some ad162) x6_36.length co50 : Value).ownBlock) (fun _ => False) rfl rfl ?aP (fun _ hk => hk.elim) ?aF ?aO ?aB ?aS ?aL ?_; (case aP => exact rfl); (case aB => exact (by repeat (first | (with_reducible first | exact HB.out | apply below_alloc | apply pw_below_drewN | apply below_drew1 | refine below_set ?_ GE150.out | refine below_set ?_ GE152.out) | exact HB.out))); (case aF => exact (fun k_ hk => Kd.fresh' (Kd.R_lt (by (with_reducible repeat (first | apply Kd.R_alloc | apply Kd.R_drewN | apply Kd.R_drew)); exact HO_6.out)) k_ hk)); (case aO => exact (by (with_reducible repeat (first | apply Kd.R_alloc | apply Kd.R_drewN | apply Kd.R_drew)); exact HO_7.out)); (case aS => exact (below_size (by repeat (first | (with_reducible first | exact HB.out | apply below_alloc | apply pw_below_drewN | apply below_drew1 | refine below_set ?_ GE150.out | refine below_set ?_ GE152.out) | exact HB.out)))); (case aL => have := LMc49.out; omega); intro v166 w53 ho hb hg hat; rw [← Ny165.out] at ho; have n0_ := Aside0.mk (Kd.R_after (ok := (fun _ => True)) (by (with_reducible repeat (first | apply Kd.R_alloc | apply Kd.R_drewN | apply Kd.R_drew)); exact Kd.R_mono HO_6.out (fun _ hk => ⟨trivial, hk⟩)) hg hat); have n1_ := Aside0.mk (blk_grown (g := gb150) (o := .cells #[.int .i64 a0_0, .int .i64 a0_1, .slice (some ad151) l0_2.length c0_2] 24 (0, 0)) (by (with_reducible repeat (first | refine blk_drewN ?_ _ | refine blk_drew ?_ | refine blk_alloc ?_ _)); exact BK150.out) hg (Kd.R_ne HO_7.out BK150.out (by decide))); have n2_ := Aside0.mk (blk_grown (g := gb152) (o := .cells #[.int .i64 ((rd_T50 l0_2 a1).f3.f0), .int .i64 ((rd_T50 l0_2 a1).f3.f1), .int .i64 ((rd_T50 l0_2 a1).f3.f2), .int .i64 ((rd_T50 l0_2 a1).f3.f3), .slice A151_10 ((rd_T50 l0_2 a1).f3.f4).length c151_10, .int .i64 ((rd_T50 l0_2 a1).f3.f5), .int .i64 ((rd_T50 l0_2 a1).f3.f6), .int .i64 ((rd_T50 l0_2 a1).f3.f7)] 44 (0, 0)) (by (with_reducible repeat (first | refine blk_drewN ?_ _ | refine blk_drew ?_ | refine blk_alloc ?_ _)); exact BK152.out) hg (Kd.R_ne HO_7.out BK152.out (by decide))); have n3_ := Aside0.mk (hb); have n4_ := Aside0.mk (ho); clear HO_6; clear BK150; clear BK152; clear HB; clear HO_7; have HO_6 := n0_; have BK150 := n1_; have BK152 := n2_; have HB := n3_; have HO167 := n4_; clear n0_ n1_ n2_ n3_ n4_; clear ho hb hg hat)); try go_wp2_with (first | ((with_reducible refine gate_builtin (b := .append) (xs := #[.tmp 79, .tmp 84]) rfl ?_); (try (refine gate_guard (by rfl) ?_; dsimp only)); at_builtin; refine Kd.R_append (Kd.int .i64) (w0 := w) w.heap.size rfl (.tmp 79) (.tmp 84) 27 3 (.int .i64 0) 8 rfl Try.underlying27 info3 rfl (by decide) (by omega) u7 x7_6 (rd x6_36 x8_6) [.int .i64 (rd x6_36 x8_6)] (fun k_ => some k_ ≠ (.slice (some ad162) x6_36.length co50 : Value).ownBlock) (fun _ => False) rfl rfl ?aP (fun _ hk => hk.elim) ?aF ?aO ?aB ?aS ?aL ?_; (case aP => exact rfl); (case aB => exact (by repeat (first | (with_reducible first | exact HB.out | apply below_alloc | apply pw_below_drewN | apply below_drew1 | refine below_set ?_ GE150.out | refine below_set ?_ GE152.out) | exact HB.out))); (case aF => exact (fun k_ hk => Kd.fresh' (Kd.R_lt (by (with_reducible repeat (first | apply Kd.R_alloc | apply Kd.R_drewN | apply Kd.R_drew)); exact HO_6.out)) k_ hk)); (case aO => exact (by (with_reducible repeat (first | apply Kd.R_alloc | apply Kd.R_drewN | apply Kd.R_drew)); exact HO_7.out)); (case aS => exact (below_size (by repeat (first | (with_reducible first | exact HB.out | apply below_alloc | apply pw_below_drewN | apply below_drew1 | refine below_set ?_ GE150.out | refine below_set ?_ GE152.out) | exact HB.out)))); (case aL => have := LMc49.out; omega); intro v166 w53 ho hb hg hat; rw [← Ny165.out] at ho; have n0_ := Aside0.mk (Kd.R_after (ok := (fun _ => True)) (by (with_reducible repeat (first | apply Kd.R_alloc | apply Kd.R_drewN | apply Kd.R_drew)); exact Kd.R_mono HO_6.out (fun _ hk => ⟨trivial, hk⟩)) hg hat); have n1_ := Aside0.mk (blk_grown (g := gb150) (o := .cells #[.int .i64 a0_0, .int .i64 a0_1, .slice (some ad151) l0_2.length c0_2] 24 (0, 0)) (by (with_reducible repeat (first | refine blk_drewN ?_ _ | refine blk_drew ?_ | refine blk_alloc ?_ _)); exact BK150.out) hg (Kd.R_ne HO_7.out BK150.out (by decide))); have n2_ := Aside0.mk (blk_grown (g := gb152) (o := .cells #[.int .i64 ((rd_T50 l0_2 a1).f3.f0), .int .i64 ((rd_T50 l0_2 a1).f3.f1), .int .i64 ((rd_T50 l0_2 a1).f3.f2), .int .i64 ((rd_T50 l0_2 a1).f3.f3), .slice A151_10 ((rd_T50 l0_2 a1).f3.f4).length c151_10, .int .i64 ((rd_T50 l0_2 a1).f3.f5), .int .i64 ((rd_T50 l0_2 a1).f3.f6), .int .i64 ((rd_T50 l0_2 a1).f3.f7)] 44 (0, 0)) (by (with_reducible repeat (first | refine blk_drewN ?_ _ | refine blk_drew ?_ | refine blk_alloc ?_ _)); exact BK152.out) hg (Kd.R_ne HO_7.out BK152.out (by decide))); have n3_ := Aside0.mk (hb); have n4_ := Aside0.mk (ho); clear HO_6; clear BK150; clear BK152; clear HB; clear HO_7; have HO_6 := n0_; have BK150 := n1_; have BK152 := n2_; have HB := n3_; have HO167 := n4_; clear n0_ n1_ n2_ n3_ n4_; clear ho hb hg hat)))
                     go_roundg k6
                     case measure => have := HJ2.out; have := HJ9.out; have := HJ22.out; have := HJ28.out; have := HJ36.out; have := HK6.out; omega
                     case rel => exact ⟨(y165), (wrap64 (x8_6 + 1)), (by first | rfl | (simp; done) | (simp [*]; done)), H', ⟨by have := HJ2.out; have := HJ9.out; have := HJ22.out; have := HJ28.out; have := HJ36.out; have := HK6.out; omega⟩, ⟨by (with_reducible repeat (first | apply Kd.R_alloc | apply Kd.R_drewN | apply Kd.R_drew)); exact Kd.R_mono HO_6.out (fun _ hk => hk.2)⟩, ⟨by (with_reducible repeat (first | apply Kd.R_alloc | apply Kd.R_drewN | apply Kd.R_drew)); exact HO167.out⟩, ⟨by (with_reducible repeat (first | refine blk_drewN ?_ _ | refine blk_drew ?_ | refine blk_alloc ?_ _)); exact BK150.out⟩, ⟨by (with_reducible repeat (first | refine blk_drewN ?_ _ | refine blk_drew ?_ | refine blk_alloc ?_ _)); exact BK152.out⟩, ⟨by repeat (first | (with_reducible first | exact HB.out | apply below_alloc | apply pw_below_drewN | apply below_drew1 | refine below_set ?_ GE150.out | refine below_set ?_ GE152.out) | exact HB.out)⟩⟩
                    ·rw [if_neg c49] at H
                     exact absurd H (by simp)
                   ·rw [if_neg c48] at H
                    have c48b0 : decide ((rd x6_36 x8_6) < (l0_2.length : Int)) = false := decide_eq_false c48
                    clear c48
                    have H' := Aside0.mk H
                    clear H
                    obtain ⟨Ao54, co54, eo54⟩ := Kd.R_slice HO_6.out
                    subst eo54
                    have p162 : 0 ≤ (x8_6 : Int) := of_decide_eq_true (by first | (with_reducible assumption) | assumption)
                    have q162 : x8_6 < (x6_36.length : Int) := of_decide_eq_true (by first | (with_reducible assumption) | assumption)
                    obtain ⟨ad162, e162, hx162_0⟩ := Kd.at_int (Kd.R_reads' HO_6.out).2.2 x8_6 p162 q162
                    cases e162
                    replace p162 := eq_true p162
                    replace q162 := eq_true q162
                    have p163 : 0 ≤ (x8_6 : Int) := of_decide_eq_true (by first | (with_reducible assumption) | assumption)
                    have q163 : x8_6 < (x6_36.length : Int) := of_decide_eq_true (by first | (with_reducible assumption) | assumption)
                    obtain ⟨ad163, e163, hx163_0⟩ := Kd.at_int (Kd.R_reads' HO_6.out).2.2 x8_6 p163 q163
                    obtain rfl : ad162 = ad163 := (by injection e163)
                    replace p163 := eq_true p163
                    replace q163 := eq_true q163
                    have hnb55 := NB150_152.out
                    have hnc55 := NB152_150.out
                    have hcz56_0 : wr.cell? ⟨gb150, 0, none⟩ = some (.int .i64 a0_0) := (blk_cell BK150.out 0).trans rfl
                    have hcz56_1 : wr.cell? ⟨gb150, 1, none⟩ = some (.int .i64 a0_1) := (blk_cell BK150.out 1).trans rfl
                    have hcz56_2 : wr.cell? ⟨gb150, 2, none⟩ = some (.slice (some ad151) l0_2.length c0_2) := (blk_cell BK150.out 2).trans rfl
                    have hfz56_0 := blk_frozen BK150.out 0
                    have hfz56_1 := blk_frozen BK150.out 1
                    have hfz56_2 := blk_frozen BK150.out 2
                    go_wp2
                    repeat (go_quiet (fail); try go_wp2)
                    go_roundg k6
                    case measure => have := HJ2.out; have := HJ9.out; have := HJ22.out; have := HJ28.out; have := HJ36.out; have := HK6.out; omega
                    case rel => exact ⟨(x7_6), (wrap64 (x8_6 + 1)), (by first | rfl | (simp; done) | (simp [*]; done)), H', ⟨by have := HJ2.out; have := HJ9.out; have := HJ22.out; have := HJ28.out; have := HJ36.out; have := HK6.out; omega⟩, ⟨by (with_reducible repeat (first | apply Kd.R_alloc | apply Kd.R_drewN | apply Kd.R_drew)); exact HO_6.out⟩, ⟨by (with_reducible repeat (first | apply Kd.R_alloc | apply Kd.R_drewN | apply Kd.R_drew)); exact HO_7.out⟩, ⟨by (with_reducible repeat (first | refine blk_drewN ?_ _ | refine blk_drew ?_ | refine blk_alloc ?_ _)); exact BK150.out⟩, ⟨by (with_reducible repeat (first | refine blk_drewN ?_ _ | refine blk_drew ?_ | refine blk_alloc ?_ _)); exact BK152.out⟩, ⟨by repeat (first | (with_reducible first | exact HB.out | apply below_alloc | apply pw_below_drewN | apply below_drew1 | refine below_set ?_ GE150.out | refine below_set ?_ GE152.out) | exact HB.out)⟩⟩
                  ·rw [if_neg c47] at H
                   have c47b0 : decide (0 ≤ (rd x6_36 x8_6)) = false := decide_eq_false c47
                   clear c47
                   have H' := Aside0.mk H
                   clear H
                   obtain ⟨Ao57, co57, eo57⟩ := Kd.R_slice HO_6.out
                   subst eo57
                   have p162 : 0 ≤ (x8_6 : Int) := of_decide_eq_true (by first | (with_reducible assumption) | assumption)
                   have q162 : x8_6 < (x6_36.length : Int) := of_decide_eq_true (by first | (with_reducible assumption) | assumption)
                   obtain ⟨ad162, e162, hx162_0⟩ := Kd.at_int (Kd.R_reads' HO_6.out).2.2 x8_6 p162 q162
                   cases e162
                   replace p162 := eq_true p162
                   replace q162 := eq_true q162
                   go_wp2
                   repeat (go_quiet (fail); try go_wp2)
                   go_roundg k6
                   case measure => have := HJ2.out; have := HJ9.out; have := HJ22.out; have := HJ28.out; have := HJ36.out; have := HK6.out; omega
                   case rel => exact ⟨(x7_6), (wrap64 (x8_6 + 1)), (by first | rfl | (simp; done) | (simp [*]; done)), H', ⟨by have := HJ2.out; have := HJ9.out; have := HJ22.out; have := HJ28.out; have := HJ36.out; have := HK6.out; omega⟩, ⟨by (with_reducible repeat (first | apply Kd.R_alloc | apply Kd.R_drewN | apply Kd.R_drew)); exact HO_6.out⟩, ⟨by (with_reducible repeat (first | apply Kd.R_alloc | apply Kd.R_drewN | apply Kd.R_drew)); exact HO_7.out⟩, ⟨by (with_reducible repeat (first | refine blk_drewN ?_ _ | refine blk_drew ?_ | refine blk_alloc ?_ _)); exact BK150.out⟩, ⟨by (with_reducible repeat (first | refine blk_drewN ?_ _ | refine blk_drew ?_ | refine blk_alloc ?_ _)); exact BK152.out⟩, ⟨by repeat (first | (with_reducible first | exact HB.out | apply below_alloc | apply pw_below_drewN | apply below_drew1 | refine below_set ?_ GE150.out | refine below_set ?_ GE152.out) | exact HB.out)⟩⟩
                 ·rw [if_neg c46] at H
                  exact absurd H (by simp)
                ·rw [if_neg c45] at H
                 have c45b0 : decide (x8_6 < (x6_36.length : Int)) = false := decide_eq_false c45
                 clear c45
                 obtain rfl := Option.some.inj H
                 obtain ⟨Ao58, co58, eo58⟩ := Kd.R_slice HO_6.out
                 subst eo58
                 go_wp2
                 repeat (go_quiet (fail); try go_wp2)
                 go_ret
                 exact ⟨_, by first | rfl | (simp [errW_none, errW_some] <;> rfl) | (simp [*, errW_none, errW_some] <;> rfl), by (with_reducible repeat (first | apply Kd.R_alloc | apply Kd.R_drewN | apply Kd.R_drew)); exact Kd.R_mono HO_7.out (fun _ hk => trivial), by repeat (first | (with_reducible first | exact HB.out | apply below_alloc | apply pw_below_drewN | apply below_drew1 | refine below_set ?_ GE150.out | refine below_set ?_ GE152.out) | exact HB.out)⟩
     ·rw [if_neg c9] at H
      exact absurd H (by simp)
    ·rw [if_neg c8] at H
     exact absurd H (by simp)
end
end Go.Proofs.Ytilopoegoddggaa.X
namespace Go.Proofs.Ytilopoegoddggaa.X
open Go.RowKit Go.Proofs.YtilopoegoddggaaW.PrintWords Go.Proofs.YtilopoegoddggaaW.PrintLast Go.Proofs.YtilopoegoddggaaW.PrintMore
open Go.Proofs.Ytilopoegoddggaa.G
set_option linter.all false
theorem rd_get {l : List Int} {i : Int} (h0 : 0 ≤ i) (h1 : i < (l.length : Int)) : l.drop i.toNat = rd l i :: l.drop (i + 1).toNat := by
 have h : i.toNat < l.length := by omega
 rw [List.drop_eq_getElem_cons h]
 congr 1
 ·simp [rd, List.getD_eq_getElem?_getD, List.getElem?_eq_getElem h]
 ·congr 1; omega
theorem rd_mem {l : List Int} {i : Int} (h0 : 0 ≤ i) (h1 : i < (l.length : Int)) : rd l i ∈ l := by
 have h : i.toNat < l.length := by omega
 simp [rd, List.getD_eq_getElem?_getD, List.getElem?_eq_getElem h]
theorem index_l0 (l : List Int) (x : Int) (hl : l.length ≤ 1000000) : ∀ (d : Nat) (i : Int), 0 ≤ i → i + d = l.length → ∃ r, Evt (fun k => slices_Index_int_int.l0 k l x l.length i) r ∧ (0 ≤ r ↔ x ∈ l.drop i.toNat)
 | 0, i, h0, h1 => by
  refine ⟨-1, Evt.succ ?_, ?_⟩
  ·simp only [slices_Index_int_int.l0, if_neg (show ¬ i < (l.length : Int) by omega)]
   exact Evt.pure _
  ·rw [List.drop_eq_nil_of_le (by omega)]; simp
 | d + 1, i, h0, h1 => by
  have hlt : i < (l.length : Int) := by omega
  rw [rd_get h0 hlt]
  by_cases e : x = rd l i
  ·refine ⟨i, Evt.succ ?_, ?_⟩
   ·simp only [slices_Index_int_int.l0, if_pos hlt, if_pos h0, if_pos e]
    exact Evt.pure _
   ·exact ⟨fun _ => e ▸ List.mem_cons_self .., fun _ => h0⟩
  ·obtain ⟨r, hr, hx⟩ := index_l0 l x hl d (i + 1) (by omega) (by omega)
   refine ⟨r, Evt.succ ?_, ?_⟩
   ·simp only [slices_Index_int_int.l0, if_pos hlt, if_pos h0, if_neg e, wrap64_small (i + 1) (by omega) (by omega)]
    exact hr
   ·rw [hx]; simp [e]
theorem contains_ev (l : List Int) (x : Int) (hl : l.length ≤ 1000000) : Evt (fun k => slices_Contains_int_int.f k l x) (decide (x ∈ l)) := by
 obtain ⟨r, hr, hx⟩ := index_l0 l x hl l.length 0 (by omega) (by omega)
 unfold slices_Contains_int_int.f slices_Index_int_int.f
 refine Evt.bind hr ?_
 rw [show decide (x ∈ l) = decide (r ≥ 0) from decide_eq_decide.2 (by simpa using hx.symm)]
 exact Evt.pure _
theorem has_l0 (l : List Int) (x : Int) (hl : l.length ≤ 1000000) : ∀ (d : Nat) (i : Int), 0 ≤ i → i + d = l.length → Evt (fun k => davitref07_Has.l0 k l x i) (decide (x ∈ l.drop i.toNat))
 | 0, i, h0, h1 => by
  refine Evt.succ ?_
  simp only [davitref07_Has.l0, if_neg (show ¬ i < (l.length : Int) by omega)]
  rw [List.drop_eq_nil_of_le (by omega)]
  exact Evt.pure _
 | d + 1, i, h0, h1 => by
  have hlt : i < (l.length : Int) := by omega
  rw [rd_get h0 hlt]
  refine Evt.succ ?_
  by_cases e : rd l i = x
  ·simp only [davitref07_Has.l0, if_pos hlt, if_pos h0, if_pos e]
   rw [decide_eq_true (by rw [e]; exact List.mem_cons_self ..)]
   exact Evt.pure _
  ·simp only [davitref07_Has.l0, if_pos hlt, if_pos h0, if_neg e, wrap64_small (i + 1) (by omega) (by omega)]
   rw [decide_eq_decide.2 (show x ∈ rd l i :: l.drop (i + 1).toNat ↔ x ∈ l.drop (i + 1).toNat by rw [List.mem_cons]; exact ⟨fun h => h.resolve_left (fun h => e h.symm), .inr⟩)]
   exact has_l0 l x hl d (i + 1) (by omega) (by omega)
theorem has_ev (l : List Int) (x : Int) (hl : l.length ≤ 1000000) : Evt (fun k => davitref07_Has.f k l x) (decide (x ∈ l)) := has_l0 l x hl l.length 0 (by omega) (by omega)
theorem ints_l0 (a b : List Int) (hl : a.length ≤ 1000000) (he : a.length = b.length) : ∀ (d : Nat) (i : Int), 0 ≤ i → i + d = a.length → Evt (fun k => davitref02_Ints.l0 k a b i) (decide (a.drop i.toNat = b.drop i.toNat))
 | 0, i, h0, h1 => by
  refine Evt.succ ?_
  simp only [davitref02_Ints.l0, if_neg (show ¬ i < (a.length : Int) by omega)]
  rw [List.drop_eq_nil_of_le (by omega), List.drop_eq_nil_of_le (by omega)]
  exact Evt.pure _
 | d + 1, i, h0, h1 => by
  have hlt : i < (a.length : Int) := by omega
  rw [rd_get h0 hlt, rd_get h0 (show i < (b.length : Int) by omega)]
  refine Evt.succ ?_
  by_cases e : rd a i = rd b i
  ·simp only [davitref02_Ints.l0, if_pos hlt, if_pos h0, if_pos (show i < (b.length : Int) by omega), if_pos e, wrap64_small (i + 1) (by omega) (by omega)]
   rw [decide_eq_decide.2 (show rd a i :: a.drop (i + 1).toNat = rd b i :: b.drop (i + 1).toNat ↔ a.drop (i + 1).toNat = b.drop (i + 1).toNat by simp [e])]
   exact ints_l0 a b hl he d (i + 1) (by omega) (by omega)
  ·simp only [davitref02_Ints.l0, if_pos hlt, if_pos h0, if_pos (show i < (b.length : Int) by omega), if_neg e]
   rw [decide_eq_false (by simp [e])]
   exact Evt.pure _
theorem ints_ev (a b : List Int) (hl : a.length ≤ 1000000) : Evt (fun k => davitref02_Ints.f k a b) (decide (a = b)) := by
 unfold davitref02_Ints.f
 by_cases he : a.length = b.length
 ·simp only [if_pos (show (a.length : Int) = b.length by omega)]
  exact ints_l0 a b hl he a.length 0 (by omega) (by omega)
 ·simp only [if_neg (show ¬ (a.length : Int) = b.length by omega)]
  rw [decide_eq_false (fun h => he (by rw [h]))]
  exact Evt.pure _
theorem isB_iff (n : Nat) (k : Int) : isB n k = true ↔ 0 ≤ k ∧ k < n := by simp [isB]
theorem next_edges (bs : List S50) : Edges bs.length (nextL bs) := by
 intro a b h
 unfold nextL at h
 split at h
 ·rename_i ha
  obtain ⟨_, hb⟩ := List.mem_filter.1 h
  exact ⟨(isB_iff _ _).1 ha, (isB_iff _ _).1 hb⟩
 ·cases h
theorem allL_len (b : S50) : (allL b).length ≤ 3 := by
 have := goals_len b
 unfold allL; split <;> simp <;> omega
theorem next_len (bs : List S50) (n : Int) : (nextL bs n).length ≤ 3 := by
 unfold nextL; split
 ·exact Nat.le_trans (List.length_filter_le _ _) (allL_len _)
 ·simp
def upTo (n : Nat) : List Int := (List.range n).map fun (j : Nat) => (j : Int)
theorem upTo_succ (n : Nat) : upTo (n + 1) = upTo n ++ [(n : Int)] := by simp [upTo, List.range_succ]
theorem mem_upTo {n : Nat} {x : Int} : x ∈ upTo n ↔ 0 ≤ x ∧ x < n := by
 simp only [upTo, List.mem_map, List.mem_range]
 constructor
 ·rintro ⟨j, h, rfl⟩; omega
 ·rintro ⟨h0, h1⟩; exact ⟨x.toNat, by omega, by omega⟩
theorem upTo_len (n : Nat) : (upTo n).length = n := by simp [upTo]
def predsL (bs : List S50) (n : Int) : List Int := (upTo bs.length).filter fun k => decide (n ∈ nextL bs k)
theorem mem_preds {bs : List S50} {n p : Int} : p ∈ predsL bs n ↔ n ∈ nextL bs p := by
 unfold predsL
 rw [List.mem_filter, mem_upTo, decide_eq_true_eq]
 exact ⟨fun h => h.2, fun h => ⟨(next_edges bs _ _ h).1, h⟩⟩
theorem preds_len (bs : List S50) (n : Int) : (predsL bs n).length ≤ bs.length := by
 unfold predsL
 exact Nat.le_trans (List.length_filter_le _ _) (by rw [upTo_len]; exact Nat.le_refl _)
theorem upTo_cut (n : Nat) (i : Int) (h0 : 0 ≤ i) (h1 : i < n) : (upTo n).drop i.toNat = i :: (upTo n).drop (i + 1).toNat := by
 have h : i.toNat < (upTo n).length := by rw [upTo_len]; omega
 rw [List.drop_eq_getElem_cons h]
 congr 1
 ·simp [upTo]; omega
 ·congr 1; omega
theorem before_l0 (a0 a1 : Int) (bs : List S50) (n : Int) (hl : bs.length ≤ 1000000) : ∀ (d : Nat) (i : Int) (out : List Int), 0 ≤ i → i + d = bs.length → out.length ≤ i.toNat →
  Evt (fun k => flow_Before.l0 k n out bs.length i a0 a1 bs) (out ++ ((upTo bs.length).drop i.toNat).filter fun k => decide (n ∈ nextL bs k))
 | 0, i, out, h0, h1, h2 => by
  refine Evt.succ ?_
  simp only [flow_Before.l0, if_neg (show ¬ i < (bs.length : Int) by omega)]
  rw [List.drop_eq_nil_of_le (by rw [upTo_len]; omega), List.filter_nil, List.append_nil]
  exact Evt.pure _
 | d + 1, i, out, h0, h1, h2 => by
  have hlt : i < (bs.length : Int) := by omega
  rw [upTo_cut _ _ h0 hlt]
  refine Evt.succ ?_
  simp only [flow_Before.l0, if_pos hlt, flow_Next.f, Option.bind_some, wrap64_small (i + 1) (by omega) (by omega), if_pos (show out.length < 17592186044416 by omega)]
  refine Evt.bind (contains_ev _ _ (by have := next_len bs i; omega)) ?_
  by_cases e : n ∈ nextL bs i
  ·simp only [decide_eq_true e, if_pos]
   have := before_l0 a0 a1 bs n hl d (i + 1) (out ++ [i]) (by omega) (by omega) (by simp; omega)
   rw [List.filter_cons, if_pos (decide_eq_true e)]
   rw [List.append_assoc] at this
   exact this
  ·simp only [decide_eq_false e, if_neg Bool.false_ne_true]
   have := before_l0 a0 a1 bs n hl d (i + 1) out (by omega) (by omega) (by omega)
   rw [List.filter_cons, if_neg (by simp [e])]
   exact this
theorem before_ev (a0 a1 : Int) (bs : List S50) (n : Int) (hl : bs.length ≤ 1000000) : Evt (fun k => flow_Before.f k a0 a1 bs n) (predsL bs n) := before_l0 a0 a1 bs n hl bs.length 0 [] (by omega) (by omega) (by simp)
end Go.Proofs.Ytilopoegoddggaa.X
namespace Go.Proofs.Ytilopoegoddggaa.X
open Go.RowKit Go.Proofs.YtilopoegoddggaaW.PrintWords Go.Proofs.YtilopoegoddggaaW.PrintLast Go.Proofs.YtilopoegoddggaaW.PrintMore
open Go.Proofs.Ytilopoegoddggaa.G
set_option linter.all false
theorem rdOf_set (s : List Bool) (n m : Int) (b : Bool) (h0 : 0 ≤ n) (h1 : n < (s.length : Int)) (h2 : 0 ≤ m) : rdOf false (s.set n.toNat b) m = if m = n then b else rdOf false s m := by
 unfold rdOf
 rw [List.getD_eq_getElem?_getD, List.getD_eq_getElem?_getD, List.getElem?_set]
 by_cases e : m = n
 ·subst e; rw [if_pos rfl, if_pos rfl, if_pos (by omega)]; rfl
 ·rw [if_neg (by omega), if_neg e]
theorem rd_set (s : List Int) (n m b : Int) (h0 : 0 ≤ n) (h1 : n < (s.length : Int)) (h2 : 0 ≤ m) : rd (s.set n.toNat b) m = if m = n then b else rd s m := by
 unfold rd
 rw [List.getD_eq_getElem?_getD, List.getD_eq_getElem?_getD, List.getElem?_set]
 by_cases e : m = n
 ·subst e; rw [if_pos rfl, if_pos rfl, if_pos (by omega)]; rfl
 ·rw [if_neg (by omega), if_neg e]
theorem count_set : ∀ (s : List Bool) (j : Nat), s.getD j true = false → (s.set j true).count false + 1 = s.count false
 | [], j, h => by simp at h
 | b :: s, 0, h => by
  simp at h; subst h; simp
 | b :: s, j + 1, h => by
  have := count_set s j (by simpa using h)
  simp only [List.set_cons_succ, List.count_cons]
  omega
theorem count_unseen (s : List Bool) (n : Int) (h0 : 0 ≤ n) (h1 : n < (s.length : Int)) (h : rdOf false s n = false) : (s.set n.toNat true).count false + 1 = s.count false := by
 refine count_set s n.toNat ?_
 have hl : n.toNat < s.length := by omega
 unfold rdOf at h
 rw [List.getD_eq_getElem?_getD, List.getElem?_eq_getElem hl] at h ⊢
 exact h
theorem count_zero (s : List Bool) (n : Int) (h0 : 0 ≤ n) (h1 : n < (s.length : Int)) (h : s.count false = 0) : rdOf false s n = true := by
 cases hb : rdOf false s n with
 | true => rfl
 | false => have := count_unseen s n h0 h1 hb; omega
structure DF (bs : List S50) (root : Int → Prop) (seen seen' : List Bool) (ms : List Int) : Prop where
 len : seen'.length = bs.length
 sn : ∀ m : Int, 0 ≤ m → m < bs.length → (rdOf false seen' m = true ↔ rdOf false seen m = true ∨ m ∈ ms)
 new : ∀ m ∈ ms, (0 ≤ m ∧ m < bs.length) ∧ rdOf false seen m = false
 nd : ms.Nodup
 cl : ∀ m ∈ ms, ∀ b ∈ nextL bs m, rdOf false seen' b = true
 par : ∀ m ∈ ms, root m ∨ ∃ l1 l2 q, ms = l1 ++ m :: l2 ∧ q ∈ l2 ∧ m ∈ nextL bs q
 all : ∀ m, root m → rdOf false seen' m = true
 snd : ∀ P : Int → Prop, (∀ m, root m → P m) → (∀ a b, P a → b ∈ nextL bs a → P b) → ∀ m ∈ ms, P m
 cnt : ms.length + seen'.count false ≤ seen.count false
theorem DF.nil (bs : List S50) (seen : List Bool) (h : seen.length = bs.length) (root : Int → Prop) (hr : ∀ m, root m → rdOf false seen m = true) : DF bs root seen seen [] :=
 ⟨h, fun m _ _ => by simp, by simp, List.nodup_nil, by simp, by simp, hr, by simp, by simp⟩
theorem DF.app {bs : List S50} {r1 r2 r : Int → Prop} {s s1 s2 : List Bool} {m1 m2 : List Int} (h1 : DF bs r1 s s1 m1) (h2 : DF bs r2 s1 s2 m2) (hr : ∀ m, r m ↔ r1 m ∨ r2 m) (hv : ∀ m, r m → 0 ≤ m ∧ m < bs.length) : DF bs r s s2 (m1 ++ m2) := by
 have hv1 : ∀ m ∈ m1, ¬ m ∈ m2 := fun m a b => by
  obtain ⟨⟨v0, v1⟩, _⟩ := h1.new m a
  have hs := (h1.sn m v0 v1).2 (.inr a)
  rw [(h2.new m b).2] at hs
  cases hs
 refine ⟨h2.len, fun m a b => ?_, fun m hm => ?_, ?_, fun m hm b hb => ?_, fun m hm => ?_, fun m hm => ?_, fun P p1 p2 m hm => ?_, ?_⟩
 ·rw [h2.sn m a b, h1.sn m a b, List.mem_append, or_assoc]
 ·rcases List.mem_append.1 hm with hm | hm
  ·exact h1.new m hm
  ·obtain ⟨v, hn⟩ := h2.new m hm
   refine ⟨v, ?_⟩
   cases hb : rdOf false s m with
   | false => rfl
   | true => rw [(h1.sn m v.1 v.2).2 (.inl hb)] at hn; cases hn
 ·exact List.nodup_append.2 ⟨h1.nd, h2.nd, fun a ha b hb e => hv1 a ha (e ▸ hb)⟩
 ·rcases List.mem_append.1 hm with hm | hm
  ·have hv := (next_edges bs _ _ hb).2
   exact (h2.sn b hv.1 hv.2).2 (.inl (h1.cl m hm b hb))
  ·exact h2.cl m hm b hb
 ·rcases List.mem_append.1 hm with hm | hm
  ·rcases h1.par m hm with h | ⟨l1, l2, q, e, hq, hs⟩
   ·exact .inl ((hr m).2 (.inl h))
   ·exact .inr ⟨l1, l2 ++ m2, q, by rw [e]; simp, List.mem_append_left _ hq, hs⟩
  ·rcases h2.par m hm with h | ⟨l1, l2, q, e, hq, hs⟩
   ·exact .inl ((hr m).2 (.inr h))
   ·exact .inr ⟨m1 ++ l1, l2, q, by rw [e]; simp, hq, hs⟩
 ·rcases (hr m).1 hm with h | h
  ·have := hv m hm
   exact (h2.sn m this.1 this.2).2 (.inl (h1.all m h))
  ·exact h2.all m h
 ·rcases List.mem_append.1 hm with hm | hm
  ·exact h1.snd P (fun m h => p1 m ((hr m).2 (.inl h))) p2 m hm
  ·exact h2.snd P (fun m h => p1 m ((hr m).2 (.inr h))) p2 m hm
 ·have := h1.cnt
  have := h2.cnt
  simp only [List.length_append]
  omega
theorem DF.one {bs : List S50} {n : Int} {s s2 : List Bool} {ms : List Int} (hs : s.length = bs.length) (h0 : 0 ≤ n) (h1 : n < bs.length) (hn : rdOf false s n = false) (h : DF bs (· ∈ nextL bs n) (s.set n.toNat true) s2 ms) : DF bs (· = n) s s2 (ms ++ [n]) := by
 have hset : ∀ m : Int, 0 ≤ m → rdOf false (s.set n.toNat true) m = if m = n then true else rdOf false s m := fun m hm => rdOf_set s n m true h0 (by omega) hm
 have hnn : n ∉ ms := fun hm => by
  have := (h.new n hm).2
  rw [hset n h0, if_pos rfl] at this
  cases this
 refine ⟨h.len, fun m a b => ?_, fun m hm => ?_, ?_, fun m hm b hb => ?_, fun m hm => ?_, fun m hm => ?_, fun P p1 p2 m hm => ?_, ?_⟩
 ·rw [h.sn m a b, hset m a, List.mem_append, List.mem_singleton]
  by_cases e : m = n
  ·simp [e]
  ·simp [e]
 ·rcases List.mem_append.1 hm with hm | hm
  ·obtain ⟨v, hq⟩ := h.new m hm
   rw [hset m v.1, if_neg (fun e : m = n => hnn (e ▸ hm))] at hq
   exact ⟨v, hq⟩
  ·obtain rfl := List.mem_singleton.1 hm
   exact ⟨⟨h0, h1⟩, hn⟩
 ·exact List.nodup_append.2 ⟨h.nd, by simp, fun a ha b hb e => hnn ((List.mem_singleton.1 hb) ▸ e ▸ ha)⟩
 ·rcases List.mem_append.1 hm with hm | hm
  ·exact h.cl m hm b hb
  ·obtain rfl := List.mem_singleton.1 hm
   exact h.all b hb
 ·rcases List.mem_append.1 hm with hm | hm
  ·rcases h.par m hm with hq | ⟨l1, l2, q, e, hq, hs⟩
   ·obtain ⟨l1, l2, e⟩ := List.append_of_mem hm
    exact .inr ⟨l1, l2 ++ [n], n, by rw [e]; simp, by simp, hq⟩
   ·exact .inr ⟨l1, l2 ++ [n], q, by rw [e]; simp, by simp [hq], hs⟩
  ·exact .inl (List.mem_singleton.1 hm)
 ·subst hm
  exact (h.sn m h0 h1).2 (.inl (by rw [hset m h0, if_pos rfl]))
 ·rcases List.mem_append.1 hm with hm | hm
  ·exact h.snd P (fun b hb => p2 n b (p1 n rfl) hb) p2 m hm
  ·exact p1 m (List.mem_singleton.1 hm)
 ·have := h.cnt
  have := count_unseen s n h0 (by omega) hn
  simp only [List.length_append, List.length_cons, List.length_nil]
  omega
theorem fold_ok (bs : List S50) (c k : Nat) (ih : ∀ n seen left, seen.length = bs.length → 0 ≤ n → n < (bs.length : Int) → seen.count false ≤ c → left.length + seen.count false ≤ 1000000 → ∃ seen' ms, intoO bs k n seen left = some (seen', left ++ ms) ∧ DF bs (· = n) seen seen' ms ∧ (rdOf false seen n = false → ∃ t, ms = t ++ [n])) :
  ∀ (cs : List Int) (seen : List Bool) (left : List Int), (∀ x ∈ cs, 0 ≤ x ∧ x < (bs.length : Int)) → seen.length = bs.length → seen.count false ≤ c → left.length + seen.count false ≤ 1000000 → ∃ seen' ms, foldO (intoO bs k) cs seen left = some (seen', left ++ ms) ∧ DF bs (· ∈ cs) seen seen' ms
 | [], seen, left, _, hs, _, _ => ⟨seen, [], by rw [foldO, List.append_nil], DF.nil bs seen hs _ (by simp)⟩
 | x :: cs, seen, left, hv, hs, hc, hl => by
  obtain ⟨s1, m1, e1, d1, _⟩ := ih x seen left hs (hv x (List.mem_cons_self ..)).1 (hv x (List.mem_cons_self ..)).2 hc hl
  have c1 := d1.cnt
  obtain ⟨s2, m2, e2, d2⟩ := fold_ok bs c k ih cs s1 (left ++ m1) (fun y hy => hv y (List.mem_cons_of_mem _ hy)) d1.len (by omega) (by simp only [List.length_append]; omega)
  refine ⟨s2, m1 ++ m2, ?_, d1.app d2 (fun m => by simp) hv⟩
  rw [foldO, e1, Option.bind_some, e2, List.append_assoc]
theorem into_ok (bs : List S50) : ∀ (c k : Nat), c < k → ∀ n seen left, seen.length = bs.length → 0 ≤ n → n < (bs.length : Int) → seen.count false ≤ c → left.length + seen.count false ≤ 1000000 → ∃ seen' ms, intoO bs k n seen left = some (seen', left ++ ms) ∧ DF bs (· = n) seen seen' ms ∧ (rdOf false seen n = false → ∃ t, ms = t ++ [n]) := by
 intro c
 induction c with
 | zero =>
  intro k hk n seen left hs h0 h1 hc hl
  obtain ⟨j, rfl⟩ : ∃ j, k = j + 1 := ⟨k - 1, by omega⟩
  have hn := count_zero seen n h0 (by omega) (by omega)
  refine ⟨seen, [], ?_, DF.nil bs seen hs _ (fun m hm => by rw [hm]; exact hn), fun h => by simp [hn] at h⟩
  rw [intoO, if_pos ⟨h0, by omega⟩, if_pos hn, List.append_nil]
 | succ c ih =>
  intro k hk n seen left hs h0 h1 hc hl
  obtain ⟨j, rfl⟩ : ∃ j, k = j + 1 := ⟨k - 1, by omega⟩
  cases hn : rdOf false seen n with
  | true =>
   refine ⟨seen, [], ?_, DF.nil bs seen hs _ (fun m hm => by rw [hm]; exact hn), fun h => by simp [hn] at h⟩
   rw [intoO, if_pos ⟨h0, by omega⟩, if_pos hn, List.append_nil]
  | false =>
   have hcn := count_unseen seen n h0 (by omega) hn
   obtain ⟨s2, ms, e, d⟩ := fold_ok bs c j (ih j (by omega)) (nextL bs n) (seen.set n.toNat true) left (fun x hx => (next_edges bs _ _ hx).2) (by simp [hs]) (by omega) (by omega)
   refine ⟨s2, ms ++ [n], ?_, d.one hs h0 h1 hn, fun _ => ⟨ms, rfl⟩⟩
   have := d.cnt
   rw [intoO, if_pos ⟨h0, by omega⟩, if_neg (by simp [hn]), e, Option.bind_some]
   rw [if_pos (by simp only [List.length_append]; omega), List.append_assoc]
structure Ord (bs : List S50) (seen : List Bool) (ord : List Int) : Prop where
 len : seen.length = bs.length
 seen : ∀ m : Int, 0 ≤ m → m < bs.length → (rdOf false seen m = true ↔ Rch bs.length (nextL bs) (-1) m)
 mem : ∀ m : Int, m ∈ ord ↔ Rch bs.length (nextL bs) (-1) m
 nd : ord.Nodup
 head : 0 < bs.length → ∃ t, ord = 0 :: t
 cnt : ord.length ≤ bs.length
 par : ∀ m ∈ ord, m ≠ 0 → ∃ l1 l2 q, ord = l1 ++ m :: l2 ∧ q ∈ l1 ∧ m ∈ nextL bs q
theorem walk_ok (bs : List S50) (hl : bs.length ≤ 1000) : ∃ seen left, walkO bs (bs.length + 2) = some (seen, left) ∧ Ord bs seen left.reverse := by
 by_cases h0 : bs.length = 0
 ·refine ⟨[], [], by rw [walkO, if_pos h0], by simp [h0], fun m a b => by omega, fun m => ?_, by simp, fun h => by omega, by simp, by simp⟩
  simp only [List.reverse_nil, List.not_mem_nil, false_iff]
  intro h
  have := h.inV (next_edges bs)
  omega
 ·have hrep : (List.replicate bs.length false).count false = bs.length := by simp
  obtain ⟨seen, ms, e, d, ht⟩ := into_ok bs bs.length (bs.length + 2) (by omega) 0 (List.replicate bs.length false) [] (by simp) (by omega) (by omega) (by omega) (by simp; omega)
  have hf : ∀ m : Int, rdOf false (List.replicate bs.length false) m = false := by
   intro m
   unfold rdOf
   rw [List.getD_eq_getElem?_getD]
   by_cases h : m.toNat < bs.length
   ·rw [List.getElem?_replicate, if_pos h]; rfl
   ·rw [List.getElem?_replicate, if_neg h]; rfl
  have hsn : ∀ m : Int, 0 ≤ m → m < bs.length → (rdOf false seen m = true ↔ m ∈ ms) := fun m a b => by
   rw [d.sn m a b, hf m]; simp
  have hR : ∀ m : Int, m ∈ ms ↔ Rch bs.length (nextL bs) (-1) m := by
   intro m
   refine ⟨fun h => ?_, fun h => ?_⟩
   ·exact d.snd (fun m => Rch bs.length (nextL bs) (-1) m) (fun m e => e ▸ .zero (by omega) (by omega)) (fun a b ha hb => ha.next (next_edges bs) hb) m h
   ·induction h with
    | zero _ _ => exact (hsn 0 (by omega) (by omega)).1 (d.all 0 rfl)
    | step ha hs _ ih =>
     have hv := (next_edges bs _ _ hs).2
     exact (hsn _ hv.1 hv.2).1 (d.cl _ ih _ hs)
  refine ⟨seen, ms, by rw [walkO, if_neg h0, e, List.nil_append], d.len, fun m a b => (hsn m a b).trans (hR m), fun m => by rw [List.mem_reverse]; exact hR m, List.pairwise_reverse.2 (d.nd.imp fun h => h.symm), fun _ => ?_, (by have := d.cnt; rw [hrep] at this; simp only [List.length_reverse]; omega), fun m hm hm0 => ?_⟩
  ·obtain ⟨t, et⟩ := ht (hf 0)
   exact ⟨t.reverse, by rw [et]; simp⟩
  ·rcases d.par m (List.mem_reverse.1 hm) with h | ⟨l1, l2, q, e, hq, hs⟩
   ·exact absurd h hm0
   ·exact ⟨l2.reverse, l1.reverse, q, by rw [e]; simp, List.mem_reverse.2 hq, hs⟩
end Go.Proofs.Ytilopoegoddggaa.X
namespace Go.Proofs.Ytilopoegoddggaa.X
open Go.RowKit Go.Proofs.YtilopoegoddggaaW.PrintWords Go.Proofs.YtilopoegoddggaaW.PrintLast Go.Proofs.YtilopoegoddggaaW.PrintMore
open Go.Proofs.Ytilopoegoddggaa.G
set_option linter.all false
theorem place_ok : ∀ (l : List Int) (i : Int) (p : List Int), (∀ m ∈ l, 0 ≤ m ∧ m < (p.length : Int)) → l.Nodup →
  ∃ p', placeO l i p = some p' ∧ p'.length = p.length ∧ (∀ l1 l2 m, l = l1 ++ m :: l2 → rd p' m = i + l1.length) ∧ (∀ m, 0 ≤ m → m ∉ l → rd p' m = rd p m)
 | [], i, p, _, _ => ⟨p, rfl, rfl, fun l1 l2 m h => by simp at h, fun _ _ _ => rfl⟩
 | n :: l, i, p, hv, hn => by
  have hv0 := hv n (List.mem_cons_self ..)
  obtain ⟨hn1, hn2⟩ := List.nodup_cons.1 hn
  obtain ⟨p', e, hl, h1, h2⟩ := place_ok l (i + 1) (p.set n.toNat i) (fun m hm => by rw [List.length_set]; exact hv m (List.mem_cons_of_mem _ hm)) hn2
  refine ⟨p', by rw [placeO, if_pos (show inL p n from hv0), e], by rw [hl, List.length_set], fun l1 l2 m h => ?_, fun m hm hnm => ?_⟩
  ·cases l1 with
   | nil =>
    simp only [List.nil_append, List.cons.injEq] at h
    obtain ⟨rfl, rfl⟩ := h
    rw [h2 n hv0.1 hn1, rd_set p n n i hv0.1 hv0.2 hv0.1, if_pos rfl]
    simp
   | cons y l1 =>
    simp only [List.cons_append, List.cons.injEq] at h
    rw [h1 l1 l2 m h.2]
    simp only [List.length_cons]
    omega
  ·rw [h2 m hm (fun h => hnm (List.mem_cons_of_mem _ h)), rd_set p n m i hv0.1 hv0.2 hm, if_neg (fun e : m = n => hnm (e ▸ List.mem_cons_self ..))]
structure Pos (ord : List Int) (place : Int → Int) : Prop where
 at_ : ∀ l1 l2 m, ord = l1 ++ m :: l2 → place m = l1.length
theorem Pos.pl {bs : List S50} {seen : List Bool} {ord : List Int} {place : Int → Int} (O : Ord bs seen ord) (Q : Pos ord place) (h : 0 < bs.length) : Pl bs.length (nextL bs) place := by
 refine ⟨next_edges bs, ?_, fun n h => ?_, fun a b ha hb e => ?_, fun n h h0 => ?_⟩
 ·obtain ⟨t, e⟩ := O.head h
  have := Q.at_ [] t 0 (by rw [e]; rfl)
  simpa using this
 ·obtain ⟨l1, l2, e⟩ := List.append_of_mem ((O.mem n).2 h)
  rw [Q.at_ l1 l2 n e]; omega
 ·obtain ⟨l1, l2, ea⟩ := List.append_of_mem ((O.mem a).2 ha)
  obtain ⟨l3, l4, eb⟩ := List.append_of_mem ((O.mem b).2 hb)
  rw [Q.at_ l1 l2 a ea, Q.at_ l3 l4 b eb] at e
  have e' : l1.length = l3.length := by omega
  rw [ea] at eb
  have := (List.append_inj eb e').2
  simp at this
  exact this.1
 ·obtain ⟨l1, l2, q, e, hq, hs⟩ := O.par n ((O.mem n).2 h) h0
  refine ⟨q, (O.mem q).1 (by rw [e]; simp [hq]), hs, ?_⟩
  obtain ⟨l3, l4, e3⟩ := List.append_of_mem hq
  rw [Q.at_ l1 l2 n e, Q.at_ l3 (l4 ++ n :: l2) q (by rw [e, e3]; simp)]
  rw [e3]; simp only [List.length_append, List.length_cons]; omega
section
variable {bs : List S50} {over place : List Int}
abbrev RR (bs : List S50) (n : Int) : Prop := Rch bs.length (nextL bs) (-1) n
theorem RR.inL {l : List Int} {n : Int} (h : RR bs n) (hl : l.length = bs.length) : inL l n := by
 have := h.inV (next_edges bs)
 exact ⟨this.1, by omega⟩
theorem meet_ok (T : Tree bs.length (nextL bs) (rd place) (rd over)) (L : Pl bs.length (nextL bs) (rd place)) (ho : over.length = bs.length) (hp : place.length = bs.length) :
  ∀ (s : Nat) (a b : Int), (rd place a + rd place b).toNat ≤ s → RR bs a → RR bs b → 0 ≤ rd over a → 0 ≤ rd over b →
   ∃ r, Evt (fun k => meetO over place k 0 a b) r ∧ RR bs r ∧ 0 ≤ rd over r ∧ ∀ x, Anc (rd over) x r ↔ Anc (rd over) x a ∧ Anc (rd over) x b := by
 intro s
 induction s using Nat.strongRecOn with
 | ind s ih =>
 have s2 : ∀ (j : Nat) (a b : Int), (rd place b).toNat ≤ j → (rd place a + rd place b).toNat ≤ s → RR bs a → RR bs b → 0 ≤ rd over a → 0 ≤ rd over b → ((rd place a + rd place b).toNat < s ∨ rd place a < rd place b) →
   ∃ r, Evt (fun k => meetO over place k 2 a b) r ∧ RR bs r ∧ 0 ≤ rd over r ∧ ∀ x, Anc (rd over) x r ↔ Anc (rd over) x a ∧ Anc (rd over) x b := by
  intro j
  induction j with
  | zero =>
   intro a b hj hs ra rb oa ob hlt
   have pa := L.pos a ra
   have pb := L.pos b rb
   obtain ⟨r, e, r1, r2, r3⟩ := ih (rd place a + rd place b).toNat (by omega) a b (Nat.le_refl _) ra rb oa ob
   refine ⟨r, Evt.succ ?_, r1, r2, r3⟩
   simp only [meetO, if_pos (And.intro (ra.inL hp) (rb.inL hp)), if_neg (show ¬ rd place b > rd place a by omega)]
   exact e
  | succ j ihj =>
   intro a b hj hs ra rb oa ob hlt
   have pa := L.pos a ra
   have pb := L.pos b rb
   by_cases h : rd place b > rd place a
   ·have hb0 : b ≠ 0 := fun e => by subst e; have := L.zero; omega
    obtain ⟨u1, u2, u3⟩ := T.up b rb hb0 ob
    have pu := L.pos _ u1
    obtain ⟨r, e, r1, r2, r3⟩ := ihj a (rd over b) (by omega) (by omega) ra u1 oa u2 (.inl (by omega))
    refine ⟨r, Evt.succ ?_, r1, r2, fun x => ?_⟩
    ·simp only [meetO, if_pos (And.intro (ra.inL hp) (rb.inL hp)), if_pos h, if_pos (rb.inL ho)]
     exact e
    ·rw [r3]
     refine and_congr_right fun hx => ⟨fun h2 => .up hb0 h2, fun h2 => ?_⟩
     refine (h2.cases_ne fun e => ?_).2
     subst e
     have := (T.anc hx ra oa).2.2
     omega
   ·obtain ⟨r, e, r1, r2, r3⟩ := ih (rd place a + rd place b).toNat (by omega) a b (Nat.le_refl _) ra rb oa ob
    refine ⟨r, Evt.succ ?_, r1, r2, r3⟩
    simp only [meetO, if_pos (And.intro (ra.inL hp) (rb.inL hp)), if_neg h]
    exact e
 have s1 : ∀ (j : Nat) (a b : Int), (rd place a).toNat ≤ j → (rd place a + rd place b).toNat ≤ s → RR bs a → RR bs b → 0 ≤ rd over a → 0 ≤ rd over b → ((rd place a + rd place b).toNat < s ∨ rd place a ≠ rd place b) →
   ∃ r, Evt (fun k => meetO over place k 1 a b) r ∧ RR bs r ∧ 0 ≤ rd over r ∧ ∀ x, Anc (rd over) x r ↔ Anc (rd over) x a ∧ Anc (rd over) x b := by
  intro j
  induction j with
  | zero =>
   intro a b hj hs ra rb oa ob hlt
   have pa := L.pos a ra
   have pb := L.pos b rb
   obtain ⟨r, e, r1, r2, r3⟩ := s2 _ a b (Nat.le_refl _) hs ra rb oa ob (by omega)
   refine ⟨r, Evt.succ ?_, r1, r2, r3⟩
   simp only [meetO, if_pos (And.intro (ra.inL hp) (rb.inL hp)), if_neg (show ¬ rd place a > rd place b by omega)]
   exact e
  | succ j ihj =>
   intro a b hj hs ra rb oa ob hlt
   have pa := L.pos a ra
   have pb := L.pos b rb
   by_cases h : rd place a > rd place b
   ·have ha0 : a ≠ 0 := fun e => by subst e; have := L.zero; omega
    obtain ⟨u1, u2, u3⟩ := T.up a ra ha0 oa
    have pu := L.pos _ u1
    obtain ⟨r, e, r1, r2, r3⟩ := ihj (rd over a) b (by omega) (by omega) u1 rb u2 ob (.inl (by omega))
    refine ⟨r, Evt.succ ?_, r1, r2, fun x => ?_⟩
    ·simp only [meetO, if_pos (And.intro (ra.inL hp) (rb.inL hp)), if_pos h, if_pos (ra.inL ho)]
     exact e
    ·rw [r3]
     refine and_congr_left fun hx => ⟨fun h2 => .up ha0 h2, fun h2 => ?_⟩
     refine (h2.cases_ne fun e => ?_).2
     subst e
     have := (T.anc hx rb ob).2.2
     omega
   ·obtain ⟨r, e, r1, r2, r3⟩ := s2 _ a b (Nat.le_refl _) hs ra rb oa ob (by omega)
    refine ⟨r, Evt.succ ?_, r1, r2, r3⟩
    simp only [meetO, if_pos (And.intro (ra.inL hp) (rb.inL hp)), if_neg h]
    exact e
 intro a b hs ra rb oa ob
 by_cases e : a = b
 ·subst e
  refine ⟨a, Evt.succ ?_, ra, oa, fun x => by simp⟩
  simp only [meetO, if_pos]
  exact Evt.pure _
 ·obtain ⟨r, h, r1, r2, r3⟩ := s1 _ a b (Nat.le_refl _) hs ra rb oa ob (.inr fun h => e (L.inj a b ra rb h))
  refine ⟨r, Evt.succ ?_, r1, r2, r3⟩
  simp only [meetO, if_neg e]
  exact h
def NB (bs : List S50) (o : Int → Int) (Q : Int → Prop) (b : Int) : Prop := (b < 0 ∧ ∀ p, Q p → ¬ 0 ≤ o p) ∨ (RR bs b ∧ 0 ≤ o b ∧ ∀ x, Anc o x b ↔ ∀ p, Q p → 0 ≤ o p → Anc o x p)
theorem best_l (T : Tree bs.length (nextL bs) (rd place) (rd over)) (L : Pl bs.length (nextL bs) (rd place)) (ho : over.length = bs.length) (hp : place.length = bs.length) :
  ∀ (ps : List Int) (Q : Int → Prop) (b : Int), (∀ p ∈ ps, 0 ≤ p ∧ p < (bs.length : Int)) → NB bs (rd over) Q b → ∃ r, Evt (fun k => bestO over place k ps b) r ∧ NB bs (rd over) (fun p => Q p ∨ p ∈ ps) r
 | [], Q, b, _, h => ⟨b, Evt.pure b, by simpa using h⟩
 | p :: ps, Q, b, hv, h => by
  have hv0 := hv p (List.mem_cons_self ..)
  have hin : inL over p := ⟨hv0.1, by omega⟩
  have key : ∀ b', NB bs (rd over) (fun x => Q x ∨ x = p) b' → ∃ r, Evt (fun k => bestO over place k ps b') r ∧ NB bs (rd over) (fun x => Q x ∨ x ∈ p :: ps) r := fun b' h' => by
   obtain ⟨r, e, hr⟩ := best_l T L ho hp ps _ b' (fun x hx => hv x (List.mem_cons_of_mem _ hx)) h'
   refine ⟨r, e, ?_⟩
   have : (fun x => (Q x ∨ x = p) ∨ x ∈ ps) = fun x => Q x ∨ x ∈ p :: ps := by
    funext x; simp [or_assoc]
   rw [this] at hr
   exact hr
  by_cases hneg : rd over p < 0
  ·obtain ⟨r, e, hr⟩ := key b (by
    rcases h with ⟨h1, h2⟩ | ⟨h1, h2, h3⟩
    ·exact .inl ⟨h1, fun x hx => hx.elim (h2 x) (fun e => by rw [e]; omega)⟩
    ·refine .inr ⟨h1, h2, fun x => (h3 x).trans ⟨fun h y hy ho => hy.elim (fun hy => h y hy ho) (fun e => by rw [e] at ho; omega), fun h y hy ho => h y (.inl hy) ho⟩⟩)
   refine ⟨r, ?_, hr⟩
   simp only [bestO, if_pos hin, if_pos hneg]
   exact e
  ·have rp : RR bs p := by
    by_cases hR : RR bs p
    ·exact hR
    ·have := T.neg p hv0.1 hv0.2 hR; omega
   by_cases hb : b < 0
   ·obtain ⟨r, e, hr⟩ := key p (by
     rcases h with ⟨h1, h2⟩ | ⟨h1, h2, h3⟩
     ·refine .inr ⟨rp, by omega, fun x => ⟨fun h y hy ho => hy.elim (fun hy => absurd ho (h2 y hy)) (fun e => e ▸ h), fun h => h p (.inr rfl) (by omega)⟩⟩
     ·have := h1.inV (next_edges bs); omega)
    refine ⟨r, ?_, hr⟩
    simp only [bestO, if_pos hin, if_neg hneg, if_pos hb]
    exact e
   ·rcases h with ⟨h1, h2⟩ | ⟨h1, h2, h3⟩
    ·exact absurd h1 hb
    ·obtain ⟨m, em, m1, m2, m3⟩ := meet_ok T L ho hp _ p b (Nat.le_refl _) rp h1 (by omega) h2
     obtain ⟨r, e, hr⟩ := key m (.inr ⟨m1, m2, fun x => (m3 x).trans ⟨fun h y hy ho => hy.elim (fun hy => (h3 x).1 h.2 y hy ho) (fun e => e ▸ h.1), fun h => ⟨h p (.inr rfl) (by omega), (h3 x).2 fun y hy ho => h y (.inl hy) ho⟩⟩⟩)
     refine ⟨r, ?_, hr⟩
     simp only [bestO, if_pos hin, if_neg hneg, if_neg hb]
     exact Evt.bind em e
end
end Go.Proofs.Ytilopoegoddggaa.X
namespace Go.Proofs.Ytilopoegoddggaa.X
open Go.RowKit Go.Proofs.YtilopoegoddggaaW.PrintWords Go.Proofs.YtilopoegoddggaaW.PrintLast Go.Proofs.YtilopoegoddggaaW.PrintMore
open Go.Proofs.Ytilopoegoddggaa.G
set_option linter.all false
theorem sum_le (f g : Int → Nat) : ∀ l : List Int, (∀ x ∈ l, f x ≤ g x) → (l.map f).sum ≤ (l.map g).sum
 | [], _ => Nat.le_refl _
 | x :: l, h => by
  have h1 := h x (List.mem_cons_self ..)
  have h2 := sum_le f g l fun y hy => h y (List.mem_cons_of_mem _ hy)
  simp only [List.map_cons, List.sum_cons]; omega
theorem sum_lt (f g : Int → Nat) : ∀ (l : List Int) (n : Int), (∀ x ∈ l, f x ≤ g x) → n ∈ l → f n < g n → (l.map f).sum < (l.map g).sum
 | x :: l, n, h, hn, hlt => by
  have h1 := h x (List.mem_cons_self ..)
  have h2 := sum_le f g l fun y hy => h y (List.mem_cons_of_mem _ hy)
  simp only [List.map_cons, List.sum_cons]
  rcases List.mem_cons.1 hn with rfl | hn
  ·omega
  ·have := sum_lt f g l n (fun y hy => h y (List.mem_cons_of_mem _ hy)) hn hlt
   omega
theorem rd_upd (over : List Int) (n r : Int) (h0 : 0 < n) (h1 : n < (over.length : Int)) : rd (over.set n.toNat r) = upd (rd over) n r := by
 funext x
 unfold upd rd
 rw [List.getD_eq_getElem?_getD, List.getD_eq_getElem?_getD, List.getElem?_set]
 by_cases e : x = n
 ·subst e; rw [if_pos rfl, if_pos rfl, if_pos (by omega)]; rfl
 ·rw [if_neg (by omega), if_neg e]
def Sum (ord place over : List Int) : Nat := (ord.map fun n => (rd place (rd over n)).toNat).sum
section
variable {bs : List S50} {ord place : List Int} {seen : List Bool}
theorem best_ok {over : List Int} {n : Int} {fin : Bool} (I : Inv bs.length (nextL bs) (rd place) (rd over) (rd place n) fin) (L : Pl bs.length (nextL bs) (rd place)) (ho : over.length = bs.length) (hp : place.length = bs.length) (hn : RR bs n) (h0 : n ≠ 0) :
  ∃ r, Evt (fun k => bestO over place k (predsL bs n) (-1)) r ∧ Best bs.length (nextL bs) (rd over) n r := by
 obtain ⟨r, e, h⟩ := best_l I.toTree L ho hp (predsL bs n) (fun _ => False) (-1) (fun p hm => (next_edges bs _ _ (mem_preds.1 hm)).1) (.inl ⟨by omega, fun _ h => h.elim⟩)
 refine ⟨r, e, ?_⟩
 obtain ⟨q, q1, q2, q3⟩ := L.pred n hn h0
 have hq := I.P q q1 (.inl q3)
 rcases h with ⟨h1, h2⟩ | ⟨h1, h2, h3⟩
 ·exact absurd hq (h2 q (.inr (mem_preds.2 q2)))
 ·exact ⟨h1, h2, fun x => (h3 x).trans ⟨fun h p a _ c => h p (.inr (mem_preds.2 a)) c, fun h p a c => by
   have hs := mem_preds.1 (a.resolve_left id)
   refine h p hs ?_ c
   by_cases hR : RR bs p
   ·exact hR
   ·have hv := (next_edges bs _ _ hs).1
    have := I.neg p hv.1 hv.2 hR
    omega⟩⟩
theorem row_ok (a0 a1 : Int) (hl : bs.length ≤ 1000) (O : Ord bs seen ord) (Q : Pos ord (rd place)) (L : Pl bs.length (nextL bs) (rd place)) (hp : place.length = bs.length) (fin : Bool) :
  ∀ (ns pre over : List Int) (more : Bool), ord = 0 :: pre ++ ns → over.length = bs.length → Inv bs.length (nextL bs) (rd place) (rd over) (pre.length + 1 : Nat) fin →
   ∃ over' more', Evt (fun k => rowO a0 a1 bs place k ns over more) (over', more') ∧ over'.length = bs.length ∧ Inv bs.length (nextL bs) (rd place) (rd over') ord.length fin ∧
    (more' = false → more = false ∧ over' = over ∧ ∀ n ∈ ns, Best bs.length (nextL bs) (rd over) n (rd over n)) ∧ (fin = true → Sum ord place over' ≤ Sum ord place over ∧ (more' = true → more = true ∨ Sum ord place over' < Sum ord place over))
 | [], pre, over, more, e, ho, I => by
  refine ⟨over, more, Evt.pure _, ho, ?_, fun h => ⟨h, rfl, by simp⟩, fun _ => ⟨Nat.le_refl _, .inl⟩⟩
  rw [e, List.append_nil, List.length_cons]
  exact I
 | n :: ns, pre, over, more, e, ho, I => by
  have hmem : n ∈ ord := by rw [e]; simp
  have hn : RR bs n := (O.mem n).1 hmem
  have hv := hn.inV (next_edges bs)
  have hpl : rd place n = (pre.length + 1 : Nat) := by
   have := Q.at_ (0 :: pre) ns n e
   simpa using this
  have h0 : n ≠ 0 := fun h => by rw [h, L.zero] at hpl; omega
  rw [← hpl] at I
  obtain ⟨r, er, B⟩ := best_ok I L ho hp hn h0
  have hin : inL over n := ⟨hv.1, by omega⟩
  have hfun := rd_upd over n r (by omega) hin.2
  have I' := I.step L hn h0 B
  rw [← hfun] at I'
  obtain ⟨over', more', e', h1, h2, h3, h4⟩ := row_ok a0 a1 hl O Q L hp fin ns (pre ++ [n]) (over.set n.toNat r) (more || (rd over n != r)) (by rw [e]; simp) (by rw [List.length_set]; exact ho) (by
   rw [hpl] at I'
   have : ((pre ++ [n]).length + 1 : Nat) = ((pre.length + 1 : Nat) : Int) + 1 := by simp
   rw [this]; exact I')
  refine ⟨over', more', ?_, h1, h2, fun hm => ?_, fun hf => ?_⟩
  ·simp only [rowO]
   refine Evt.bind (before_ev a0 a1 bs n (by omega)) (Evt.bind er ?_)
   simp only [if_pos hin]
   exact e'
  ·obtain ⟨m1, m2, m3⟩ := h3 hm
   obtain ⟨m4, m5⟩ : more = false ∧ rd over n = r := by simpa using m1
   have hset : over.set n.toNat r = over := by
    rw [← m5]
    unfold rd
    rw [List.getD_eq_getElem?_getD, List.getElem?_eq_getElem (show n.toNat < over.length by omega)]
    simp
   rw [hset] at m2 m3
   refine ⟨m4, m2, fun x hx => ?_⟩
   rcases List.mem_cons.1 hx with rfl | hx
   ·rw [m5]; exact B
   ·exact m3 x hx
  ·obtain ⟨s1, s2⟩ := h4 hf
   subst hf
   have hon := I.P n hn (.inr rfl)
   have hK : Anc (rd over) r (rd over n) := I.K n hn h0 hon r ((B.all r).1 (.refl _))
   obtain ⟨u1, u2, u3⟩ := I.up n hn h0 hon
   have hle := (I.toTree.anc hK u1 u2).2.2
   have hpr := L.pos r B.rch
   have hpo := L.pos _ u1
   have hpt : ∀ x ∈ ord, (rd place (rd (over.set n.toNat r) x)).toNat ≤ (rd place (rd over x)).toNat := by
    intro x hx
    rw [hfun]
    unfold upd
    split
    ·rename_i hxn
     subst hxn
     omega
    ·exact Nat.le_refl _
   have hsum : Sum ord place (over.set n.toNat r) ≤ Sum ord place over := sum_le _ _ ord hpt
   refine ⟨Nat.le_trans s1 hsum, fun hm => ?_⟩
   rcases s2 hm with h | h
   ·rw [Bool.or_eq_true] at h
    rcases h with h | h
    ·exact .inl h
    ·refine .inr (Nat.lt_of_le_of_lt s1 (sum_lt _ _ ord n hpt hmem ?_))
     have hne : r ≠ rd over n := fun e => by simp [e] at h
     have := I.toTree.lt hK hne u1 u2
     rw [hfun, upd_self]
     omega
   ·exact .inr (by omega)
def Fin (bs : List S50) (place over : List Int) : Prop := over.length = bs.length ∧ Inv bs.length (nextL bs) (rd place) (rd over) 1 true ∧ Fix bs.length (nextL bs) (rd over)
theorem pos_lt (O : Ord bs seen ord) (Q : Pos ord (rd place)) {m : Int} (h : RR bs m) : rd place m < ord.length := by
 obtain ⟨l1, l2, e⟩ := List.append_of_mem ((O.mem m).2 h)
 rw [Q.at_ l1 l2 m e, e]
 simp; omega
theorem round_ok (a0 a1 : Int) (hl : bs.length ≤ 1000) (O : Ord bs seen ord) (Q : Pos ord (rd place)) (L : Pl bs.length (nextL bs) (rd place)) (hp : place.length = bs.length) {t : List Int} (ht : ord = 0 :: t) (fin : Bool) (over : List Int) (ho : over.length = bs.length) (I : Inv bs.length (nextL bs) (rd place) (rd over) 1 fin) :
  ∃ over' more', Evt (fun k => rowO a0 a1 bs place k t over false) (over', more') ∧ over'.length = bs.length ∧ Inv bs.length (nextL bs) (rd place) (rd over') 1 true ∧ (more' = false → Fin bs place over') ∧ (more' = true → fin = true → Sum ord place over' < Sum ord place over) := by
 obtain ⟨over', more', e, h1, h2, h3, h4⟩ := row_ok a0 a1 hl O Q L hp fin t [] over false (by rw [ht]; rfl) ho (by simpa using I)
 have hj : ∀ m, RR bs m → rd place m < ord.length := fun m h => pos_lt O Q h
 have h2' := h2.again L hj
 refine ⟨over', more', e, h1, h2', fun hm => ⟨h1, h2', fun n hn h0 => ?_⟩, fun hm hf => ?_⟩
 ·obtain ⟨_, m2, m3⟩ := h3 hm
  subst m2
  refine m3 n ?_
  have := (O.mem n).2 hn
  rw [ht] at this
  exact (List.mem_cons.1 this).resolve_left h0
 ·rcases (h4 hf).2 hm with h | h
  ·cases h
  ·exact h
theorem rounds_ok (a0 a1 : Int) (hl : bs.length ≤ 1000) (O : Ord bs seen ord) (Q : Pos ord (rd place)) (L : Pl bs.length (nextL bs) (rd place)) (hp : place.length = bs.length) {t : List Int} (ht : ord = 0 :: t) :
  ∀ (s : Nat) (over : List Int), over.length = bs.length → Inv bs.length (nextL bs) (rd place) (rd over) 1 true → Sum ord place over ≤ s → ∃ over', (∃ K, ∀ k j, K ≤ k → K ≤ j → roundsO a0 a1 bs place k t j over = some over') ∧ Fin bs place over' := by
 intro s
 induction s with
 | zero =>
  intro over ho I hs
  obtain ⟨over', more', ⟨K, e⟩, h1, h2, h3, h4⟩ := round_ok a0 a1 hl O Q L hp ht true over ho I
  replace e : ∀ k, K ≤ k → rowO a0 a1 bs place k t over false = some (over', more') := e
  cases more' with
  | true => have := h4 rfl rfl; omega
  | false =>
   refine ⟨over', ⟨K + 1, fun k j hk hj => ?_⟩, h3 rfl⟩
   obtain ⟨j', rfl⟩ : ∃ j', j = j' + 1 := ⟨j - 1, by omega⟩
   rw [roundsO, e k (by omega), Option.bind_some, if_neg (by simp)]
 | succ s ih =>
  intro over ho I hs
  obtain ⟨over', more', ⟨K, e⟩, h1, h2, h3, h4⟩ := round_ok a0 a1 hl O Q L hp ht true over ho I
  replace e : ∀ k, K ≤ k → rowO a0 a1 bs place k t over false = some (over', more') := e
  cases more' with
  | true =>
   obtain ⟨r, ⟨K2, er⟩, hr⟩ := ih over' h1 h2 (by have := h4 rfl rfl; omega)
   refine ⟨r, ⟨K + K2 + 1, fun k j hk hj => ?_⟩, hr⟩
   obtain ⟨j', rfl⟩ : ∃ j', j = j' + 1 := ⟨j - 1, by omega⟩
   rw [roundsO, e k (by omega), Option.bind_some, if_pos (by simp)]
   exact er k j' (by omega) (by omega)
  | false =>
   refine ⟨over', ⟨K + 1, fun k j hk hj => ?_⟩, h3 rfl⟩
   obtain ⟨j', rfl⟩ : ∃ j', j = j' + 1 := ⟨j - 1, by omega⟩
   rw [roundsO, e k (by omega), Option.bind_some, if_neg (by simp)]
theorem first_ok (a0 a1 : Int) (hl : bs.length ≤ 1000) (O : Ord bs seen ord) (Q : Pos ord (rd place)) (L : Pl bs.length (nextL bs) (rd place)) (hp : place.length = bs.length) {t : List Int} (ht : ord = 0 :: t)
  (over : List Int) (ho : over.length = bs.length) (I : Inv bs.length (nextL bs) (rd place) (rd over) 1 false) : ∃ over', (∃ K, ∀ k j, K ≤ k → K ≤ j → roundsO a0 a1 bs place k t j over = some over') ∧ Fin bs place over' := by
 obtain ⟨over', more', ⟨K, e⟩, h1, h2, h3, h4⟩ := round_ok a0 a1 hl O Q L hp ht false over ho I
 replace e : ∀ k, K ≤ k → rowO a0 a1 bs place k t over false = some (over', more') := e
 cases more' with
 | true =>
  obtain ⟨r, ⟨K2, er⟩, hr⟩ := rounds_ok a0 a1 hl O Q L hp ht _ over' h1 h2 (Nat.le_refl _)
  refine ⟨r, ⟨K + K2 + 1, fun k j hk hj => ?_⟩, hr⟩
  obtain ⟨j', rfl⟩ : ∃ j', j = j' + 1 := ⟨j - 1, by omega⟩
  rw [roundsO, e k (by omega), Option.bind_some, if_pos (by simp)]
  exact er k j' (by omega) (by omega)
 | false =>
  refine ⟨over', ⟨K + 1, fun k j hk hj => ?_⟩, h3 rfl⟩
  obtain ⟨j', rfl⟩ : ∃ j', j = j' + 1 := ⟨j - 1, by omega⟩
  rw [roundsO, e k (by omega), Option.bind_some, if_neg (by simp)]
end
theorem meetO_mono (over place : List Int) : ∀ k m a b, LeO (meetO over place k m a b) (meetO over place (k + 1) m a b)
 | 0, _, _, _ => LeO.none _
 | k + 1, 0, a, b => by
  rw [meetO, meetO]
  exact LeO.ite (LeO.refl _) (meetO_mono over place k 1 a b)
 | k + 1, 1, a, b => by
  rw [meetO, meetO]
  exact LeO.ite (LeO.ite (LeO.ite (meetO_mono over place k 1 _ _) (LeO.refl _)) (meetO_mono over place k 2 a b)) (LeO.refl _)
 | k + 1, n + 2, a, b => by
  rw [meetO, meetO]
  exact LeO.ite (LeO.ite (LeO.ite (meetO_mono over place k 2 _ _) (LeO.refl _)) (meetO_mono over place k 0 a b)) (LeO.refl _)
theorem bestO_mono (over place : List Int) (k : Nat) : ∀ ps b, LeO (bestO over place k ps b) (bestO over place (k + 1) ps b)
 | [], _ => LeO.refl _
 | p :: ps, b => by
  rw [bestO, bestO]
  exact LeO.ite (LeO.ite (bestO_mono over place k ps b) (LeO.ite (bestO_mono over place k ps p) (LeO.bind (meetO_mono over place k 0 p b) fun m => bestO_mono over place k ps m))) (LeO.refl _)
theorem rowO_mono (a0 a1 : Int) (bs : List S50) (place : List Int) (k : Nat) : ∀ ns over more, LeO (rowO a0 a1 bs place k ns over more) (rowO a0 a1 bs place (k + 1) ns over more)
 | [], _, _ => LeO.refl _
 | n :: ns, over, more => by
  rw [rowO, rowO]
  exact LeO.bind (flow_Before.mono _ _ _ _ k) fun ps => LeO.bind (bestO_mono over place k ps _) fun b => LeO.ite (rowO_mono a0 a1 bs place k ns _ _) (LeO.refl _)
theorem roundsO_mono (a0 a1 : Int) (bs : List S50) (place : List Int) (k : Nat) (ns : List Int) : ∀ j over, LeO (roundsO a0 a1 bs place k ns j over) (roundsO a0 a1 bs place (k + 1) ns (j + 1) over)
 | 0, _ => LeO.none _
 | j + 1, over => by
  rw [roundsO, roundsO]
  exact LeO.bind (rowO_mono a0 a1 bs place k ns over false) fun q => LeO.ite (roundsO_mono a0 a1 bs place k ns j q.1) (LeO.refl _)
theorem grownO_mono (a0 a1 : Int) (bs : List S50) (k : Nat) : LeO (grownO a0 a1 bs k) (grownO a0 a1 bs (k + 1)) := by
 unfold grownO
 exact LeO.bind (LeO.refl _) fun order => LeO.bind (LeO.refl _) fun place => LeO.ite (LeO.refl _) (LeO.ite (LeO.bind (roundsO_mono a0 a1 bs place k _ k _) fun _ => LeO.refl _) (LeO.refl _))
theorem anyK_ev {α : Type} {g : Nat → Option α} {r : α} (h : Evt g r) (hm : ∀ k, LeO (g k) (g (k + 1))) : anyK g = some r := by
 refine anyK_eq h.ex fun k q hq => ?_
 obtain ⟨K, hK⟩ := h
 have h1 := more_rounds hm k (K - k) q hq
 by_cases hk : K ≤ k
 ·rw [hK k hk] at hq; exact (Option.some.inj hq).symm
 ·rw [hK (k + (K - k)) (by omega)] at h1
  exact (Option.some.inj h1).symm
end Go.Proofs.Ytilopoegoddggaa.X
namespace Go.Proofs.Ytilopoegoddggaa.X
open Go.RowKit Go.Proofs.YtilopoegoddggaaW.PrintWords Go.Proofs.YtilopoegoddggaaW.PrintLast Go.Proofs.YtilopoegoddggaaW.PrintMore
open Go.Proofs.Ytilopoegoddggaa.G
set_option linter.all false
abbrev DD (bs : List S50) (a b : Int) : Prop := Dom bs.length (nextL bs) a b
structure OverOk (bs : List S50) (r : List Int) (place o : Int → Int) : Prop where
 len : r.length = bs.length
 rd : ∀ m : Int, 0 ≤ m → m < bs.length → rd r m = if m = 0 then -1 else o m
 pl : Pl bs.length (nextL bs) place
 tree : Tree bs.length (nextL bs) place o
 done : ∀ m, RR bs m → 0 ≤ o m
 lt : ∀ m, RR bs m → place m < bs.length
 anc : ∀ x m, RR bs m → (Anc o x m ↔ DD bs x m)
theorem reached_ok (a0 a1 : Int) (bs : List S50) (hl : bs.length ≤ 1000) : ∃ seen, flow_Reached.f a0 a1 bs = some seen ∧ seen.length = bs.length ∧ ∀ m : Int, 0 ≤ m → m < bs.length → (rdOf false seen m = true ↔ RR bs m) := by
 obtain ⟨seen, left, e, O⟩ := walk_ok bs hl
 refine ⟨seen, ?_, O.len, O.seen⟩
 unfold flow_Reached.f
 rw [if_pos hl, e]; rfl
theorem over_ok (a0 a1 : Int) (bs : List S50) (hl : bs.length ≤ 1000) (h0 : 0 < bs.length) : ∃ r place o, dom_Over.f a0 a1 bs = some r ∧ OverOk bs r place o := by
 obtain ⟨seen, left, e, O⟩ := walk_ok bs hl
 obtain ⟨t, ht⟩ := O.head h0
 obtain ⟨p, ep, hp, h1, h2⟩ := place_ok left.reverse 0 (List.replicate bs.length 0) (fun m hm => by rw [List.length_replicate]; exact ((O.mem m).1 hm).inV (next_edges bs)) O.nd
 have Q : Pos left.reverse (rd p) := ⟨fun l1 l2 m h => by rw [h1 l1 l2 m h]; omega⟩
 have L := Q.pl O h0
 have hp' : p.length = bs.length := by rw [hp, List.length_replicate]
 have hst : rd ((List.replicate bs.length (-1 : Int)).set 0 0) = fun x => if x = 0 then 0 else rd ((List.replicate bs.length (-1 : Int)).set 0 0) x := by
  funext x
  split
  ·rename_i h
   subst h
   unfold rd
   rw [List.getD_eq_getElem?_getD, List.getElem?_set]
   simp [h0]
  ·rfl
 have hI : Inv bs.length (nextL bs) (rd p) (rd ((List.replicate bs.length (-1 : Int)).set 0 0)) 1 false := by
  have S := Inv.start L h0
  have hz : rd ((List.replicate bs.length (-1 : Int)).set 0 0) 0 = 0 := by
   unfold rd
   rw [List.getD_eq_getElem?_getD, List.getElem?_set]
   simp [h0]
  have hm : ∀ m : Int, 0 ≤ m → m < bs.length → m ≠ 0 → rd ((List.replicate bs.length (-1 : Int)).set 0 0) m = -1 := by
   intro m a b c
   unfold rd
   rw [List.getD_eq_getElem?_getD, List.getElem?_set, if_neg (by omega), List.getElem?_replicate, if_pos (by omega)]
   rfl
  have hR : ∀ m, RR bs m → m ≠ 0 → ¬ 0 ≤ rd ((List.replicate bs.length (-1 : Int)).set 0 0) m := fun m a b c => by
   have hv := a.inV (next_edges bs)
   rw [hm m hv.1 hv.2 b] at c
   omega
  refine { toTree := ⟨hz, fun n a b c => hm n a b (fun e => c (e ▸ .zero h0 (by omega))), fun n a b => ?_, fun n a b c => absurd c (hR n a b)⟩, P := fun m a b => ?_, U := fun m a b x h => ?_, K := fun m a b c => absurd c (hR m a b), M := fun m q a b c => absurd c (hR m a b) }
  ·by_cases hn : n = 0
   ·rw [hn, hz]; omega
   ·rw [hm n a b hn]; omega
  ·rcases b with b | b
   ·have : m = 0 := L.inj _ _ a (.zero h0 (by omega)) (by have := L.pos m a; have := L.zero; omega)
    rw [this, hz]; omega
   ·cases b
  ·by_cases e : m = 0
   ·subst e
    rw [h.at_zero]; exact .refl _
   ·exact absurd b (hR m a e)
 obtain ⟨over, ⟨K, hK⟩, F1, F2, F3⟩ := first_ok a0 a1 hl O Q L hp' ht _ (by simp) hI
 have hdone : ∀ m, RR bs m → 0 ≤ rd over m := fun m hm => F2.P m hm (.inr rfl)
 refine ⟨over.set 0 (-1), rd p, rd over, ?_, by rw [List.length_set]; exact F1, fun m a b => ?_, L, F2.toTree, hdone, fun m hm => (by have := pos_lt O Q hm; have := O.cnt; omega), fun x m hm => F2.dom L hdone F3 hm⟩
 ·unfold dom_Over.f
  rw [if_pos hl]
  refine anyK_ev ⟨K, fun k hk => ?_⟩ (grownO_mono a0 a1 bs)
  unfold grownO flow_Order.f
  rw [if_pos hl, e]
  simp only [Option.map_some, Option.bind_some]
  rw [ep, Option.bind_some, if_neg (by rw [ht]; simp), if_pos h0]
  have : left.reverse.drop 1 = t := by rw [ht]; rfl
  rw [this, hK k k hk hk, Option.bind_some, if_pos (by omega)]
 ·have := rd_set over 0 m (-1) (by omega) (by omega) a
  exact this
open Classical in
theorem is_l0 {bs : List S50} {r : List Int} {place o : Int → Int} (H : OverOk bs r place o) (a : Int) (ha : 0 ≤ a) : ∀ (j : Nat) (b : Int), (place b).toNat ≤ j → RR bs b → Evt (fun k => dom_Is.l0 k a b r) (decide (DD bs a b)) := by
 intro j
 induction j with
 | zero =>
  intro b hj hb
  have hz : b = 0 := H.pl.inj _ _ hb (.zero (by have := hb.inV (next_edges bs); omega) (by omega)) (by have := H.pl.pos b hb; have := H.pl.zero; omega)
  subst hz
  have hN : 0 < bs.length := by have := hb.inV (next_edges bs); omega
  by_cases e : 0 = a
  ·refine Evt.succ ?_
   simp only [dom_Is.l0, if_pos e]
   rw [decide_eq_true (show DD bs a 0 from e ▸ Dom.refl (next_edges bs) hb)]
   rw [show ((0 : Int) == a) = true by simp [e]]
   exact Evt.pure _
  ·have hr0 : rd r 0 = -1 := by rw [H.rd 0 (by omega) (by omega), if_pos rfl]
   refine Evt.succ ?_
   simp only [dom_Is.l0, if_neg e, if_pos (show (0 : Int) ≥ 0 by omega), if_pos (show (0 : Int) ≤ 0 by omega), if_pos (show (0 : Int) < (r.length : Int) by have := H.len; omega), hr0]
   refine Evt.succ ?_
   simp only [dom_Is.l0, if_neg (show ¬ (-1 : Int) = a by omega), if_neg (show ¬ (-1 : Int) ≥ 0 by omega)]
   rw [decide_eq_false (show ¬ DD bs a 0 from fun h => e h.at_zero.symm), show ((-1 : Int) == a) = false by simp; omega]
   exact Evt.pure _
 | succ j ih =>
  intro b hj hb
  have hv := hb.inV (next_edges bs)
  by_cases e : b = a
  ·refine Evt.succ ?_
   simp only [dom_Is.l0, if_pos e]
   rw [decide_eq_true (show DD bs a b from e ▸ Dom.refl (next_edges bs) hb)]
   rw [show (b == a) = true by simp [e]]
   exact Evt.pure _
  ·by_cases hz : b = 0
   ·subst hz
    have hr0 : rd r 0 = -1 := by rw [H.rd 0 (by omega) (by omega), if_pos rfl]
    refine Evt.succ ?_
    simp only [dom_Is.l0, if_neg e, if_pos (show (0 : Int) ≥ 0 by omega), if_pos (show (0 : Int) ≤ 0 by omega), if_pos (show (0 : Int) < (r.length : Int) by have := H.len; omega), hr0]
    refine Evt.succ ?_
    simp only [dom_Is.l0, if_neg (show ¬ (-1 : Int) = a by omega), if_neg (show ¬ (-1 : Int) ≥ 0 by omega)]
    rw [decide_eq_false (show ¬ DD bs a 0 from fun h => e h.at_zero.symm), show ((-1 : Int) == a) = false by simp; omega]
    exact Evt.pure _
   ·obtain ⟨u1, u2, u3⟩ := H.tree.up b hb hz (H.done b hb)
    have hpo := H.pl.pos _ u1
    refine Evt.succ ?_
    simp only [dom_Is.l0, if_neg e, if_pos (show b ≥ 0 by omega), if_pos (show 0 ≤ b by omega), if_pos (show b < (r.length : Int) by have := H.len; omega), H.rd b hv.1 hv.2, if_neg hz]
    rw [decide_eq_decide.2 (show DD bs a b ↔ DD bs a (o b) by
     rw [← H.anc a b hb, ← H.anc a (o b) u1]
     exact ⟨fun h => (h.cases_ne fun e' => e e'.symm).2, fun h => .up hz h⟩)]
    exact ih (o b) (by omega) u1
open Classical in
theorem is_ev (a0 a1 : Int) (bs : List S50) (hl : bs.length ≤ 1000) (a b : Int) : Evt (fun k => dom_Is.f k a0 a1 bs a b) (decide (DD bs a b)) := by
 have hoff : ¬ DD bs a b → Evt (fun k => dom_Is.j0 k a b true a0 a1 bs) (decide (DD bs a b)) := fun h => by
  refine Evt.succ ?_
  simp only [dom_Is.j0, if_pos]
  rw [decide_eq_false h]
  exact Evt.pure _
 unfold dom_Is.f
 by_cases h1 : a < 0
 ·simp only [if_pos h1]
  exact hoff fun h => by have := h.2.1; omega
 simp only [if_neg h1]
 by_cases h2 : a ≥ (bs.length : Int)
 ·simp only [if_pos h2]
  exact hoff fun h => by have := h.2.1; omega
 simp only [if_neg h2]
 by_cases h3 : b < 0
 ·simp only [if_pos h3]
  exact hoff fun h => by have := h.1.inV (next_edges bs); omega
 simp only [if_neg h3]
 by_cases h4 : b ≥ (bs.length : Int)
 ·simp only [if_pos h4]
  exact hoff fun h => by have := h.1.inV (next_edges bs); omega
 simp only [if_neg h4]
 obtain ⟨seen, e, hs, hr⟩ := reached_ok a0 a1 bs hl
 simp only [e, Option.bind_some, if_pos (show 0 ≤ b by omega), if_pos (show b < (seen.length : Int) by omega)]
 by_cases hb : RR bs b
 ·rw [(hr b (by omega) (by omega)).2 hb]
  obtain ⟨r, place, o, er, H⟩ := over_ok a0 a1 bs hl (by omega)
  refine Evt.succ ?_
  simp only [dom_Is.j0, Bool.not_true, if_neg Bool.false_ne_true, er, Option.bind_some]
  have := is_l0 H a (by omega) _ b (Nat.le_refl _) hb
  exact this
 ·have : rdOf false seen b = false := by
   cases h : rdOf false seen b with
   | false => rfl
   | true => exact absurd ((hr b (by omega) (by omega)).1 h) hb
  rw [this]
  exact hoff fun h => hb h.1
end Go.Proofs.Ytilopoegoddggaa.X
namespace Go.Proofs.Ytilopoegoddggaa.X
open Go.RowKit Go.Proofs.YtilopoegoddggaaW.PrintWords Go.Proofs.YtilopoegoddggaaW.PrintLast Go.Proofs.YtilopoegoddggaaW.PrintMore
attribute [local go_sem] max2_int min2_int max_two min_two max_three min_three max_four min_four
set_option linter.all false
noncomputable section
mutual
def davitref07_Without.j0 : Nat → Int → List Bool → Bool → Int → Int → List (S50) → Option (List Bool)
 | 0, _, _, _, _, _, _ => none
 | k + 1, x1, x5, x20, x169000, x169001, x169002 => if x20 = true then (some x5) else (if 0 < (x5.length : Int) then (davitref07_Without.l0 k x1 (x5.set (0 : Int).toNat true) true x169000 x169001 x169002) else (none))
def davitref07_Without.l0 : Nat → Int → List Bool → Bool → Int → Int → List (S50) → Option (List Bool)
 | 0, _, _, _, _, _, _ => none
 | k + 1, x1, x5, x6, x169000, x169001, x169002 => if x6 = true then (davitref07_Without.l1 k x1 x5 false 0 x169000 x169001 x169002) else (some x5)
def davitref07_Without.l1 : Nat → Int → List Bool → Bool → Int → Int → Int → List (S50) → Option (List Bool)
 | 0, _, _, _, _, _, _, _ => none
 | k + 1, x1, x5, x6, x7, x169000, x169001, x169002 => if x7 < (x5.length : Int) then ((davitref07_Next.f k x169000 x169001 x169002 x7).bind fun t173 => (davitref07_Without.l2 k x1 x5 x6 x7 t173 0 x169000 x169001 x169002)) else (davitref07_Without.l0 k x1 x5 x6 x169000 x169001 x169002)
def davitref07_Without.l2 : Nat → Int → List Bool → Bool → Int → List Int → Int → Int → Int → List (S50) → Option (List Bool)
 | 0, _, _, _, _, _, _, _, _, _ => none
 | k + 1, x1, x5, x6, x7, x8, x9, x169000, x169001, x169002 => if x9 < (x8.length : Int) then (if 0 ≤ x7 then (if x7 < (x5.length : Int) then (if rdOf false x5 x7 = true then (if 0 ≤ x9 then (if (rd x8 x9) = x1 then (davitref07_Without.l2 k x1 x5 x6 x7 x8 (wrap64 (x9 + 1)) x169000 x169001 x169002) else (if 0 ≤ (rd x8 x9) then (if (rd x8 x9) < (x5.length : Int) then (if (rdOf false x5 (rd x8 x9) = true) then (davitref07_Without.l2 k x1 x5 x6 x7 x8 (wrap64 (x9 + 1)) x169000 x169001 x169002) else (davitref07_Without.l2 k x1 (x5.set ((rd x8 x9) : Int).toNat true) true x7 x8 (wrap64 (x9 + 1)) x169000 x169001 x169002)) else (none)) else (none))) else (none)) else (davitref07_Without.l2 k x1 x5 x6 x7 x8 (wrap64 (x9 + 1)) x169000 x169001 x169002)) else (none)) else (none)) else (davitref07_Without.l1 k x1 x5 x6 (wrap64 (x7 + 1)) x169000 x169001 x169002)
end
def davitref07_Without.f (k : Nat) (a0_0 : Int) (a0_1 : Int) (l0_2 : List (S50)) (a1 : Int) : Option (List Bool) := if 0 ≤ (l0_2.length : Int) then (if ((l0_2.length : Int) : Int).toNat ≤ 281474976710656 then ((some (List.replicate ((l0_2.length : Int) : Int).toNat false : List Bool)).bind fun y169 => (if (y169.length : Int) = 0 then (davitref07_Without.j0 k a1 y169 true a0_0 a0_1 l0_2) else (davitref07_Without.j0 k a1 y169 (a1 == 0) a0_0 a0_1 l0_2))) else (none)) else (none)
theorem davitref07_Without.mono_l : ∀ k, (∀ y0 y1 y2 y3 y4 y5, LeO (davitref07_Without.j0 k y0 y1 y2 y3 y4 y5) (davitref07_Without.j0 (k + 1) y0 y1 y2 y3 y4 y5)) ∧ (∀ y0 y1 y2 y3 y4 y5, LeO (davitref07_Without.l0 k y0 y1 y2 y3 y4 y5) (davitref07_Without.l0 (k + 1) y0 y1 y2 y3 y4 y5)) ∧ (∀ y0 y1 y2 y3 y4 y5 y6, LeO (davitref07_Without.l1 k y0 y1 y2 y3 y4 y5 y6) (davitref07_Without.l1 (k + 1) y0 y1 y2 y3 y4 y5 y6)) ∧ (∀ y0 y1 y2 y3 y4 y5 y6 y7 y8, LeO (davitref07_Without.l2 k y0 y1 y2 y3 y4 y5 y6 y7 y8) (davitref07_Without.l2 (k + 1) y0 y1 y2 y3 y4 y5 y6 y7 y8))
 | 0 => ⟨fun _ _ _ _ _ _ r h => by simp [davitref07_Without.j0] at h, fun _ _ _ _ _ _ r h => by simp [davitref07_Without.l0] at h, fun _ _ _ _ _ _ _ r h => by simp [davitref07_Without.l1] at h, fun _ _ _ _ _ _ _ _ _ r h => by simp [davitref07_Without.l2] at h⟩
 | k + 1 => by
  obtain ⟨ih0, ih1, ih2, ih3⟩ := davitref07_Without.mono_l k
  refine ⟨?_, ?_, ?_, ?_⟩
  ·intro y0 y1 y2 y3 y4 y5
   unfold davitref07_Without.j0
   repeat' first
   | (with_reducible exact ih0 _ _ _ _ _ _)
   | (with_reducible exact ih1 _ _ _ _ _ _)
   | (with_reducible exact ih2 _ _ _ _ _ _ _)
   | (with_reducible exact ih3 _ _ _ _ _ _ _ _ _)
   | (with_reducible exact davitref07_Next.mono _ _ _ _ _)
   | (with_reducible exact LeO.refl _)
   | (with_reducible exact LeO.none _)
   | (with_reducible refine LeO.ite ?_ ?_)
   | (with_reducible refine LeO.bind ?_ (fun _ => ?_))
   | exact ih0 _ _ _ _ _ _
   | exact ih1 _ _ _ _ _ _
   | exact ih2 _ _ _ _ _ _ _
   | exact ih3 _ _ _ _ _ _ _ _ _
   | exact davitref07_Next.mono _ _ _ _ _
   | exact LeO.none _
   | refine LeO.ite ?_ ?_
   | refine LeO.bind ?_ (fun _ => ?_)
  ·intro y0 y1 y2 y3 y4 y5
   unfold davitref07_Without.l0
   repeat' first
   | (with_reducible exact ih0 _ _ _ _ _ _)
   | (with_reducible exact ih1 _ _ _ _ _ _)
   | (with_reducible exact ih2 _ _ _ _ _ _ _)
   | (with_reducible exact ih3 _ _ _ _ _ _ _ _ _)
   | (with_reducible exact davitref07_Next.mono _ _ _ _ _)
   | (with_reducible exact LeO.refl _)
   | (with_reducible exact LeO.none _)
   | (with_reducible refine LeO.ite ?_ ?_)
   | (with_reducible refine LeO.bind ?_ (fun _ => ?_))
   | exact ih0 _ _ _ _ _ _
   | exact ih1 _ _ _ _ _ _
   | exact ih2 _ _ _ _ _ _ _
   | exact ih3 _ _ _ _ _ _ _ _ _
   | exact davitref07_Next.mono _ _ _ _ _
   | exact LeO.none _
   | refine LeO.ite ?_ ?_
   | refine LeO.bind ?_ (fun _ => ?_)
  ·intro y0 y1 y2 y3 y4 y5 y6
   unfold davitref07_Without.l1
   repeat' first
   | (with_reducible exact ih0 _ _ _ _ _ _)
   | (with_reducible exact ih1 _ _ _ _ _ _)
   | (with_reducible exact ih2 _ _ _ _ _ _ _)
   | (with_reducible exact ih3 _ _ _ _ _ _ _ _ _)
   | (with_reducible exact davitref07_Next.mono _ _ _ _ _)
   | (with_reducible exact LeO.refl _)
   | (with_reducible exact LeO.none _)
   | (with_reducible refine LeO.ite ?_ ?_)
   | (with_reducible refine LeO.bind ?_ (fun _ => ?_))
   | exact ih0 _ _ _ _ _ _
   | exact ih1 _ _ _ _ _ _
   | exact ih2 _ _ _ _ _ _ _
   | exact ih3 _ _ _ _ _ _ _ _ _
   | exact davitref07_Next.mono _ _ _ _ _
   | exact LeO.none _
   | refine LeO.ite ?_ ?_
   | refine LeO.bind ?_ (fun _ => ?_)
  ·intro y0 y1 y2 y3 y4 y5 y6 y7 y8
   unfold davitref07_Without.l2
   repeat' first
   | (with_reducible exact ih0 _ _ _ _ _ _)
   | (with_reducible exact ih1 _ _ _ _ _ _)
   | (with_reducible exact ih2 _ _ _ _ _ _ _)
   | (with_reducible exact ih3 _ _ _ _ _ _ _ _ _)
   | (with_reducible exact davitref07_Next.mono _ _ _ _ _)
   | (with_reducible exact LeO.refl _)
   | (with_reducible exact LeO.none _)
   | (with_reducible refine LeO.ite ?_ ?_)
   | (with_reducible refine LeO.bind ?_ (fun _ => ?_))
   | exact ih0 _ _ _ _ _ _
   | exact ih1 _ _ _ _ _ _
   | exact ih2 _ _ _ _ _ _ _
   | exact ih3 _ _ _ _ _ _ _ _ _
   | exact davitref07_Next.mono _ _ _ _ _
   | exact LeO.none _
   | refine LeO.ite ?_ ?_
   | refine LeO.bind ?_ (fun _ => ?_)
theorem davitref07_Without.mono : ∀ a0 a1 a2 a3 k, LeO (davitref07_Without.f k a0 a1 a2 a3) (davitref07_Without.f (k + 1) a0 a1 a2 a3) := by
 intro a0 a1 a2 a3 k
 obtain ⟨ih0, ih1, ih2, ih3⟩ := davitref07_Without.mono_l k
 unfold davitref07_Without.f
 repeat' first
   | (with_reducible exact ih0 _ _ _ _ _ _)
   | (with_reducible exact ih1 _ _ _ _ _ _)
   | (with_reducible exact ih2 _ _ _ _ _ _ _)
   | (with_reducible exact ih3 _ _ _ _ _ _ _ _ _)
   | (with_reducible exact davitref07_Next.mono _ _ _ _ _)
   | (with_reducible exact LeO.refl _)
   | (with_reducible exact LeO.none _)
   | (with_reducible refine LeO.ite ?_ ?_)
   | (with_reducible refine LeO.bind ?_ (fun _ => ?_))
   | exact ih0 _ _ _ _ _ _
   | exact ih1 _ _ _ _ _ _
   | exact ih2 _ _ _ _ _ _ _
   | exact ih3 _ _ _ _ _ _ _ _ _
   | exact davitref07_Next.mono _ _ _ _ _
   | exact LeO.none _
   | refine LeO.ite ?_ ?_
   | refine LeO.bind ?_ (fun _ => ?_)
set_option maxHeartbeats 8000000 in
set_option maxRecDepth 100000 in
theorem davitref07_Without.calls (k : Nat) (a0_0 : Int) (a0_1 : Int) (A0_2 : Option Addr) (c0_2 : Nat) (l0_2 : List (S50)) (a1 : Int) (r : List Bool) (w : World) (hr0_2 : Kd.C k50 w A0_2 l0_2.length l0_2) (hc0_2 : l0_2.length ≤ c0_2) (h : davitref07_Without.f k a0_0 a0_1 l0_2 a1 = some r) :
  Calls Try.prog 30 #[.agg #[.int .i64 a0_0, .int .i64 a0_1, .slice A0_2 l0_2.length c0_2], .int .i64 a1] w fun e w' => ∃ v0_ : Value, e = .returned (v0_) ∧ Kd.R Kd.bool 4 w' w.heap.size (fun _ => True) v0_ r ∧ Below w.heap.size w w' := by
 have hu24 := Try.underlying24
 have HR0_2 := Aside0.mk hr0_2
 have HC0_2 := Aside0.mk hc0_2
 clear hr0_2 hc0_2
 have HB := Aside0.mk (Below.refl w.heap.size w)
 have H : (if 0 ≤ (l0_2.length : Int) then (if ((l0_2.length : Int) : Int).toNat ≤ 281474976710656 then ((some (List.replicate ((l0_2.length : Int) : Int).toNat false : List Bool)).bind fun y169 => (if (y169.length : Int) = 0 then (davitref07_Without.j0 k a1 y169 true a0_0 a0_1 l0_2) else (davitref07_Without.j0 k a1 y169 (a1 == 0) a0_0 a0_1 l0_2))) else (none)) else (none)) = some r := h
 clear h
 by_cases c3 : 0 ≤ (l0_2.length : Int)
 ·rw [if_pos c3] at H
  have c3b0 := eq_true c3
  have c3b1 : decide (0 ≤ (l0_2.length : Int)) = true := decide_eq_true c3
  clear c3
  by_cases c4 : ((l0_2.length : Int) : Int).toNat ≤ 281474976710656
  ·rw [if_pos c4] at H
   have c4b0 := eq_true c4
   have c4b1 : decide (((l0_2.length : Int) : Int).toNat ≤ 281474976710656) = true := decide_eq_true c4
   clear c4
   obtain ⟨y169, hy169⟩ : ∃ y_ : List Bool, y_ = (List.replicate ((l0_2.length : Int) : Int).toNat false) := ⟨_, rfl⟩
   replace H : (if (y169.length : Int) = 0 then (davitref07_Without.j0 k a1 y169 true a0_0 a0_1 l0_2) else (davitref07_Without.j0 k a1 y169 (a1 == 0) a0_0 a0_1 l0_2)) = some r := by first | (rw [hy169]; with_reducible exact H) | (have H2_ := (Option.bind_some _ _).symm.trans H; rw [hy169]; with_reducible exact H2_) | (have H2_ := (Option.bind_some _ _).symm.trans H; with_reducible exact H2_) | with_reducible exact H | (rw [hy169]; exact H) | exact H
   have Ny169 := Aside0.mk hy169
   clear hy169
   have HC5 := Aside0.mk H
   clear H
   go_enter Try.func30, Try.ntmps30
   go_upto_region 2 with (first | ((with_reducible refine gate_dst (N := 2) rfl ?_); refine box_event ?hg (N := 2) ?hd (cs := #[.int .i64 a0_0, .int .i64 a0_1, .slice A0_2 l0_2.length c0_2]) (t := 24) ?hr ?_; (case hd => rfl); (case hg => rfl); (case hr => first | (go_simp; done) | (go_simp; rfl)); intro gb168 hg w6 hbox hb; have n0_ := Aside0.mk (below_step (by repeat (first | (with_reducible first | exact HB.out | apply below_alloc | apply pw_below_drewN | apply below_drew1) | exact HB.out)) hb); have n1_ := Aside0.mk (hbox); have n2_ := Aside0.mk ((by rw [hg]; exact (below_size (by repeat (first | (with_reducible first | exact HB.out | apply below_alloc | apply pw_below_drewN | apply below_drew1) | exact HB.out))) : w.heap.size ≤ gb168)); have n3_ := Aside0.mk ((by rw [hg]; exact (below_size (by repeat (first | (with_reducible first | exact HB.out | apply below_alloc | apply pw_below_drewN | apply below_drew1) | exact HB.out))) : w.heap.size ≤ gb168)); clear HB; have HB := n0_; have BK168 := n1_; have GW168 := n2_; have GE168 := n3_; clear n0_ n1_ n2_ n3_; clear hb hbox hg; have hcz7_0 : w6.cell? ⟨gb168, 0, none⟩ = some (.int .i64 a0_0) := (blk_cell BK168.out 0).trans rfl; have hcz7_1 : w6.cell? ⟨gb168, 1, none⟩ = some (.int .i64 a0_1) := (blk_cell BK168.out 1).trans rfl; have hcz7_2 : w6.cell? ⟨gb168, 2, none⟩ = some (.slice A0_2 l0_2.length c0_2) := (blk_cell BK168.out 2).trans rfl; have hfz7_0 := blk_frozen BK168.out 0; have hfz7_1 := blk_frozen BK168.out 1; have hfz7_2 := blk_frozen BK168.out 2) | ((with_reducible refine gate_dst (N := 13) rfl ?_); refine Kd.R_make Kd.bool _ 4 rfl (N := 13) rfl 32 _ _ rfl (l0_2.length : Int) rfl rfl Try.underlying32 (.bool false) 1 info4 rfl (by decide) (by omega) false (ok := fun _ => True) (okp := fun _ => True) rfl (fun _ hk => hk) trivial (of_decide_eq_true (by first | (with_reducible assumption) | assumption)) (Nat.le_trans (Nat.mul_le_mul_right _ (of_decide_eq_true (by first | (with_reducible assumption) | assumption) : (l0_2.length : Int).toNat ≤ 281474976710656)) (by omega)) (Below.refl _ _) (Nat.le_refl _) ?_; intro v170 w8 ho9 hb hg_ hnew_; clear hg_ hnew_; (first | rw [← Ny169.out] at ho9 | (simp only [Int.reduceToNat] at ho9; rw [← Ny169.out] at ho9)); have n0_ := Aside0.mk (Kd.R_lower ho9 (below_size (by repeat (first | (with_reducible first | exact HB.out | apply below_alloc | apply pw_below_drewN | apply below_drew1 | refine below_set ?_ GE168.out) | exact HB.out)))); have n1_ := Aside0.mk (blk_below (g := gb168) (o := .cells #[.int .i64 a0_0, .int .i64 a0_1, .slice A0_2 l0_2.length c0_2] 24 (0, 0)) (by (with_reducible repeat (first | refine blk_drewN ?_ _ | refine blk_drew ?_ | refine blk_alloc ?_ _)); exact BK168.out) hb); have n2_ := Aside0.mk (below_step (by repeat (first | (with_reducible first | exact HB.out | apply below_alloc | apply pw_below_drewN | apply below_drew1 | refine below_set ?_ GE168.out) | exact HB.out)) hb); clear BK168; clear HB; have HO171 := n0_; have BK168 := n1_; have HB := n2_; clear n0_ n1_ n2_; clear hb ho9))
   (try simp only [Act.put, List.setIfInBounds_toArray, List.set_cons_zero, List.set_cons_succ])
   go_cut [20] (fun v20 wc => ∃ (kq : Nat) (x20_4 : Bool), v20 = .bool x20_4 ∧ Aside0 (davitref07_Without.j0 kq a1 y169 x20_4 a0_0 a0_1 l0_2 = some r) ∧ Aside0 (kq ≤ k) ∧ Aside0 (Kd.R Kd.bool 4 wc w.heap.size (fun _ => True) v170 y169) ∧ Aside0 (wc.heap[gb168]? = some (.cells #[.int .i64 a0_0, .int .i64 a0_1, (.slice A0_2 l0_2.length c0_2)] 24 (0, 0))) ∧ Aside0 (Below w.heap.size w wc))
   case first =>
    have H := HC5.out
    clear HC5
    by_cases c10 : (y169.length : Int) = 0
    ·rw [if_pos c10] at H
     have c10b0 : ((y169.length : Int) == 0) = true := beq_iff_eq.mpr c10
     have c10b1 : ((y169.length : Int) != 0) = false := bne_eq_false_iff_eq.mpr c10
     clear c10
     (first | rw [c10b0] | (simp only [i64_w, i32_w]; rw [c10b0]) | skip)
     have H' := Aside0.mk H
     clear H
     obtain ⟨Ao11, co11, eo11⟩ := Kd.R_slice HO171.out
     subst eo11
     go_wp2
     go_meet
     case rel => exact ⟨_, (true), (by first | rfl | (simp; done) | (simp [*]; done)), H', ⟨by first | omega | exact Nat.le_refl _⟩, ⟨by (with_reducible repeat (first | apply Kd.R_alloc | apply Kd.R_drewN | apply Kd.R_drew)); exact HO171.out⟩, ⟨by (with_reducible repeat (first | refine blk_drewN ?_ _ | refine blk_drew ?_ | refine blk_alloc ?_ _)); exact BK168.out⟩, ⟨by repeat (first | (with_reducible first | exact HB.out | apply below_alloc | apply pw_below_drewN | apply below_drew1 | refine below_set ?_ GE168.out) | exact HB.out)⟩⟩
    ·rw [if_neg c10] at H
     have c10b0 : ((y169.length : Int) == 0) = false := beq_eq_false_iff_ne.mpr c10
     have c10b1 : ((y169.length : Int) != 0) = true := bne_iff_ne.mpr c10
     have c10b2 : ¬ (y169 = []) := fun h_ => c10 (by rw [h_]; rfl)
     (first | rw [c10b0] | (simp only [i64_w, i32_w]; rw [c10b0]) | skip)
     have H' := Aside0.mk H
     clear H
     obtain ⟨Ao12, co12, eo12⟩ := Kd.R_slice HO171.out
     subst eo12
     go_wp2
     go_meet
     case rel => exact ⟨_, ((a1 == 0)), (by first | rfl | (simp; done) | (simp [*]; done)), H', ⟨by first | omega | exact Nat.le_refl _⟩, ⟨by (with_reducible repeat (first | apply Kd.R_alloc | apply Kd.R_drewN | apply Kd.R_drew)); exact HO171.out⟩, ⟨by (with_reducible repeat (first | refine blk_drewN ?_ _ | refine blk_drew ?_ | refine blk_alloc ?_ _)); exact BK168.out⟩, ⟨by repeat (first | (with_reducible first | exact HB.out | apply below_alloc | apply pw_below_drewN | apply below_drew1 | refine below_set ?_ GE168.out) | exact HB.out)⟩⟩
   case rest =>
    clear HC5
    try clear c1
    try clear p2
    try clear c3
    try clear c3b0
    try clear c3b1
    try clear c4
    try clear c4b0
    try clear c4b1
    try clear c10
    try clear c10b0
    try clear c10b1
    try clear c10b2
    try clear hcz7_0
    try clear hcz7_1
    try clear hcz7_2
    try clear hfz7_0
    try clear hfz7_1
    try clear hfz7_2
    obtain ⟨kq, x20_4, rfl, HA, HJ4, HO_5, BK168, HB⟩ := hcut
    cases kq with
    | zero => exact absurd HA.out (by simp [davitref07_Without.j0])
    | succ kj4 =>
     have H := HA.out
     clear HA
     simp only [davitref07_Without.j0] at H
     by_cases c13 : x20_4 = true
     ·subst c13
      have H1 : (some y169) = some r := by rw [if_pos rfl] at H; exact H
      clear H
      have H := H1
      clear H1
      obtain rfl := Option.some.inj H
      go_wp2
      go_ret
      exact ⟨_, by first | rfl | (simp [errW_none, errW_some] <;> rfl) | (simp [*, errW_none, errW_some] <;> rfl), by (with_reducible repeat (first | apply Kd.R_alloc | apply Kd.R_drewN | apply Kd.R_drew)); exact HO_5.out, by repeat (first | (with_reducible first | exact HB.out | apply below_alloc | apply pw_below_drewN | apply below_drew1 | refine below_set ?_ GE168.out) | exact HB.out)⟩
     ·replace c13 := Bool.eq_false_iff.mpr c13
      subst c13
      have H1 : (if 0 < (y169.length : Int) then (davitref07_Without.l0 kj4 a1 (y169.set (0 : Int).toNat true) true a0_0 a0_1 l0_2) else (none)) = some r := by rw [if_neg (show ¬ (false = true) by decide)] at H; exact H
      clear H
      have H := H1
      clear H1
      by_cases c14 : 0 < (y169.length : Int)
      ·rw [if_pos c14] at H
       have c14b0 : decide (0 < (y169.length : Int)) = true := decide_eq_true c14
       have c14b1 : decide (0 < y169.length) = true := decide_eq_true (by omega)
       clear c14
       obtain ⟨y172, hy172⟩ : ∃ y_ : List Bool, y_ = (y169.set (0 : Int).toNat true) := ⟨_, rfl⟩
       replace H : (davitref07_Without.l0 kj4 a1 y172 true a0_0 a0_1 l0_2) = some r := by first | (rw [hy172]; with_reducible exact H) | (have H2_ := (Option.bind_some _ _).symm.trans H; rw [hy172]; with_reducible exact H2_) | (have H2_ := (Option.bind_some _ _).symm.trans H; with_reducible exact H2_) | with_reducible exact H | (rw [hy172]; exact H) | exact H
       have Ny172 := Aside0.mk hy172
       clear hy172
       have H' := Aside0.mk H
       clear H
       have p15 : 0 ≤ (0 : Int) := (by omega)
       have q15 : (0 : Int) < ((y169.length : Int) : Int) := of_decide_eq_true (by first | (with_reducible assumption) | assumption)
       have qi15 : (0 < y169.length) = True := eq_true (by omega)
       obtain ⟨go15, co15, eo15, gb15, gl15, cl15, HG15⟩ := Kd.R_form HO_5.out (by omega)
       (first | cases eo15 | (injection eo15 with ea_ en_ ec_; (first | subst ea_ | (injection ea_ with ea_; subst ea_)); subst ec_; clear en_))
       have GB15 := Aside0.mk gb15
       have GG15 := Aside0.mk HG15
       clear gb15 gl15 HG15
       obtain ⟨hx15_0, hf15_0⟩ := Kd.R_celln false HO_5.out (0 : Int) p15 q15
       (try rw [show ((0 : Int)).toNat = 0 from rfl] at hx15_0)
       (try simp only [Nat.reduceMul, Nat.zero_mul, Nat.zero_add, Nat.reduceAdd] at hx15_0)
       (try rw [show ((0 : Int)).toNat = 0 from rfl] at hf15_0)
       (try simp only [Nat.reduceMul, Nat.zero_mul, Nat.zero_add, Nat.reduceAdd] at hf15_0)
       replace p15 := eq_true p15
       replace q15 := eq_true q15
       have HP16 := Kd.R_putg HO_5.out (0 : Int) true
       go_wp2_with (first | ((with_reducible refine gate_store (t := 4) (p := 23) rfl ?_); refine store_event (t := 4) (p := 23) (v := ?vo_w17) (w1 := (wc.setCell ⟨go15, (0 : Int).toNat, none⟩ (.bool true))) ?hg ?ho ?hn ?hr ?_; (case ho => rfl); (case hg => rfl); (case hn => rfl); (case hr => first | (go_simp; done) | (go_simp; rfl)); intro w17 hw; have hg : wc.grownBy w17 (some go15) := (by rw [hw]; exact HP16.2); have hp_ : Kd.R Kd.bool 4 w17 w.heap.size (fun _ => True) (.slice (some ⟨go15, 0, none⟩) y169.length co15) y172 := (by rw [hw, Ny172.out]; exact HP16.1); clear HP16; have n0_ := Aside0.mk (hp_); have n1_ := Aside0.mk (blk_grown (g := gb168) (o := .cells #[.int .i64 a0_0, .int .i64 a0_1, .slice A0_2 l0_2.length c0_2] 24 (0, 0)) (by (with_reducible repeat (first | refine blk_drewN ?_ _ | refine blk_drew ?_ | refine blk_alloc ?_ _)); exact BK168.out) hg (Kd.R_ne HO_5.out BK168.out (by decide))); have n2_ := Aside0.mk ((by rw [hw]; exact below_set (HB.out) GB15.out : Below w.heap.size w w17)); clear HO_5; clear BK168; clear HB; have HO_5 := n0_; have BK168 := n1_; have HB := n2_; clear n0_ n1_ n2_; clear hg hw hp_))
       go_loopg [6] kj4 (fun kq v6 w' => ∃ (x5_2 : List Bool) (x6_2 : Bool), v6 = .bool x6_2 ∧ Aside0 (davitref07_Without.l0 kq a1 x5_2 x6_2 a0_0 a0_1 l0_2 = some r) ∧ Aside0 (kq ≤ kj4) ∧ Aside0 (Kd.R Kd.bool 4 w' w.heap.size (fun _ => True) (.slice (some ⟨go15, 0, none⟩) y169.length co15) x5_2) ∧ Aside0 (w'.heap[gb168]? = some (.cells #[.int .i64 a0_0, .int .i64 a0_1, (.slice A0_2 l0_2.length c0_2)] 24 (0, 0))) ∧ Aside0 (Below w.heap.size w w'))
       case atStart => exact ⟨(y172), (true), (by first | rfl | (simp; done) | (simp [*]; done)), H', ⟨Nat.le_refl _⟩, ⟨by (with_reducible repeat (first | apply Kd.R_alloc | apply Kd.R_drewN | apply Kd.R_drew)); exact HO_5.out⟩, ⟨by (with_reducible repeat (first | refine blk_drewN ?_ _ | refine blk_drew ?_ | refine blk_alloc ?_ _)); exact BK168.out⟩, ⟨by repeat (first | (with_reducible first | exact HB.out | apply below_alloc | apply pw_below_drewN | apply below_drew1 | refine below_set ?_ GE168.out) | exact HB.out)⟩⟩
       case round =>
        clear H'
        try clear c1
        try clear p1
        try clear q1
        try clear hx1
        try clear qi1
        try clear p2
        try clear c3
        try clear c3b0
        try clear c3b1
        try clear c4
        try clear c4b0
        try clear c4b1
        try clear c10
        try clear c10b0
        try clear c10b1
        try clear c10b2
        try clear c13
        try clear c14
        try clear c14b0
        try clear c14b1
        try clear p15
        try clear q15
        try clear hx15
        try clear qi15
        try clear hf15
        try clear hcz7_0
        try clear hcz7_1
        try clear hcz7_2
        try clear hfz7_0
        try clear hfz7_1
        try clear hfz7_2
        try clear hx15_0
        try clear p15
        try clear p2
        try clear q15
        obtain ⟨x5_2, x6_2, rfl, HA, HK2, HO_5, BK168, HB⟩ := hrel
        have hl5_2 := (Kd.R_reads' HO_5.out).1
        rw [hl5_2] at HO_5
        (try simp only [hl5_2])
        (try simp only [hl5_2] at BK168)
        cases gk with
        | zero => exact absurd HA.out (by simp [davitref07_Without.l0])
        | succ k2 =>
         have H := HA.out
         clear HA
         simp only [davitref07_Without.l0] at H
         by_cases c18 : x6_2 = true
         ·subst c18
          have H1 : (davitref07_Without.l1 k2 a1 x5_2 false 0 a0_0 a0_1 l0_2) = some r := by rw [if_pos rfl] at H; exact H
          clear H
          have H := H1
          clear H1
          have H' := Aside0.mk H
          clear H
          go_wp2
          go_loopg [6, 7] k2 (fun kq v6 v7 w' => ∃ (x5_3 : List Bool) (x6_3 : Bool) (x7_3 : Int), v6 = .bool x6_3 ∧ v7 = .int .i64 x7_3 ∧ Aside0 (davitref07_Without.l1 kq a1 x5_3 x6_3 x7_3 a0_0 a0_1 l0_2 = some r) ∧ Aside0 (kq ≤ k2) ∧ Aside0 (Kd.R Kd.bool 4 w' w.heap.size (fun _ => True) (.slice (some ⟨go15, 0, none⟩) x5_2.length co15) x5_3) ∧ Aside0 (w'.heap[gb168]? = some (.cells #[.int .i64 a0_0, .int .i64 a0_1, (.slice A0_2 l0_2.length c0_2)] 24 (0, 0))) ∧ Aside0 (Below w.heap.size w w'))
          case atStart => exact ⟨(x5_2), (false), (0), (by first | rfl | (simp; done) | (simp [*]; done)), (by first | rfl | (simp; done) | (simp [*]; done)), H', ⟨Nat.le_refl _⟩, ⟨by (try simp only [hl5_2]); (with_reducible repeat (first | apply Kd.R_alloc | apply Kd.R_drewN | apply Kd.R_drew)); exact HO_5.out⟩, ⟨by (try simp only [hl5_2]); (with_reducible repeat (first | refine blk_drewN ?_ _ | refine blk_drew ?_ | refine blk_alloc ?_ _)); exact BK168.out⟩, ⟨by repeat (first | (with_reducible first | exact HB.out | apply below_alloc | apply pw_below_drewN | apply below_drew1 | refine below_set ?_ GE168.out) | exact HB.out)⟩⟩
          case round =>
           clear H'
           try clear c1
           try clear p1
           try clear q1
           try clear hx1
           try clear qi1
           try clear p2
           try clear c3
           try clear c3b0
           try clear c3b1
           try clear c4
           try clear c4b0
           try clear c4b1
           try clear c10
           try clear c10b0
           try clear c10b1
           try clear c10b2
           try clear c13
           try clear c14
           try clear c14b0
           try clear c14b1
           try clear p15
           try clear q15
           try clear hx15
           try clear qi15
           try clear hf15
           try clear c18
           try clear hcz7_0
           try clear hcz7_1
           try clear hcz7_2
           try clear hfz7_0
           try clear hfz7_1
           try clear hfz7_2
           try clear hx15_0
           try clear p1
           try clear p15
           try clear p2
           try clear q1
           try clear q15
           obtain ⟨x5_3, x6_3, x7_3, rfl, rfl, HA, HK3, HO_5, BK168, HB⟩ := hrel
           have hl5_3 := (Kd.R_reads' HO_5.out).1
           rw [hl5_3] at HO_5
           (try simp only [hl5_3])
           (try simp only [hl5_3] at BK168)
           cases gk with
           | zero => exact absurd HA.out (by simp [davitref07_Without.l1])
           | succ k3 =>
            have H := HA.out
            clear HA
            simp only [davitref07_Without.l1] at H
            by_cases c19 : x7_3 < (x5_3.length : Int)
            ·rw [if_pos c19] at H
             have c19b0 : decide (x7_3 < (x5_3.length : Int)) = true := decide_eq_true c19
             clear c19
             replace H := Option.bind_eq_some_iff.mp H
             obtain ⟨t173, A200, H⟩ := H
             replace H : (davitref07_Without.l2 k3 a1 x5_3 x6_3 x7_3 t173 0 a0_0 a0_1 l0_2) = some r := H
             have A20 := Aside0.mk A200
             clear A200
             have H' := Aside0.mk H
             clear H
             have hcz21_0 : wr.cell? ⟨gb168, 0, none⟩ = some (.int .i64 a0_0) := (blk_cell BK168.out 0).trans rfl
             have hcz21_1 : wr.cell? ⟨gb168, 1, none⟩ = some (.int .i64 a0_1) := (blk_cell BK168.out 1).trans rfl
             have hcz21_2 : wr.cell? ⟨gb168, 2, none⟩ = some (.slice A0_2 l0_2.length c0_2) := (blk_cell BK168.out 2).trans rfl
             have hfz21_0 := blk_frozen BK168.out 0
             have hfz21_1 := blk_frozen BK168.out 1
             have hfz21_2 := blk_frozen BK168.out 2
             go_wp2_with (first | ((with_reducible refine gate_callee (f := 33) rfl ?_); refine goesL_ (some 33) rfl rfl Try.func33 (by kernel_rfl) rfl #[.agg #[.int .i64 a0_0, .int .i64 a0_1, .slice A0_2 l0_2.length c0_2], .int .i64 x7_3] rfl (by (try simp only [List.map_toArray, List.map_cons, List.map_nil]); first | done | rfl | (simp only [List.length_drop, List.length_take]; rfl)) ?_; (with_reducible refine (davitref07_Next.calls k3 a0_0 a0_1 _ _ l0_2 x7_3 t173 _ ?side1 ?side2 A20.out).mono ?_); (case side1 => repeat (first | exact (Kd.C_below HR0_2.out HB.out) | (with_reducible refine Kd.C_alloc ?_ _) | (with_reducible refine Kd.C_drewN ?_ _) | (with_reducible refine Kd.C_drew ?_))); (case side2 => exact HC0_2.out); rintro e w22 ⟨v174, rfl, ho0, hb⟩; refine ⟨_, rfl, ?_⟩; have n0_ := Aside0.mk (Kd.R_below (by (with_reducible repeat (first | apply Kd.R_alloc | apply Kd.R_drewN | apply Kd.R_drew)); exact HO_5.out) hb); have n1_ := Aside0.mk (Kd.R_lower ho0 (below_size (by repeat (first | (with_reducible first | exact HB.out | apply below_alloc | apply pw_below_drewN | apply below_drew1 | refine below_set ?_ GE168.out) | exact HB.out)))); have n2_ := Aside0.mk (blk_below (g := gb168) (o := .cells #[.int .i64 a0_0, .int .i64 a0_1, .slice A0_2 l0_2.length c0_2] 24 (0, 0)) (by (with_reducible repeat (first | refine blk_drewN ?_ _ | refine blk_drew ?_ | refine blk_alloc ?_ _)); exact BK168.out) hb); have n3_ := Aside0.mk (below_step (by repeat (first | (with_reducible first | exact HB.out | apply below_alloc | apply pw_below_drewN | apply below_drew1 | refine below_set ?_ GE168.out) | exact HB.out)) hb); clear HO_5; clear BK168; clear HB; have HO_5 := n0_; have HO175 := n1_; have BK168 := n2_; have HB := n3_; clear n0_ n1_ n2_ n3_; (try clear hb); (try clear hb2); (try clear hk); (try clear hi); (try clear ho0)))
             go_loopg [6, 9] k3 (fun kq v6 v9 w' => ∃ (x5_4 : List Bool) (x6_4 : Bool) (x9_4 : Int), v6 = .bool x6_4 ∧ v9 = .int .i64 x9_4 ∧ Aside0 (davitref07_Without.l2 kq a1 x5_4 x6_4 x7_3 t173 x9_4 a0_0 a0_1 l0_2 = some r) ∧ Aside0 (kq ≤ k3) ∧ Aside0 (Kd.R Kd.bool 4 w' w.heap.size (fun _ => True) (.slice (some ⟨go15, 0, none⟩) x5_3.length co15) x5_4) ∧ Aside0 (Kd.R (Kd.int .i64) 3 w' w.heap.size (fun _ => True) v174 t173) ∧ Aside0 (w'.heap[gb168]? = some (.cells #[.int .i64 a0_0, .int .i64 a0_1, (.slice A0_2 l0_2.length c0_2)] 24 (0, 0))) ∧ Aside0 (Below w.heap.size w w'))
             case atStart => exact ⟨(x5_3), (x6_3), (0), (by first | rfl | (simp; done) | (simp [*]; done)), (by first | rfl | (simp; done) | (simp [*]; done)), H', ⟨Nat.le_refl _⟩, ⟨by (try simp only [hl5_2]); (try simp only [hl5_3]); (with_reducible repeat (first | apply Kd.R_alloc | apply Kd.R_drewN | apply Kd.R_drew)); exact HO_5.out⟩, ⟨by (try simp only [hl5_2]); (try simp only [hl5_3]); (with_reducible repeat (first | apply Kd.R_alloc | apply Kd.R_drewN | apply Kd.R_drew)); exact HO175.out⟩, ⟨by (try simp only [hl5_2]); (try simp only [hl5_3]); (with_reducible repeat (first | refine blk_drewN ?_ _ | refine blk_drew ?_ | refine blk_alloc ?_ _)); exact BK168.out⟩, ⟨by repeat (first | (with_reducible first | exact HB.out | apply below_alloc | apply pw_below_drewN | apply below_drew1 | refine below_set ?_ GE168.out) | exact HB.out)⟩⟩
             case round =>
              clear H'
              try clear c1
              try clear p1
              try clear q1
              try clear hx1
              try clear qi1
              try clear p2
              try clear c3
              try clear c3b0
              try clear c3b1
              try clear c4
              try clear c4b0
              try clear c4b1
              try clear c10
              try clear c10b0
              try clear c10b1
              try clear c10b2
              try clear c13
              try clear c14
              try clear c14b0
              try clear c14b1
              try clear p15
              try clear q15
              try clear hx15
              try clear qi15
              try clear hf15
              try clear c18
              try clear c19
              try clear c19b0
              try clear hcz21_0
              try clear hcz21_1
              try clear hcz21_2
              try clear hcz7_0
              try clear hcz7_1
              try clear hcz7_2
              try clear hfz21_0
              try clear hfz21_1
              try clear hfz21_2
              try clear hfz7_0
              try clear hfz7_1
              try clear hfz7_2
              try clear hx15_0
              try clear p1
              try clear p15
              try clear p2
              try clear q1
              try clear q15
              obtain ⟨x5_4, x6_4, x9_4, rfl, rfl, HA, HK4, HO_5, HO_8, BK168, HB⟩ := hrel
              have hl5_4 := (Kd.R_reads' HO_5.out).1
              rw [hl5_4] at HO_5
              (try simp only [hl5_4])
              (try simp only [hl5_4] at BK168)
              (try simp only [hl5_4] at HO_8)
              cases gk with
              | zero => exact absurd HA.out (by simp [davitref07_Without.l2])
              | succ k4 =>
               have H := HA.out
               clear HA
               simp only [davitref07_Without.l2] at H
               by_cases c23 : x9_4 < (t173.length : Int)
               ·rw [if_pos c23] at H
                have c23b0 : decide (x9_4 < (t173.length : Int)) = true := decide_eq_true c23
                clear c23
                by_cases c24 : 0 ≤ x7_3
                ·rw [if_pos c24] at H
                 have c24b0 : decide (0 ≤ x7_3) = true := decide_eq_true c24
                 clear c24
                 by_cases c25 : x7_3 < (x5_4.length : Int)
                 ·rw [if_pos c25] at H
                  have c25b0 : decide (x7_3 < (x5_4.length : Int)) = true := decide_eq_true c25
                  clear c25
                  obtain ⟨bq26, hbq26⟩ : ∃ b_ : Bool, b_ = (rdOf false x5_4 x7_3) := ⟨_, rfl⟩
                  replace H : (if bq26 = true then (if 0 ≤ x9_4 then (if (rd t173 x9_4) = a1 then (davitref07_Without.l2 k4 a1 x5_4 x6_4 x7_3 t173 (wrap64 (x9_4 + 1)) a0_0 a0_1 l0_2) else (if 0 ≤ (rd t173 x9_4) then (if (rd t173 x9_4) < (x5_4.length : Int) then (if (rdOf false x5_4 (rd t173 x9_4) = true) then (davitref07_Without.l2 k4 a1 x5_4 x6_4 x7_3 t173 (wrap64 (x9_4 + 1)) a0_0 a0_1 l0_2) else (davitref07_Without.l2 k4 a1 (x5_4.set ((rd t173 x9_4) : Int).toNat true) true x7_3 t173 (wrap64 (x9_4 + 1)) a0_0 a0_1 l0_2)) else (none)) else (none))) else (none)) else (davitref07_Without.l2 k4 a1 x5_4 x6_4 x7_3 t173 (wrap64 (x9_4 + 1)) a0_0 a0_1 l0_2)) = some r := by rw [← hbq26] at H; exact H
                  have Nbq26 := Aside0.mk hbq26
                  clear hbq26
                  by_cases c27 : bq26 = true
                  ·subst c27
                   have H1 : (if 0 ≤ x9_4 then (if (rd t173 x9_4) = a1 then (davitref07_Without.l2 k4 a1 x5_4 x6_4 x7_3 t173 (wrap64 (x9_4 + 1)) a0_0 a0_1 l0_2) else (if 0 ≤ (rd t173 x9_4) then (if (rd t173 x9_4) < (x5_4.length : Int) then (if (rdOf false x5_4 (rd t173 x9_4) = true) then (davitref07_Without.l2 k4 a1 x5_4 x6_4 x7_3 t173 (wrap64 (x9_4 + 1)) a0_0 a0_1 l0_2) else (davitref07_Without.l2 k4 a1 (x5_4.set ((rd t173 x9_4) : Int).toNat true) true x7_3 t173 (wrap64 (x9_4 + 1)) a0_0 a0_1 l0_2)) else (none)) else (none))) else (none)) = some r := by rw [if_pos rfl] at H; exact H
                   clear H
                   have H := H1
                   clear H1
                   by_cases c28 : 0 ≤ x9_4
                   ·rw [if_pos c28] at H
                    have c28b0 : decide (0 ≤ x9_4) = true := decide_eq_true c28
                    clear c28
                    by_cases c29 : (rd t173 x9_4) = a1
                    ·rw [if_pos c29] at H
                     have c29b0 : ((rd t173 x9_4) == a1) = true := beq_iff_eq.mpr c29
                     have c29b1 : ((rd t173 x9_4) != a1) = false := bne_eq_false_iff_eq.mpr c29
                     clear c29
                     have H' := Aside0.mk H
                     clear H
                     obtain ⟨Ao30, co30, eo30⟩ := Kd.R_slice HO_8.out
                     subst eo30
                     have p176 : 0 ≤ (x7_3 : Int) := of_decide_eq_true (by first | (with_reducible assumption) | assumption)
                     have q176 : x7_3 < (x5_4.length : Int) := of_decide_eq_true (by first | (with_reducible assumption) | assumption)
                     obtain ⟨ad176, e176, hx176_0⟩ := Kd.at_bool (Kd.R_reads' HO_5.out).2.2 x7_3 p176 q176
                     (try rw [← Nbq26.out] at hx176_0)
                     obtain rfl : (⟨go15, 0, none⟩ : Addr) = ad176 := (by injection e176)
                     (first | simp only [add_plain] at hx176_0 | simp only [add_at] at hx176_0 | simp only [Addr.add, Nat.zero_add] at hx176_0 | skip)
                     replace p176 := eq_true p176
                     replace q176 := eq_true q176
                     have p177 : 0 ≤ (x9_4 : Int) := of_decide_eq_true (by first | (with_reducible assumption) | assumption)
                     have q177 : x9_4 < (t173.length : Int) := of_decide_eq_true (by first | (with_reducible assumption) | assumption)
                     obtain ⟨ad177, e177, hx177_0⟩ := Kd.at_int (Kd.R_reads' HO_8.out).2.2 x9_4 p177 q177
                     cases e177
                     replace p177 := eq_true p177
                     replace q177 := eq_true q177
                     go_wp2
                     (try simp only [← hl5_4])
                     go_roundg k4
                     case measure => have := HJ4.out; have := HK2.out; have := HK3.out; have := HK4.out; omega
                     case rel => exact ⟨(x5_4), (x6_4), (wrap64 (x9_4 + 1)), (by first | rfl | (simp; done) | (simp [*]; done)), (by first | rfl | (simp; done) | (simp [*]; done)), H', ⟨by have := HJ4.out; have := HK2.out; have := HK3.out; have := HK4.out; omega⟩, ⟨by (try simp only [hl5_2]); (try simp only [hl5_3]); (try simp only [hl5_4]); (with_reducible repeat (first | apply Kd.R_alloc | apply Kd.R_drewN | apply Kd.R_drew)); exact HO_5.out⟩, ⟨by (try simp only [hl5_2]); (try simp only [hl5_3]); (try simp only [hl5_4]); (with_reducible repeat (first | apply Kd.R_alloc | apply Kd.R_drewN | apply Kd.R_drew)); exact HO_8.out⟩, ⟨by (try simp only [hl5_2]); (try simp only [hl5_3]); (try simp only [hl5_4]); (with_reducible repeat (first | refine blk_drewN ?_ _ | refine blk_drew ?_ | refine blk_alloc ?_ _)); exact BK168.out⟩, ⟨by repeat (first | (with_reducible first | exact HB.out | apply below_alloc | apply pw_below_drewN | apply below_drew1 | refine below_set ?_ GE168.out) | exact HB.out)⟩⟩
                    ·rw [if_neg c29] at H
                     have c29b0 : ((rd t173 x9_4) == a1) = false := beq_eq_false_iff_ne.mpr c29
                     have c29b1 : ((rd t173 x9_4) != a1) = true := bne_iff_ne.mpr c29
                     by_cases c31 : 0 ≤ (rd t173 x9_4)
                     ·rw [if_pos c31] at H
                      have c31b0 : decide (0 ≤ (rd t173 x9_4)) = true := decide_eq_true c31
                      clear c31
                      by_cases c32 : (rd t173 x9_4) < (x5_4.length : Int)
                      ·rw [if_pos c32] at H
                       have c32b0 : decide ((rd t173 x9_4) < (x5_4.length : Int)) = true := decide_eq_true c32
                       clear c32
                       obtain ⟨bq33, hbq33⟩ : ∃ b_ : Bool, b_ = (rdOf false x5_4 (rd t173 x9_4)) := ⟨_, rfl⟩
                       replace H : (if (bq33 = true) then (davitref07_Without.l2 k4 a1 x5_4 x6_4 x7_3 t173 (wrap64 (x9_4 + 1)) a0_0 a0_1 l0_2) else (davitref07_Without.l2 k4 a1 (x5_4.set ((rd t173 x9_4) : Int).toNat true) true x7_3 t173 (wrap64 (x9_4 + 1)) a0_0 a0_1 l0_2)) = some r := by rw [← hbq33] at H; exact H
                       have Nbq33 := Aside0.mk hbq33
                       clear hbq33
                       by_cases c34 : (bq33 = true)
                       ·subst c34
                        have H1 : (davitref07_Without.l2 k4 a1 x5_4 x6_4 x7_3 t173 (wrap64 (x9_4 + 1)) a0_0 a0_1 l0_2) = some r := by rw [if_pos rfl] at H; exact H
                        clear H
                        have H := H1
                        clear H1
                        have H' := Aside0.mk H
                        clear H
                        obtain ⟨Ao35, co35, eo35⟩ := Kd.R_slice HO_8.out
                        subst eo35
                        have p176 : 0 ≤ (x7_3 : Int) := of_decide_eq_true (by first | (with_reducible assumption) | assumption)
                        have q176 : x7_3 < (x5_4.length : Int) := of_decide_eq_true (by first | (with_reducible assumption) | assumption)
                        obtain ⟨ad176, e176, hx176_0⟩ := Kd.at_bool (Kd.R_reads' HO_5.out).2.2 x7_3 p176 q176
                        (try rw [← Nbq26.out] at hx176_0)
                        (try rw [← Nbq33.out] at hx176_0)
                        obtain rfl : (⟨go15, 0, none⟩ : Addr) = ad176 := (by injection e176)
                        (first | simp only [add_plain] at hx176_0 | simp only [add_at] at hx176_0 | simp only [Addr.add, Nat.zero_add] at hx176_0 | skip)
                        replace p176 := eq_true p176
                        replace q176 := eq_true q176
                        have p177 : 0 ≤ (x9_4 : Int) := of_decide_eq_true (by first | (with_reducible assumption) | assumption)
                        have q177 : x9_4 < (t173.length : Int) := of_decide_eq_true (by first | (with_reducible assumption) | assumption)
                        obtain ⟨ad177, e177, hx177_0⟩ := Kd.at_int (Kd.R_reads' HO_8.out).2.2 x9_4 p177 q177
                        cases e177
                        replace p177 := eq_true p177
                        replace q177 := eq_true q177
                        have p178 : 0 ≤ (x9_4 : Int) := of_decide_eq_true (by first | (with_reducible assumption) | assumption)
                        have q178 : x9_4 < (t173.length : Int) := of_decide_eq_true (by first | (with_reducible assumption) | assumption)
                        obtain ⟨ad178, e178, hx178_0⟩ := Kd.at_int (Kd.R_reads' HO_8.out).2.2 x9_4 p178 q178
                        obtain rfl : ad177 = ad178 := (by injection e178)
                        replace p178 := eq_true p178
                        replace q178 := eq_true q178
                        have p179 : 0 ≤ ((rd t173 x9_4) : Int) := of_decide_eq_true (by first | (with_reducible assumption) | assumption)
                        have q179 : (rd t173 x9_4) < (x5_4.length : Int) := of_decide_eq_true (by first | (with_reducible assumption) | assumption)
                        obtain ⟨ad179, e179, hx179_0⟩ := Kd.at_bool (Kd.R_reads' HO_5.out).2.2 (rd t173 x9_4) p179 q179
                        (try rw [← Nbq26.out] at hx179_0)
                        (try rw [← Nbq33.out] at hx179_0)
                        obtain rfl : (⟨go15, 0, none⟩ : Addr) = ad179 := (by injection e179)
                        (first | simp only [add_plain] at hx179_0 | simp only [add_at] at hx179_0 | simp only [Addr.add, Nat.zero_add] at hx179_0 | skip)
                        replace p179 := eq_true p179
                        replace q179 := eq_true q179
                        go_wp2
                        (try simp only [← hl5_4])
                        go_roundg k4
                        case measure => have := HJ4.out; have := HK2.out; have := HK3.out; have := HK4.out; omega
                        case rel => exact ⟨(x5_4), (x6_4), (wrap64 (x9_4 + 1)), (by first | rfl | (simp; done) | (simp [*]; done)), (by first | rfl | (simp; done) | (simp [*]; done)), H', ⟨by have := HJ4.out; have := HK2.out; have := HK3.out; have := HK4.out; omega⟩, ⟨by (try simp only [hl5_2]); (try simp only [hl5_3]); (try simp only [hl5_4]); (with_reducible repeat (first | apply Kd.R_alloc | apply Kd.R_drewN | apply Kd.R_drew)); exact HO_5.out⟩, ⟨by (try simp only [hl5_2]); (try simp only [hl5_3]); (try simp only [hl5_4]); (with_reducible repeat (first | apply Kd.R_alloc | apply Kd.R_drewN | apply Kd.R_drew)); exact HO_8.out⟩, ⟨by (try simp only [hl5_2]); (try simp only [hl5_3]); (try simp only [hl5_4]); (with_reducible repeat (first | refine blk_drewN ?_ _ | refine blk_drew ?_ | refine blk_alloc ?_ _)); exact BK168.out⟩, ⟨by repeat (first | (with_reducible first | exact HB.out | apply below_alloc | apply pw_below_drewN | apply below_drew1 | refine below_set ?_ GE168.out) | exact HB.out)⟩⟩
                       ·replace c34 := Bool.eq_false_iff.mpr c34
                        subst c34
                        have H1 : (davitref07_Without.l2 k4 a1 (x5_4.set ((rd t173 x9_4) : Int).toNat true) true x7_3 t173 (wrap64 (x9_4 + 1)) a0_0 a0_1 l0_2) = some r := by rw [if_neg (show ¬ (false = true) by decide)] at H; exact H
                        clear H
                        have H := H1
                        clear H1
                        obtain ⟨y181, hy181⟩ : ∃ y_ : List Bool, y_ = (x5_4.set ((rd t173 x9_4) : Int).toNat true) := ⟨_, rfl⟩
                        replace H : (davitref07_Without.l2 k4 a1 y181 true x7_3 t173 (wrap64 (x9_4 + 1)) a0_0 a0_1 l0_2) = some r := by first | (rw [hy181]; with_reducible exact H) | (have H2_ := (Option.bind_some _ _).symm.trans H; rw [hy181]; with_reducible exact H2_) | (have H2_ := (Option.bind_some _ _).symm.trans H; with_reducible exact H2_) | with_reducible exact H | (rw [hy181]; exact H) | exact H
                        have Ny181 := Aside0.mk hy181
                        clear hy181
                        have H' := Aside0.mk H
                        clear H
                        obtain ⟨Ao37, co37, eo37⟩ := Kd.R_slice HO_8.out
                        subst eo37
                        have p176 : 0 ≤ (x7_3 : Int) := of_decide_eq_true (by first | (with_reducible assumption) | assumption)
                        have q176 : x7_3 < (x5_4.length : Int) := of_decide_eq_true (by first | (with_reducible assumption) | assumption)
                        obtain ⟨ad176, e176, hx176_0⟩ := Kd.at_bool (Kd.R_reads' HO_5.out).2.2 x7_3 p176 q176
                        (try rw [← Nbq26.out] at hx176_0)
                        (try rw [← Nbq33.out] at hx176_0)
                        obtain rfl : (⟨go15, 0, none⟩ : Addr) = ad176 := (by injection e176)
                        (first | simp only [add_plain] at hx176_0 | simp only [add_at] at hx176_0 | simp only [Addr.add, Nat.zero_add] at hx176_0 | skip)
                        replace p176 := eq_true p176
                        replace q176 := eq_true q176
                        have p177 : 0 ≤ (x9_4 : Int) := of_decide_eq_true (by first | (with_reducible assumption) | assumption)
                        have q177 : x9_4 < (t173.length : Int) := of_decide_eq_true (by first | (with_reducible assumption) | assumption)
                        obtain ⟨ad177, e177, hx177_0⟩ := Kd.at_int (Kd.R_reads' HO_8.out).2.2 x9_4 p177 q177
                        cases e177
                        replace p177 := eq_true p177
                        replace q177 := eq_true q177
                        have p178 : 0 ≤ (x9_4 : Int) := of_decide_eq_true (by first | (with_reducible assumption) | assumption)
                        have q178 : x9_4 < (t173.length : Int) := of_decide_eq_true (by first | (with_reducible assumption) | assumption)
                        obtain ⟨ad178, e178, hx178_0⟩ := Kd.at_int (Kd.R_reads' HO_8.out).2.2 x9_4 p178 q178
                        obtain rfl : ad177 = ad178 := (by injection e178)
                        replace p178 := eq_true p178
                        replace q178 := eq_true q178
                        have p179 : 0 ≤ ((rd t173 x9_4) : Int) := of_decide_eq_true (by first | (with_reducible assumption) | assumption)
                        have q179 : (rd t173 x9_4) < (x5_4.length : Int) := of_decide_eq_true (by first | (with_reducible assumption) | assumption)
                        obtain ⟨ad179, e179, hx179_0⟩ := Kd.at_bool (Kd.R_reads' HO_5.out).2.2 (rd t173 x9_4) p179 q179
                        (try rw [← Nbq26.out] at hx179_0)
                        (try rw [← Nbq33.out] at hx179_0)
                        obtain rfl : (⟨go15, 0, none⟩ : Addr) = ad179 := (by injection e179)
                        (first | simp only [add_plain] at hx179_0 | simp only [add_at] at hx179_0 | simp only [Addr.add, Nat.zero_add] at hx179_0 | skip)
                        replace p179 := eq_true p179
                        replace q179 := eq_true q179
                        have p180 : 0 ≤ (x9_4 : Int) := of_decide_eq_true (by first | (with_reducible assumption) | assumption)
                        have q180 : x9_4 < (t173.length : Int) := of_decide_eq_true (by first | (with_reducible assumption) | assumption)
                        obtain ⟨ad180, e180, hx180_0⟩ := Kd.at_int (Kd.R_reads' HO_8.out).2.2 x9_4 p180 q180
                        obtain rfl : ad177 = ad180 := (by injection e180)
                        replace p180 := eq_true p180
                        replace q180 := eq_true q180
                        have p36 : 0 ≤ ((rd t173 x9_4) : Int) := of_decide_eq_true (by first | (with_reducible assumption) | assumption)
                        have q36 : ((rd t173 x9_4) : Int) < ((x5_4.length : Int) : Int) := of_decide_eq_true (by first | (with_reducible assumption) | assumption)
                        obtain ⟨hx36_0, hf36_0⟩ := Kd.R_celln false HO_5.out ((rd t173 x9_4) : Int) p36 q36
                        replace p36 := eq_true p36
                        replace q36 := eq_true q36
                        have HP38 := Kd.R_putg HO_5.out ((rd t173 x9_4) : Int) true
                        go_wp2_with (first | ((with_reducible refine gate_store (t := 4) (p := 67) rfl ?_); refine store_event (t := 4) (p := 67) (v := ?vo_w39) (w1 := (wr.setCell ⟨go15, ((rd t173 x9_4) : Int).toNat, none⟩ (.bool true))) ?hg ?ho ?hn ?hr ?_; (case ho => rfl); (case hg => rfl); (case hn => rfl); (case hr => first | (go_simp; done) | (go_simp; rfl)); intro w39 hw; have hg : wr.grownBy w39 (some go15) := (by rw [hw]; exact HP38.2); have hp_ : Kd.R Kd.bool 4 w39 w.heap.size (fun _ => True) (.slice (some ⟨go15, 0, none⟩) x5_4.length co15) y181 := (by rw [hw, Ny181.out]; exact HP38.1); clear HP38; have n0_ := Aside0.mk (hp_); have n1_ := Aside0.mk (Kd.R_over' (v := (.slice (some ⟨go15, 0, none⟩) x5_4.length co15)) (by (with_reducible repeat (first | apply Kd.R_alloc | apply Kd.R_drewN | apply Kd.R_drew)); exact HO_8.out) (Kd.R_typed HO_5.out) (by decide) hg); have n2_ := Aside0.mk (blk_grown (g := gb168) (o := .cells #[.int .i64 a0_0, .int .i64 a0_1, .slice A0_2 l0_2.length c0_2] 24 (0, 0)) (by (with_reducible repeat (first | refine blk_drewN ?_ _ | refine blk_drew ?_ | refine blk_alloc ?_ _)); exact BK168.out) hg (Kd.R_ne HO_5.out BK168.out (by decide))); have n3_ := Aside0.mk ((by rw [hw]; exact below_set (HB.out) GB15.out : Below w.heap.size w w39)); clear HO_5; clear HO_8; clear BK168; clear HB; have HO_5 := n0_; have HO_8 := n1_; have BK168 := n2_; have HB := n3_; clear n0_ n1_ n2_ n3_; clear hg hw hp_))
                        (try simp only [← hl5_4])
                        go_roundg k4
                        case measure => have := HJ4.out; have := HK2.out; have := HK3.out; have := HK4.out; omega
                        case rel => exact ⟨(y181), (true), (wrap64 (x9_4 + 1)), (by first | rfl | (simp; done) | (simp [*]; done)), (by first | rfl | (simp; done) | (simp [*]; done)), H', ⟨by have := HJ4.out; have := HK2.out; have := HK3.out; have := HK4.out; omega⟩, ⟨by (try simp only [hl5_2]); (try simp only [hl5_3]); (try simp only [hl5_4]); (with_reducible repeat (first | apply Kd.R_alloc | apply Kd.R_drewN | apply Kd.R_drew)); exact HO_5.out⟩, ⟨by (try simp only [hl5_2]); (try simp only [hl5_3]); (try simp only [hl5_4]); (with_reducible repeat (first | apply Kd.R_alloc | apply Kd.R_drewN | apply Kd.R_drew)); exact HO_8.out⟩, ⟨by (try simp only [hl5_2]); (try simp only [hl5_3]); (try simp only [hl5_4]); (with_reducible repeat (first | refine blk_drewN ?_ _ | refine blk_drew ?_ | refine blk_alloc ?_ _)); exact BK168.out⟩, ⟨by repeat (first | (with_reducible first | exact HB.out | apply below_alloc | apply pw_below_drewN | apply below_drew1 | refine below_set ?_ GE168.out) | exact HB.out)⟩⟩
                      ·rw [if_neg c32] at H
                       exact absurd H (by simp)
                     ·rw [if_neg c31] at H
                      exact absurd H (by simp)
                   ·rw [if_neg c28] at H
                    exact absurd H (by simp)
                  ·replace c27 := Bool.eq_false_iff.mpr c27
                   subst c27
                   have H1 : (davitref07_Without.l2 k4 a1 x5_4 x6_4 x7_3 t173 (wrap64 (x9_4 + 1)) a0_0 a0_1 l0_2) = some r := by rw [if_neg (show ¬ (false = true) by decide)] at H; exact H
                   clear H
                   have H := H1
                   clear H1
                   have H' := Aside0.mk H
                   clear H
                   obtain ⟨Ao40, co40, eo40⟩ := Kd.R_slice HO_8.out
                   subst eo40
                   have p176 : 0 ≤ (x7_3 : Int) := of_decide_eq_true (by first | (with_reducible assumption) | assumption)
                   have q176 : x7_3 < (x5_4.length : Int) := of_decide_eq_true (by first | (with_reducible assumption) | assumption)
                   obtain ⟨ad176, e176, hx176_0⟩ := Kd.at_bool (Kd.R_reads' HO_5.out).2.2 x7_3 p176 q176
                   (try rw [← Nbq26.out] at hx176_0)
                   obtain rfl : (⟨go15, 0, none⟩ : Addr) = ad176 := (by injection e176)
                   (first | simp only [add_plain] at hx176_0 | simp only [add_at] at hx176_0 | simp only [Addr.add, Nat.zero_add] at hx176_0 | skip)
                   replace p176 := eq_true p176
                   replace q176 := eq_true q176
                   go_wp2
                   (try simp only [← hl5_4])
                   go_roundg k4
                   case measure => have := HJ4.out; have := HK2.out; have := HK3.out; have := HK4.out; omega
                   case rel => exact ⟨(x5_4), (x6_4), (wrap64 (x9_4 + 1)), (by first | rfl | (simp; done) | (simp [*]; done)), (by first | rfl | (simp; done) | (simp [*]; done)), H', ⟨by have := HJ4.out; have := HK2.out; have := HK3.out; have := HK4.out; omega⟩, ⟨by (try simp only [hl5_2]); (try simp only [hl5_3]); (try simp only [hl5_4]); (with_reducible repeat (first | apply Kd.R_alloc | apply Kd.R_drewN | apply Kd.R_drew)); exact HO_5.out⟩, ⟨by (try simp only [hl5_2]); (try simp only [hl5_3]); (try simp only [hl5_4]); (with_reducible repeat (first | apply Kd.R_alloc | apply Kd.R_drewN | apply Kd.R_drew)); exact HO_8.out⟩, ⟨by (try simp only [hl5_2]); (try simp only [hl5_3]); (try simp only [hl5_4]); (with_reducible repeat (first | refine blk_drewN ?_ _ | refine blk_drew ?_ | refine blk_alloc ?_ _)); exact BK168.out⟩, ⟨by repeat (first | (with_reducible first | exact HB.out | apply below_alloc | apply pw_below_drewN | apply below_drew1 | refine below_set ?_ GE168.out) | exact HB.out)⟩⟩
                 ·rw [if_neg c25] at H
                  exact absurd H (by simp)
                ·rw [if_neg c24] at H
                 exact absurd H (by simp)
               ·rw [if_neg c23] at H
                have c23b0 : decide (x9_4 < (t173.length : Int)) = false := decide_eq_false c23
                clear c23
                have H' := Aside0.mk H
                clear H
                obtain ⟨Ao41, co41, eo41⟩ := Kd.R_slice HO_8.out
                subst eo41
                go_wp2
                (try simp only [← hl5_3, ← hl5_4])
                go_roundg k4
                case measure => have := HJ4.out; have := HK2.out; have := HK3.out; have := HK4.out; omega
                case rel => exact ⟨(x5_4), (x6_4), (wrap64 (x7_3 + 1)), (by first | rfl | (simp; done) | (simp [*]; done)), (by first | rfl | (simp; done) | (simp [*]; done)), H', ⟨by have := HJ4.out; have := HK2.out; have := HK3.out; have := HK4.out; omega⟩, ⟨by (try simp only [hl5_2]); (try simp only [hl5_3]); (try simp only [hl5_4]); (with_reducible repeat (first | apply Kd.R_alloc | apply Kd.R_drewN | apply Kd.R_drew)); exact HO_5.out⟩, ⟨by (try simp only [hl5_2]); (try simp only [hl5_3]); (try simp only [hl5_4]); (with_reducible repeat (first | refine blk_drewN ?_ _ | refine blk_drew ?_ | refine blk_alloc ?_ _)); exact BK168.out⟩, ⟨by repeat (first | (with_reducible first | exact HB.out | apply below_alloc | apply pw_below_drewN | apply below_drew1 | refine below_set ?_ GE168.out) | exact HB.out)⟩⟩
            ·rw [if_neg c19] at H
             have c19b0 : decide (x7_3 < (x5_3.length : Int)) = false := decide_eq_false c19
             clear c19
             have H' := Aside0.mk H
             clear H
             go_wp2
             (try simp only [← hl5_2, ← hl5_3])
             go_roundg k3
             case measure => have := HJ4.out; have := HK2.out; have := HK3.out; omega
             case rel => exact ⟨(x5_3), (x6_3), (by first | rfl | (simp; done) | (simp [*]; done)), H', ⟨by have := HJ4.out; have := HK2.out; have := HK3.out; omega⟩, ⟨by (try simp only [hl5_2]); (try simp only [hl5_3]); (with_reducible repeat (first | apply Kd.R_alloc | apply Kd.R_drewN | apply Kd.R_drew)); exact HO_5.out⟩, ⟨by (try simp only [hl5_2]); (try simp only [hl5_3]); (with_reducible repeat (first | refine blk_drewN ?_ _ | refine blk_drew ?_ | refine blk_alloc ?_ _)); exact BK168.out⟩, ⟨by repeat (first | (with_reducible first | exact HB.out | apply below_alloc | apply pw_below_drewN | apply below_drew1 | refine below_set ?_ GE168.out) | exact HB.out)⟩⟩
         ·replace c18 := Bool.eq_false_iff.mpr c18
          subst c18
          have H1 : (some x5_2) = some r := by rw [if_neg (show ¬ (false = true) by decide)] at H; exact H
          clear H
          have H := H1
          clear H1
          obtain rfl := Option.some.inj H
          go_wp2
          go_ret
          exact ⟨_, by first | rfl | (simp [errW_none, errW_some] <;> rfl) | (simp [*, errW_none, errW_some] <;> rfl), by (with_reducible repeat (first | apply Kd.R_alloc | apply Kd.R_drewN | apply Kd.R_drew)); exact HO_5.out, by repeat (first | (with_reducible first | exact HB.out | apply below_alloc | apply pw_below_drewN | apply below_drew1 | refine below_set ?_ GE168.out) | exact HB.out)⟩
      ·rw [if_neg c14] at H
       exact absurd H (by simp)
  ·rw [if_neg c4] at H
   exact absurd H (by simp)
 ·rw [if_neg c3] at H
  exact absurd H (by simp)
end
end Go.Proofs.Ytilopoegoddggaa.X
namespace Go.Proofs.Ytilopoegoddggaa.X
open Go.RowKit Go.Proofs.YtilopoegoddggaaW.PrintWords Go.Proofs.YtilopoegoddggaaW.PrintLast Go.Proofs.YtilopoegoddggaaW.PrintMore
attribute [local go_sem] max2_int min2_int max_two min_two max_three min_three max_four min_four
set_option linter.all false
noncomputable section
def davitref07_Reached.f (k : Nat) (a0_0 : Int) (a0_1 : Int) (l0_2 : List (S50)) : Option (List Bool) := (davitref07_Without.f k a0_0 a0_1 l0_2 (-1)).bind fun t183 => (some t183)
theorem davitref07_Reached.mono : ∀ a0 a1 a2 k, LeO (davitref07_Reached.f k a0 a1 a2) (davitref07_Reached.f (k + 1) a0 a1 a2) := by
 intro a0 a1 a2 k
 unfold davitref07_Reached.f
 repeat' first
   | (with_reducible exact davitref07_Without.mono _ _ _ _ _)
   | (with_reducible exact LeO.refl _)
   | (with_reducible exact LeO.none _)
   | (with_reducible refine LeO.ite ?_ ?_)
   | (with_reducible refine LeO.bind ?_ (fun _ => ?_))
   | exact davitref07_Without.mono _ _ _ _ _
   | exact LeO.none _
   | refine LeO.ite ?_ ?_
   | refine LeO.bind ?_ (fun _ => ?_)
set_option maxHeartbeats 8000000 in
set_option maxRecDepth 100000 in
theorem davitref07_Reached.calls (k : Nat) (a0_0 : Int) (a0_1 : Int) (A0_2 : Option Addr) (c0_2 : Nat) (l0_2 : List (S50)) (r : List Bool) (w : World) (hr0_2 : Kd.C k50 w A0_2 l0_2.length l0_2) (hc0_2 : l0_2.length ≤ c0_2) (h : davitref07_Reached.f k a0_0 a0_1 l0_2 = some r) :
  Calls Try.prog 29 #[.agg #[.int .i64 a0_0, .int .i64 a0_1, .slice A0_2 l0_2.length c0_2]] w fun e w' => ∃ v0_ : Value, e = .returned (v0_) ∧ Kd.R Kd.bool 4 w' w.heap.size (fun _ => True) v0_ r ∧ Below w.heap.size w w' := by
 have hu24 := Try.underlying24
 have HR0_2 := Aside0.mk hr0_2
 have HC0_2 := Aside0.mk hc0_2
 clear hr0_2 hc0_2
 have HB := Aside0.mk (Below.refl w.heap.size w)
 have H : ((davitref07_Without.f k a0_0 a0_1 l0_2 (-1)).bind fun t183 => (some t183)) = some r := h
 clear h
 replace H := Option.bind_eq_some_iff.mp H
 obtain ⟨t183, A20, H⟩ := H
 replace H : (some t183) = some r := H
 have A2 := Aside0.mk A20
 clear A20
 obtain rfl := Option.some.inj H
 go_enter Try.func29, Try.ntmps29
 go_wp2_with (first | ((with_reducible refine gate_dst (N := 1) rfl ?_); refine box_event ?hg (N := 1) ?hd (cs := #[.int .i64 a0_0, .int .i64 a0_1, .slice A0_2 l0_2.length c0_2]) (t := 24) ?hr ?_; (case hd => rfl); (case hg => rfl); (case hr => first | (go_simp; done) | (go_simp; rfl)); intro gb182 hg w3 hbox hb; have n0_ := Aside0.mk (below_step (by repeat (first | (with_reducible first | exact HB.out | apply below_alloc | apply pw_below_drewN | apply below_drew1) | exact HB.out)) hb); have n1_ := Aside0.mk (hbox); have n2_ := Aside0.mk ((by rw [hg]; exact (below_size (by repeat (first | (with_reducible first | exact HB.out | apply below_alloc | apply pw_below_drewN | apply below_drew1) | exact HB.out))) : w.heap.size ≤ gb182)); have n3_ := Aside0.mk ((by rw [hg]; exact (below_size (by repeat (first | (with_reducible first | exact HB.out | apply below_alloc | apply pw_below_drewN | apply below_drew1) | exact HB.out))) : w.heap.size ≤ gb182)); clear HB; have HB := n0_; have BK182 := n1_; have GW182 := n2_; have GE182 := n3_; clear n0_ n1_ n2_ n3_; clear hb hbox hg; have hcz4_0 : w3.cell? ⟨gb182, 0, none⟩ = some (.int .i64 a0_0) := (blk_cell BK182.out 0).trans rfl; have hcz4_1 : w3.cell? ⟨gb182, 1, none⟩ = some (.int .i64 a0_1) := (blk_cell BK182.out 1).trans rfl; have hcz4_2 : w3.cell? ⟨gb182, 2, none⟩ = some (.slice A0_2 l0_2.length c0_2) := (blk_cell BK182.out 2).trans rfl; have hfz4_0 := blk_frozen BK182.out 0; have hfz4_1 := blk_frozen BK182.out 1; have hfz4_2 := blk_frozen BK182.out 2) | ((with_reducible refine gate_callee (f := 30) rfl ?_); refine goesL_ (some 4) rfl rfl Try.func30 (by kernel_rfl) rfl #[.agg #[.int .i64 a0_0, .int .i64 a0_1, .slice A0_2 l0_2.length c0_2], .int .i64 (-1)] rfl (by (try simp only [List.map_toArray, List.map_cons, List.map_nil]); first | done | rfl | (simp only [List.length_drop, List.length_take]; rfl)) ?_; (with_reducible refine (davitref07_Without.calls k a0_0 a0_1 _ _ l0_2 (-1) t183 _ ?side1 ?side2 A2.out).mono ?_); (case side1 => repeat (first | exact (Kd.C_below HR0_2.out HB.out) | (with_reducible refine Kd.C_alloc ?_ _) | (with_reducible refine Kd.C_drewN ?_ _) | (with_reducible refine Kd.C_drew ?_))); (case side2 => exact HC0_2.out); rintro e w5 ⟨v184, rfl, ho0, hb⟩; refine ⟨_, rfl, ?_⟩; have n0_ := Aside0.mk (Kd.R_lower ho0 (below_size (by repeat (first | (with_reducible first | exact HB.out | apply below_alloc | apply pw_below_drewN | apply below_drew1 | refine below_set ?_ GE182.out) | exact HB.out)))); have n1_ := Aside0.mk (blk_below (g := gb182) (o := .cells #[.int .i64 a0_0, .int .i64 a0_1, .slice A0_2 l0_2.length c0_2] 24 (0, 0)) (by (with_reducible repeat (first | refine blk_drewN ?_ _ | refine blk_drew ?_ | refine blk_alloc ?_ _)); exact BK182.out) hb); have n2_ := Aside0.mk (below_step (by repeat (first | (with_reducible first | exact HB.out | apply below_alloc | apply pw_below_drewN | apply below_drew1 | refine below_set ?_ GE182.out) | exact HB.out)) hb); clear BK182; clear HB; have HO185 := n0_; have BK182 := n1_; have HB := n2_; clear n0_ n1_ n2_; (try clear hb); (try clear hb2); (try clear hk); (try clear hi); (try clear ho0)))
 go_ret
 exact ⟨_, by first | rfl | (simp [errW_none, errW_some] <;> rfl) | (simp [*, errW_none, errW_some] <;> rfl), by (with_reducible repeat (first | apply Kd.R_alloc | apply Kd.R_drewN | apply Kd.R_drew)); exact HO185.out, by repeat (first | (with_reducible first | exact HB.out | apply below_alloc | apply pw_below_drewN | apply below_drew1 | refine below_set ?_ GE182.out) | exact HB.out)⟩
end
end Go.Proofs.Ytilopoegoddggaa.X
