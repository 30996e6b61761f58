/- Part 3 of the proof of the statement LoopNests: the words of the walks, the walks through the functions that it reaches, and the plain laws of what they compute. -/
import Derived.Test.YtilopoegoddggaaMLoopNests1
import Derived.RowKit
namespace Go.Proofs.Ytilopoegoddggaa.X
open Go.RowKit Go.Proofs.YtilopoegoddggaaW.PrintWords Go.Proofs.YtilopoegoddggaaW.PrintLast Go.Proofs.YtilopoegoddggaaW.PrintMore
attribute [local go_sem] max2_int min2_int max_two min_two max_three min_three max_four min_four
set_option linter.all false
noncomputable section
mutual
def davitlaw09_LoopNests.l0 : Nat → List (S40) → Int → Option (Bool)
 | 0, _, _ => none
 | k + 1, x3, x4 => if x4 < (x3.length : Int) then (davitlaw09_LoopNests.l1 k x3 x4 0) else (some true)
def davitlaw09_LoopNests.l1 : Nat → List (S40) → Int → Int → Option (Bool)
 | 0, _, _, _ => none
 | k + 1, x3, x4, x5 => if x5 < x4 then (davitlaw09_LoopNests.l2 k x3 x4 x5 false 0) else (davitlaw09_LoopNests.l0 k x3 (wrap64 (x4 + 1)))
def davitlaw09_LoopNests.l2 : Nat → List (S40) → Int → Int → Bool → Int → Option (Bool)
 | 0, _, _, _, _, _ => none
 | k + 1, x3, x4, x5, x6, x7 => if 0 ≤ x4 then (if x4 < (x3.length : Int) then (if x7 < (((rd_T40 x3 x4).f1).length : Int) then (if x6 = true then (davitlaw09_LoopNests.l2 k x3 x4 x5 true (wrap64 (x7 + 1))) else (if 0 ≤ x5 then (if x5 < (x3.length : Int) then (if 0 ≤ x7 then ((davitref07_Has.f k ((rd_T40 x3 x5).f1) (rd ((rd_T40 x3 x4).f1) x7)).bind fun t454 => (davitlaw09_LoopNests.l2 k x3 x4 x5 t454 (wrap64 (x7 + 1)))) else (none)) else (none)) else (none))) else (if x6 = true then (if 0 ≤ x5 then (if x5 < (x3.length : Int) then ((davitref07_Has.f k ((rd_T40 x3 x4).f1) ((rd_T40 x3 x5).f0)).bind fun t457 => (if t457 = true then (davitlaw09_LoopNests.l1 k x3 x4 (wrap64 (x5 + 1))) else ((davitref07_Has.f k ((rd_T40 x3 x5).f1) ((rd_T40 x3 x4).f0)).bind fun t460 => (if t460 = true then (davitlaw09_LoopNests.l1 k x3 x4 (wrap64 (x5 + 1))) else (some false))))) else (none)) else (none)) else (davitlaw09_LoopNests.l1 k x3 x4 (wrap64 (x5 + 1))))) else (none)) else (none)
end
def davitlaw09_LoopNests.f (k : Nat) (a0_0 : Int) (a0_1 : Int) (l0_2 : List (S50)) : Option (Bool) := (davitlaw09_awake.f k).bind fun t446 => (if t446 = true then (if (l0_2.length : Int) > 30 then (some true) else ((loop_All.f k a0_0 a0_1 l0_2).bind fun t447 => (davitlaw09_LoopNests.l0 k t447 0))) else (some false))
theorem davitlaw09_LoopNests.mono_l : ∀ k, (∀ y0 y1, LeO (davitlaw09_LoopNests.l0 k y0 y1) (davitlaw09_LoopNests.l0 (k + 1) y0 y1)) ∧ (∀ y0 y1 y2, LeO (davitlaw09_LoopNests.l1 k y0 y1 y2) (davitlaw09_LoopNests.l1 (k + 1) y0 y1 y2)) ∧ (∀ y0 y1 y2 y3 y4, LeO (davitlaw09_LoopNests.l2 k y0 y1 y2 y3 y4) (davitlaw09_LoopNests.l2 (k + 1) y0 y1 y2 y3 y4))
 | 0 => ⟨fun _ _ r h => by simp [davitlaw09_LoopNests.l0] at h, fun _ _ _ r h => by simp [davitlaw09_LoopNests.l1] at h, fun _ _ _ _ _ r h => by simp [davitlaw09_LoopNests.l2] at h⟩
 | k + 1 => by
  obtain ⟨ih0, ih1, ih2⟩ := davitlaw09_LoopNests.mono_l k
  refine ⟨?_, ?_, ?_⟩
  ·intro y0 y1
   unfold davitlaw09_LoopNests.l0
   repeat' first
   | (with_reducible exact ih0 _ _)
   | (with_reducible exact ih1 _ _ _)
   | (with_reducible exact ih2 _ _ _ _ _)
   | (with_reducible exact davitlaw09_awake.mono _)
   | (with_reducible exact davitref07_Has.mono _ _ _)
   | (with_reducible exact loop_All.mono _ _ _ _)
   | (with_reducible exact LeO.refl _)
   | (with_reducible exact LeO.none _)
   | (with_reducible refine LeO.ite ?_ ?_)
   | (with_reducible refine LeO.bind ?_ (fun _ => ?_))
   | exact ih0 _ _
   | exact ih1 _ _ _
   | exact ih2 _ _ _ _ _
   | exact davitlaw09_awake.mono _
   | exact davitref07_Has.mono _ _ _
   | exact loop_All.mono _ _ _ _
   | exact LeO.none _
   | refine LeO.ite ?_ ?_
   | refine LeO.bind ?_ (fun _ => ?_)
  ·intro y0 y1 y2
   unfold davitlaw09_LoopNests.l1
   repeat' first
   | (with_reducible exact ih0 _ _)
   | (with_reducible exact ih1 _ _ _)
   | (with_reducible exact ih2 _ _ _ _ _)
   | (with_reducible exact davitlaw09_awake.mono _)
   | (with_reducible exact davitref07_Has.mono _ _ _)
   | (with_reducible exact loop_All.mono _ _ _ _)
   | (with_reducible exact LeO.refl _)
   | (with_reducible exact LeO.none _)
   | (with_reducible refine LeO.ite ?_ ?_)
   | (with_reducible refine LeO.bind ?_ (fun _ => ?_))
   | exact ih0 _ _
   | exact ih1 _ _ _
   | exact ih2 _ _ _ _ _
   | exact davitlaw09_awake.mono _
   | exact davitref07_Has.mono _ _ _
   | exact loop_All.mono _ _ _ _
   | exact LeO.none _
   | refine LeO.ite ?_ ?_
   | refine LeO.bind ?_ (fun _ => ?_)
  ·intro y0 y1 y2 y3 y4
   unfold davitlaw09_LoopNests.l2
   repeat' first
   | (with_reducible exact ih0 _ _)
   | (with_reducible exact ih1 _ _ _)
   | (with_reducible exact ih2 _ _ _ _ _)
   | (with_reducible exact davitlaw09_awake.mono _)
   | (with_reducible exact davitref07_Has.mono _ _ _)
   | (with_reducible exact loop_All.mono _ _ _ _)
   | (with_reducible exact LeO.refl _)
   | (with_reducible exact LeO.none _)
   | (with_reducible refine LeO.ite ?_ ?_)
   | (with_reducible refine LeO.bind ?_ (fun _ => ?_))
   | exact ih0 _ _
   | exact ih1 _ _ _
   | exact ih2 _ _ _ _ _
   | exact davitlaw09_awake.mono _
   | exact davitref07_Has.mono _ _ _
   | exact loop_All.mono _ _ _ _
   | exact LeO.none _
   | refine LeO.ite ?_ ?_
   | refine LeO.bind ?_ (fun _ => ?_)
theorem davitlaw09_LoopNests.mono : ∀ a0 a1 a2 k, LeO (davitlaw09_LoopNests.f k a0 a1 a2) (davitlaw09_LoopNests.f (k + 1) a0 a1 a2) := by
 intro a0 a1 a2 k
 obtain ⟨ih0, ih1, ih2⟩ := davitlaw09_LoopNests.mono_l k
 unfold davitlaw09_LoopNests.f
 repeat' first
   | (with_reducible exact ih0 _ _)
   | (with_reducible exact ih1 _ _ _)
   | (with_reducible exact ih2 _ _ _ _ _)
   | (with_reducible exact davitlaw09_awake.mono _)
   | (with_reducible exact davitref07_Has.mono _ _ _)
   | (with_reducible exact loop_All.mono _ _ _ _)
   | (with_reducible exact LeO.refl _)
   | (with_reducible exact LeO.none _)
   | (with_reducible refine LeO.ite ?_ ?_)
   | (with_reducible refine LeO.bind ?_ (fun _ => ?_))
   | exact ih0 _ _
   | exact ih1 _ _ _
   | exact ih2 _ _ _ _ _
   | exact davitlaw09_awake.mono _
   | exact davitref07_Has.mono _ _ _
   | exact loop_All.mono _ _ _ _
   | exact LeO.none _
   | refine LeO.ite ?_ ?_
   | refine LeO.bind ?_ (fun _ => ?_)
set_option maxHeartbeats 8000000 in
set_option maxRecDepth 100000 in
theorem davitlaw09_LoopNests.calls (k : Nat) (a0_0 : Int) (a0_1 : Int) (A0_2 : Option Addr) (c0_2 : Nat) (l0_2 : List (S50)) (r : Bool) (w : World) (hr0_2 : Kd.C k50 w A0_2 l0_2.length l0_2) (hc0_2 : l0_2.length ≤ c0_2) (h : davitlaw09_LoopNests.f k a0_0 a0_1 l0_2 = some r) :
  Calls Try.prog 9 #[.agg #[.int .i64 a0_0, .int .i64 a0_1, .slice A0_2 l0_2.length c0_2]] w fun e w' => e = .returned (.bool r) ∧ Below w.heap.size w w' := by
 have hu24 := Try.underlying24
 have HR0_2 := Aside0.mk hr0_2
 have HC0_2 := Aside0.mk hc0_2
 clear hr0_2 hc0_2
 have HB := Aside0.mk (Below.refl w.heap.size w)
 have H : ((davitlaw09_awake.f k).bind fun t446 => (if t446 = true then (if (l0_2.length : Int) > 30 then (some true) else ((loop_All.f k a0_0 a0_1 l0_2).bind fun t447 => (davitlaw09_LoopNests.l0 k t447 0))) else (some false))) = some r := h
 clear h
 replace H := Option.bind_eq_some_iff.mp H
 obtain ⟨t446, A20, H⟩ := H
 replace H : (if t446 = true then (if (l0_2.length : Int) > 30 then (some true) else ((loop_All.f k a0_0 a0_1 l0_2).bind fun t447 => (davitlaw09_LoopNests.l0 k t447 0))) else (some false)) = some r := H
 have A2 := Aside0.mk A20
 clear A20
 by_cases c3 : t446 = true
 ·subst c3
  have H1 : (if (l0_2.length : Int) > 30 then (some true) else ((loop_All.f k a0_0 a0_1 l0_2).bind fun t447 => (davitlaw09_LoopNests.l0 k t447 0))) = some r := by rw [if_pos rfl] at H; exact H
  clear H
  have H := H1
  clear H1
  by_cases c4 : (l0_2.length : Int) > 30
  ·rw [if_pos c4] at H
   have c4b0 : decide (30 < (l0_2.length : Int)) = true := decide_eq_true c4
   have c4b1 : decide (30 < l0_2.length) = true := decide_eq_true (by omega)
   clear c4
   obtain rfl := Option.some.inj H
   go_enter Try.func9, Try.ntmps9
   go_wp2_with (first | ((with_reducible refine gate_dst (N := 1) rfl ?_); refine box_event ?hg (N := 1) ?hd (cs := #[.int .i64 a0_0, .int .i64 a0_1, .slice A0_2 l0_2.length c0_2]) (t := 24) ?hr ?_; (case hd => rfl); (case hg => rfl); (case hr => first | (go_simp; done) | (go_simp; rfl)); intro gb445 hg w5 hbox hb; have n0_ := Aside0.mk (below_step (by repeat (first | (with_reducible first | exact HB.out | apply below_alloc | apply pw_below_drewN | apply below_drew1) | exact HB.out)) hb); have n1_ := Aside0.mk (hbox); have n2_ := Aside0.mk ((by rw [hg]; exact (below_size (by repeat (first | (with_reducible first | exact HB.out | apply below_alloc | apply pw_below_drewN | apply below_drew1) | exact HB.out))) : w.heap.size ≤ gb445)); have n3_ := Aside0.mk ((by rw [hg]; exact (below_size (by repeat (first | (with_reducible first | exact HB.out | apply below_alloc | apply pw_below_drewN | apply below_drew1) | exact HB.out))) : w.heap.size ≤ gb445)); clear HB; have HB := n0_; have BK445 := n1_; have GW445 := n2_; have GE445 := n3_; clear n0_ n1_ n2_ n3_; clear hb hbox hg) | (go_at_call 22; (with_reducible refine (davitlaw09_awake.calls k  true _ A2.out).mono ?_); rintro e w6 ⟨rfl, hb⟩; have n0_ := Aside0.mk (blk_below (g := gb445) (o := .cells #[.int .i64 a0_0, .int .i64 a0_1, .slice A0_2 l0_2.length c0_2] 24 (0, 0)) (by (with_reducible repeat (first | refine blk_drewN ?_ _ | refine blk_drew ?_ | refine blk_alloc ?_ _)); exact BK445.out) hb); have n1_ := Aside0.mk (below_step (by repeat (first | (with_reducible first | exact HB.out | apply below_alloc | apply pw_below_drewN | apply below_drew1 | refine below_set ?_ GE445.out) | exact HB.out)) hb); clear BK445; clear HB; have BK445 := n0_; have HB := n1_; clear n0_ n1_; (try clear hb); (try clear hb2); (try clear hk); (try clear hi); have hcz7_0 : w6.cell? ⟨gb445, 0, none⟩ = some (.int .i64 a0_0) := (blk_cell BK445.out 0).trans rfl; have hcz7_1 : w6.cell? ⟨gb445, 1, none⟩ = some (.int .i64 a0_1) := (blk_cell BK445.out 1).trans rfl; have hcz7_2 : w6.cell? ⟨gb445, 2, none⟩ = some (.slice A0_2 l0_2.length c0_2) := (blk_cell BK445.out 2).trans rfl; have hfz7_0 := blk_frozen BK445.out 0; have hfz7_1 := blk_frozen BK445.out 1; have hfz7_2 := blk_frozen BK445.out 2))
   repeat (go_quiet (first | ((with_reducible refine gate_dst (N := 1) rfl ?_); refine box_event ?hg (N := 1) ?hd (cs := #[.int .i64 a0_0, .int .i64 a0_1, .slice A0_2 l0_2.length c0_2]) (t := 24) ?hr ?_; (case hd => rfl); (case hg => rfl); (case hr => first | (go_simp; done) | (go_simp; rfl)); intro gb445 hg w5 hbox hb; have n0_ := Aside0.mk (below_step (by repeat (first | (with_reducible first | exact HB.out | apply below_alloc | apply pw_below_drewN | apply below_drew1) | exact HB.out)) hb); have n1_ := Aside0.mk (hbox); have n2_ := Aside0.mk ((by rw [hg]; exact (below_size (by repeat (first | (with_reducible first | exact HB.out | apply below_alloc | apply pw_below_drewN | apply below_drew1) | exact HB.out))) : w.heap.size ≤ gb445)); have n3_ := Aside0.mk ((by rw [hg]; exact (below_size (by repeat (first | (with_reducible first | exact HB.out | apply below_alloc | apply pw_below_drewN | apply below_drew1) | exact HB.out))) : w.heap.size ≤ gb445)); clear HB; have HB := n0_; have BK445 := n1_; have GW445 := n2_; have GE445 := n3_; clear n0_ n1_ n2_ n3_; clear hb hbox hg) | (go_at_call 22; (with_reducible refine (davitlaw09_awake.calls k  true _ A2.out).mono ?_); rintro e w6 ⟨rfl, hb⟩; have n0_ := Aside0.mk (blk_below (g := gb445) (o := .cells #[.int .i64 a0_0, .int .i64 a0_1, .slice A0_2 l0_2.length c0_2] 24 (0, 0)) (by (with_reducible repeat (first | refine blk_drewN ?_ _ | refine blk_drew ?_ | refine blk_alloc ?_ _)); exact BK445.out) hb); have n1_ := Aside0.mk (below_step (by repeat (first | (with_reducible first | exact HB.out | apply below_alloc | apply pw_below_drewN | apply below_drew1 | refine below_set ?_ GE445.out) | exact HB.out)) hb); clear BK445; clear HB; have BK445 := n0_; have HB := n1_; clear n0_ n1_; (try clear hb); (try clear hb2); (try clear hk); (try clear hi); have hcz7_0 : w6.cell? ⟨gb445, 0, none⟩ = some (.int .i64 a0_0) := (blk_cell BK445.out 0).trans rfl; have hcz7_1 : w6.cell? ⟨gb445, 1, none⟩ = some (.int .i64 a0_1) := (blk_cell BK445.out 1).trans rfl; have hcz7_2 : w6.cell? ⟨gb445, 2, none⟩ = some (.slice A0_2 l0_2.length c0_2) := (blk_cell BK445.out 2).trans rfl; have hfz7_0 := blk_frozen BK445.out 0; have hfz7_1 := blk_frozen BK445.out 1; have hfz7_2 := blk_frozen BK445.out 2)); try go_wp2_with (first | ((with_reducible refine gate_dst (N := 1) rfl ?_); refine box_event ?hg (N := 1) ?hd (cs := #[.int .i64 a0_0, .int .i64 a0_1, .slice A0_2 l0_2.length c0_2]) (t := 24) ?hr ?_; (case hd => rfl); (case hg => rfl); (case hr => first | (go_simp; done) | (go_simp; rfl)); intro gb445 hg w5 hbox hb; have n0_ := Aside0.mk (below_step (by repeat (first | (with_reducible first | exact HB.out | apply below_alloc | apply pw_below_drewN | apply below_drew1) | exact HB.out)) hb); have n1_ := Aside0.mk (hbox); have n2_ := Aside0.mk ((by rw [hg]; exact (below_size (by repeat (first | (with_reducible first | exact HB.out | apply below_alloc | apply pw_below_drewN | apply below_drew1) | exact HB.out))) : w.heap.size ≤ gb445)); have n3_ := Aside0.mk ((by rw [hg]; exact (below_size (by repeat (first | (with_reducible first | exact HB.out | apply below_alloc | apply pw_below_drewN | apply below_drew1) | exact HB.out))) : w.heap.size ≤ gb445)); clear HB; have HB := n0_; have BK445 := n1_; have GW445 := n2_; have GE445 := n3_; clear n0_ n1_ n2_ n3_; clear hb hbox hg) | (go_at_call 22; (with_reducible refine (davitlaw09_awake.calls k  true _ A2.out).mono ?_); rintro e w6 ⟨rfl, hb⟩; have n0_ := Aside0.mk (blk_below (g := gb445) (o := .cells #[.int .i64 a0_0, .int .i64 a0_1, .slice A0_2 l0_2.length c0_2] 24 (0, 0)) (by (with_reducible repeat (first | refine blk_drewN ?_ _ | refine blk_drew ?_ | refine blk_alloc ?_ _)); exact BK445.out) hb); have n1_ := Aside0.mk (below_step (by repeat (first | (with_reducible first | exact HB.out | apply below_alloc | apply pw_below_drewN | apply below_drew1 | refine below_set ?_ GE445.out) | exact HB.out)) hb); clear BK445; clear HB; have BK445 := n0_; have HB := n1_; clear n0_ n1_; (try clear hb); (try clear hb2); (try clear hk); (try clear hi); have hcz7_0 : w6.cell? ⟨gb445, 0, none⟩ = some (.int .i64 a0_0) := (blk_cell BK445.out 0).trans rfl; have hcz7_1 : w6.cell? ⟨gb445, 1, none⟩ = some (.int .i64 a0_1) := (blk_cell BK445.out 1).trans rfl; have hcz7_2 : w6.cell? ⟨gb445, 2, none⟩ = some (.slice A0_2 l0_2.length c0_2) := (blk_cell BK445.out 2).trans rfl; have hfz7_0 := blk_frozen BK445.out 0; have hfz7_1 := blk_frozen BK445.out 1; have hfz7_2 := blk_frozen BK445.out 2)))
   go_ret
   exact ⟨by first | rfl | (simp [errW_none, errW_some] <;> rfl) | (simp [*, errW_none, errW_some] <;> rfl), by repeat (first | (with_reducible first | exact HB.out | apply below_alloc | apply pw_below_drewN | apply below_drew1 | refine below_set ?_ GE445.out) | exact HB.out)⟩
  ·rw [if_neg c4] at H
   have c4b0 : decide (30 < (l0_2.length : Int)) = false := decide_eq_false c4
   have c4b1 : decide (30 < l0_2.length) = false := decide_eq_false (by omega)
   clear c4
   replace H := Option.bind_eq_some_iff.mp H
   obtain ⟨t447, A80, H⟩ := H
   replace H : (davitlaw09_LoopNests.l0 k t447 0) = some r := H
   have A8 := Aside0.mk A80
   clear A80
   have H' := Aside0.mk H
   clear H
   go_enter Try.func9, Try.ntmps9
   go_wp2_with (first | ((with_reducible refine gate_dst (N := 1) rfl ?_); refine box_event ?hg (N := 1) ?hd (cs := #[.int .i64 a0_0, .int .i64 a0_1, .slice A0_2 l0_2.length c0_2]) (t := 24) ?hr ?_; (case hd => rfl); (case hg => rfl); (case hr => first | (go_simp; done) | (go_simp; rfl)); intro gb445 hg w9 hbox hb; have n0_ := Aside0.mk (below_step (by repeat (first | (with_reducible first | exact HB.out | apply below_alloc | apply pw_below_drewN | apply below_drew1) | exact HB.out)) hb); have n1_ := Aside0.mk (hbox); have n2_ := Aside0.mk ((by rw [hg]; exact (below_size (by repeat (first | (with_reducible first | exact HB.out | apply below_alloc | apply pw_below_drewN | apply below_drew1) | exact HB.out))) : w.heap.size ≤ gb445)); have n3_ := Aside0.mk ((by rw [hg]; exact (below_size (by repeat (first | (with_reducible first | exact HB.out | apply below_alloc | apply pw_below_drewN | apply below_drew1) | exact HB.out))) : w.heap.size ≤ gb445)); clear HB; have HB := n0_; have BK445 := n1_; have GW445 := n2_; have GE445 := n3_; clear n0_ n1_ n2_ n3_; clear hb hbox hg) | (go_at_call 22; (with_reducible refine (davitlaw09_awake.calls k  true _ A2.out).mono ?_); rintro e w10 ⟨rfl, hb⟩; have n0_ := Aside0.mk (blk_below (g := gb445) (o := .cells #[.int .i64 a0_0, .int .i64 a0_1, .slice A0_2 l0_2.length c0_2] 24 (0, 0)) (by (with_reducible repeat (first | refine blk_drewN ?_ _ | refine blk_drew ?_ | refine blk_alloc ?_ _)); exact BK445.out) hb); have n1_ := Aside0.mk (below_step (by repeat (first | (with_reducible first | exact HB.out | apply below_alloc | apply pw_below_drewN | apply below_drew1 | refine below_set ?_ GE445.out) | exact HB.out)) hb); clear BK445; clear HB; have BK445 := n0_; have HB := n1_; clear n0_ n1_; (try clear hb); (try clear hb2); (try clear hk); (try clear hi); have hcz11_0 : w10.cell? ⟨gb445, 0, none⟩ = some (.int .i64 a0_0) := (blk_cell BK445.out 0).trans rfl; have hcz11_1 : w10.cell? ⟨gb445, 1, none⟩ = some (.int .i64 a0_1) := (blk_cell BK445.out 1).trans rfl; have hcz11_2 : w10.cell? ⟨gb445, 2, none⟩ = some (.slice A0_2 l0_2.length c0_2) := (blk_cell BK445.out 2).trans rfl; have hfz11_0 := blk_frozen BK445.out 0; have hfz11_1 := blk_frozen BK445.out 1; have hfz11_2 := blk_frozen BK445.out 2) | (go_at_call 23; (with_reducible refine (loop_All.calls k a0_0 a0_1 _ _ l0_2 t447 _ ?side1 ?side2 A8.out).mono ?_); (case side1 => repeat (first | exact (Kd.C_below HR0_2.out HB.out) | (with_reducible refine Kd.C_alloc ?_ _) | (with_reducible refine Kd.C_drewN ?_ _) | (with_reducible refine Kd.C_drew ?_))); (case side2 => exact HC0_2.out); rintro e w12 ⟨v448, rfl, ho0, hb⟩; have n0_ := Aside0.mk (Kd.S_lower ho0 (below_size (by repeat (first | (with_reducible first | exact HB.out | apply below_alloc | apply pw_below_drewN | apply below_drew1 | refine below_set ?_ GE445.out) | exact HB.out)))); have n1_ := Aside0.mk (blk_below (g := gb445) (o := .cells #[.int .i64 a0_0, .int .i64 a0_1, .slice A0_2 l0_2.length c0_2] 24 (0, 0)) (by (with_reducible repeat (first | refine blk_drewN ?_ _ | refine blk_drew ?_ | refine blk_alloc ?_ _)); exact BK445.out) hb); have n2_ := Aside0.mk (below_step (by repeat (first | (with_reducible first | exact HB.out | apply below_alloc | apply pw_below_drewN | apply below_drew1 | refine below_set ?_ GE445.out) | exact HB.out)) hb); clear BK445; clear HB; have HO449 := n0_; have BK445 := n1_; have HB := n2_; clear n0_ n1_ n2_; (try clear hb); (try clear hb2); (try clear hk); (try clear hi); (try clear ho0)))
   repeat (go_quiet (first | ((with_reducible refine gate_dst (N := 1) rfl ?_); refine box_event ?hg (N := 1) ?hd (cs := #[.int .i64 a0_0, .int .i64 a0_1, .slice A0_2 l0_2.length c0_2]) (t := 24) ?hr ?_; (case hd => rfl); (case hg => rfl); (case hr => first | (go_simp; done) | (go_simp; rfl)); intro gb445 hg w9 hbox hb; have n0_ := Aside0.mk (below_step (by repeat (first | (with_reducible first | exact HB.out | apply below_alloc | apply pw_below_drewN | apply below_drew1) | exact HB.out)) hb); have n1_ := Aside0.mk (hbox); have n2_ := Aside0.mk ((by rw [hg]; exact (below_size (by repeat (first | (with_reducible first | exact HB.out | apply below_alloc | apply pw_below_drewN | apply below_drew1) | exact HB.out))) : w.heap.size ≤ gb445)); have n3_ := Aside0.mk ((by rw [hg]; exact (below_size (by repeat (first | (with_reducible first | exact HB.out | apply below_alloc | apply pw_below_drewN | apply below_drew1) | exact HB.out))) : w.heap.size ≤ gb445)); clear HB; have HB := n0_; have BK445 := n1_; have GW445 := n2_; have GE445 := n3_; clear n0_ n1_ n2_ n3_; clear hb hbox hg) | (go_at_call 22; (with_reducible refine (davitlaw09_awake.calls k  true _ A2.out).mono ?_); rintro e w10 ⟨rfl, hb⟩; have n0_ := Aside0.mk (blk_below (g := gb445) (o := .cells #[.int .i64 a0_0, .int .i64 a0_1, .slice A0_2 l0_2.length c0_2] 24 (0, 0)) (by (with_reducible repeat (first | refine blk_drewN ?_ _ | refine blk_drew ?_ | refine blk_alloc ?_ _)); exact BK445.out) hb); have n1_ := Aside0.mk (below_step (by repeat (first | (with_reducible first | exact HB.out | apply below_alloc | apply pw_below_drewN | apply below_drew1 | refine below_set ?_ GE445.out) | exact HB.out)) hb); clear BK445; clear HB; have BK445 := n0_; have HB := n1_; clear n0_ n1_; (try clear hb); (try clear hb2); (try clear hk); (try clear hi); have hcz11_0 : w10.cell? ⟨gb445, 0, none⟩ = some (.int .i64 a0_0) := (blk_cell BK445.out 0).trans rfl; have hcz11_1 : w10.cell? ⟨gb445, 1, none⟩ = some (.int .i64 a0_1) := (blk_cell BK445.out 1).trans rfl; have hcz11_2 : w10.cell? ⟨gb445, 2, none⟩ = some (.slice A0_2 l0_2.length c0_2) := (blk_cell BK445.out 2).trans rfl; have hfz11_0 := blk_frozen BK445.out 0; have hfz11_1 := blk_frozen BK445.out 1; have hfz11_2 := blk_frozen BK445.out 2) | (go_at_call 23; (with_reducible refine (loop_All.calls k a0_0 a0_1 _ _ l0_2 t447 _ ?side1 ?side2 A8.out).mono ?_); (case side1 => repeat (first | exact (Kd.C_below HR0_2.out HB.out) | (with_reducible refine Kd.C_alloc ?_ _) | (with_reducible refine Kd.C_drewN ?_ _) | (with_reducible refine Kd.C_drew ?_))); (case side2 => exact HC0_2.out); rintro e w12 ⟨v448, rfl, ho0, hb⟩; have n0_ := Aside0.mk (Kd.S_lower ho0 (below_size (by repeat (first | (with_reducible first | exact HB.out | apply below_alloc | apply pw_below_drewN | apply below_drew1 | refine below_set ?_ GE445.out) | exact HB.out)))); have n1_ := Aside0.mk (blk_below (g := gb445) (o := .cells #[.int .i64 a0_0, .int .i64 a0_1, .slice A0_2 l0_2.length c0_2] 24 (0, 0)) (by (with_reducible repeat (first | refine blk_drewN ?_ _ | refine blk_drew ?_ | refine blk_alloc ?_ _)); exact BK445.out) hb); have n2_ := Aside0.mk (below_step (by repeat (first | (with_reducible first | exact HB.out | apply below_alloc | apply pw_below_drewN | apply below_drew1 | refine below_set ?_ GE445.out) | exact HB.out)) hb); clear BK445; clear HB; have HO449 := n0_; have BK445 := n1_; have HB := n2_; clear n0_ n1_ n2_; (try clear hb); (try clear hb2); (try clear hk); (try clear hi); (try clear ho0))); try go_wp2_with (first | ((with_reducible refine gate_dst (N := 1) rfl ?_); refine box_event ?hg (N := 1) ?hd (cs := #[.int .i64 a0_0, .int .i64 a0_1, .slice A0_2 l0_2.length c0_2]) (t := 24) ?hr ?_; (case hd => rfl); (case hg => rfl); (case hr => first | (go_simp; done) | (go_simp; rfl)); intro gb445 hg w9 hbox hb; have n0_ := Aside0.mk (below_step (by repeat (first | (with_reducible first | exact HB.out | apply below_alloc | apply pw_below_drewN | apply below_drew1) | exact HB.out)) hb); have n1_ := Aside0.mk (hbox); have n2_ := Aside0.mk ((by rw [hg]; exact (below_size (by repeat (first | (with_reducible first | exact HB.out | apply below_alloc | apply pw_below_drewN | apply below_drew1) | exact HB.out))) : w.heap.size ≤ gb445)); have n3_ := Aside0.mk ((by rw [hg]; exact (below_size (by repeat (first | (with_reducible first | exact HB.out | apply below_alloc | apply pw_below_drewN | apply below_drew1) | exact HB.out))) : w.heap.size ≤ gb445)); clear HB; have HB := n0_; have BK445 := n1_; have GW445 := n2_; have GE445 := n3_; clear n0_ n1_ n2_ n3_; clear hb hbox hg) | (go_at_call 22; (with_reducible refine (davitlaw09_awake.calls k  true _ A2.out).mono ?_); rintro e w10 ⟨rfl, hb⟩; have n0_ := Aside0.mk (blk_below (g := gb445) (o := .cells #[.int .i64 a0_0, .int .i64 a0_1, .slice A0_2 l0_2.length c0_2] 24 (0, 0)) (by (with_reducible repeat (first | refine blk_drewN ?_ _ | refine blk_drew ?_ | refine blk_alloc ?_ _)); exact BK445.out) hb); have n1_ := Aside0.mk (below_step (by repeat (first | (with_reducible first | exact HB.out | apply below_alloc | apply pw_below_drewN | apply below_drew1 | refine below_set ?_ GE445.out) | exact HB.out)) hb); clear BK445; clear HB; have BK445 := n0_; have HB := n1_; clear n0_ n1_; (try clear hb); (try clear hb2); (try clear hk); (try clear hi); have hcz11_0 : w10.cell? ⟨gb445, 0, none⟩ = some (.int .i64 a0_0) := (blk_cell BK445.out 0).trans rfl; have hcz11_1 : w10.cell? ⟨gb445, 1, none⟩ = some (.int .i64 a0_1) := (blk_cell BK445.out 1).trans rfl; have hcz11_2 : w10.cell? ⟨gb445, 2, none⟩ = some (.slice A0_2 l0_2.length c0_2) := (blk_cell BK445.out 2).trans rfl; have hfz11_0 := blk_frozen BK445.out 0; have hfz11_1 := blk_frozen BK445.out 1; have hfz11_2 := blk_frozen BK445.out 2) | (go_at_call 23; (with_reducible refine (loop_All.calls k a0_0 a0_1 _ _ l0_2 t447 _ ?side1 ?side2 A8.out).mono ?_); (case side1 => repeat (first | exact (Kd.C_below HR0_2.out HB.out) | (with_reducible refine Kd.C_alloc ?_ _) | (with_reducible refine Kd.C_drewN ?_ _) | (with_reducible refine Kd.C_drew ?_))); (case side2 => exact HC0_2.out); rintro e w12 ⟨v448, rfl, ho0, hb⟩; have n0_ := Aside0.mk (Kd.S_lower ho0 (below_size (by repeat (first | (with_reducible first | exact HB.out | apply below_alloc | apply pw_below_drewN | apply below_drew1 | refine below_set ?_ GE445.out) | exact HB.out)))); have n1_ := Aside0.mk (blk_below (g := gb445) (o := .cells #[.int .i64 a0_0, .int .i64 a0_1, .slice A0_2 l0_2.length c0_2] 24 (0, 0)) (by (with_reducible repeat (first | refine blk_drewN ?_ _ | refine blk_drew ?_ | refine blk_alloc ?_ _)); exact BK445.out) hb); have n2_ := Aside0.mk (below_step (by repeat (first | (with_reducible first | exact HB.out | apply below_alloc | apply pw_below_drewN | apply below_drew1 | refine below_set ?_ GE445.out) | exact HB.out)) hb); clear BK445; clear HB; have HO449 := n0_; have BK445 := n1_; have HB := n2_; clear n0_ n1_ n2_; (try clear hb); (try clear hb2); (try clear hk); (try clear hi); (try clear ho0))))
   go_loopg [4] k (fun kq v4 w' => ∃ (x4_1 : Int), v4 = .int .i64 x4_1 ∧ Aside0 (davitlaw09_LoopNests.l0 kq t447 x4_1 = some r) ∧ Aside0 (kq ≤ k) ∧ Aside0 (Kd.S k40 40 w' w.heap.size (fun _ => True) v448 t447) ∧ Aside0 (w'.heap[gb445]? = some (.cells #[.int .i64 a0_0, .int .i64 a0_1, (.slice A0_2 l0_2.length c0_2)] 24 (0, 0))) ∧ Aside0 (Below w.heap.size w w'))
   case atStart => exact ⟨(0), (by first | rfl | (simp; done) | (simp [*]; done)), H', ⟨Nat.le_refl _⟩, ⟨by (with_reducible repeat (first | apply Kd.S_alloc | apply Kd.S_drewN | apply Kd.S_drew)); exact HO449.out⟩, ⟨by (with_reducible repeat (first | refine blk_drewN ?_ _ | refine blk_drew ?_ | refine blk_alloc ?_ _)); exact BK445.out⟩, ⟨by repeat (first | (with_reducible first | exact HB.out | apply below_alloc | apply pw_below_drewN | apply below_drew1 | refine below_set ?_ GE445.out) | exact HB.out)⟩⟩
   case round =>
    clear H'
    try clear p2
    try clear c3
    try clear c4
    try clear c4b0
    try clear c4b1
    try clear c9
    try clear hcz11_0
    try clear hcz11_1
    try clear hcz11_2
    try clear hcz7_0
    try clear hcz7_1
    try clear hcz7_2
    try clear hfz11_0
    try clear hfz11_1
    try clear hfz11_2
    try clear hfz7_0
    try clear hfz7_1
    try clear hfz7_2
    obtain ⟨x4_1, rfl, HA, HK1, HO_3, BK445, HB⟩ := hrel
    cases gk with
    | zero => exact absurd HA.out (by simp [davitlaw09_LoopNests.l0])
    | succ k1 =>
     have H := HA.out
     clear HA
     simp only [davitlaw09_LoopNests.l0] at H
     by_cases c13 : x4_1 < (t447.length : Int)
     ·rw [if_pos c13] at H
      have c13b0 : decide (x4_1 < (t447.length : Int)) = true := decide_eq_true c13
      clear c13
      have H' := Aside0.mk H
      clear H
      obtain ⟨Ao14, co14, eo14⟩ := Kd.S_slice HO_3.out
      subst eo14
      go_wp2
      repeat (go_quiet (fail); try go_wp2)
      go_loopg [5] k1 (fun kq v5 w' => ∃ (x5_2 : Int), v5 = .int .i64 x5_2 ∧ Aside0 (davitlaw09_LoopNests.l1 kq t447 x4_1 x5_2 = some r) ∧ Aside0 (kq ≤ k1) ∧ Aside0 (Kd.S k40 40 w' w.heap.size (fun _ => True) (.slice Ao14 t447.length co14) t447) ∧ Aside0 (w'.heap[gb445]? = some (.cells #[.int .i64 a0_0, .int .i64 a0_1, (.slice A0_2 l0_2.length c0_2)] 24 (0, 0))) ∧ Aside0 (Below w.heap.size w w'))
      case atStart => exact ⟨(0), (by first | rfl | (simp; done) | (simp [*]; done)), H', ⟨Nat.le_refl _⟩, ⟨by (with_reducible repeat (first | apply Kd.S_alloc | apply Kd.S_drewN | apply Kd.S_drew)); exact HO_3.out⟩, ⟨by (with_reducible repeat (first | refine blk_drewN ?_ _ | refine blk_drew ?_ | refine blk_alloc ?_ _)); exact BK445.out⟩, ⟨by repeat (first | (with_reducible first | exact HB.out | apply below_alloc | apply pw_below_drewN | apply below_drew1 | refine below_set ?_ GE445.out) | exact HB.out)⟩⟩
      case round =>
       clear H'
       try clear c1
       try clear p2
       try clear c3
       try clear c4
       try clear c4b0
       try clear c4b1
       try clear c9
       try clear c13
       try clear c13b0
       try clear hcz11_0
       try clear hcz11_1
       try clear hcz11_2
       try clear hcz7_0
       try clear hcz7_1
       try clear hcz7_2
       try clear hfz11_0
       try clear hfz11_1
       try clear hfz11_2
       try clear hfz7_0
       try clear hfz7_1
       try clear hfz7_2
       try clear p2
       obtain ⟨x5_2, rfl, HA, HK2, HO_3, BK445, HB⟩ := hrel
       cases gk with
       | zero => exact absurd HA.out (by simp [davitlaw09_LoopNests.l1])
       | succ k2 =>
        have H := HA.out
        clear HA
        simp only [davitlaw09_LoopNests.l1] at H
        by_cases c15 : x5_2 < x4_1
        ·rw [if_pos c15] at H
         have c15b0 : decide (x5_2 < x4_1) = true := decide_eq_true c15
         clear c15
         have H' := Aside0.mk H
         clear H
         go_wp2
         repeat (go_quiet (fail); try go_wp2)
         go_loopg [6, 7] k2 (fun kq v6 v7 w' => ∃ (x6_3 : Bool) (x7_3 : Int), v6 = .bool x6_3 ∧ v7 = .int .i64 x7_3 ∧ Aside0 (davitlaw09_LoopNests.l2 kq t447 x4_1 x5_2 x6_3 x7_3 = some r) ∧ Aside0 (kq ≤ k2) ∧ Aside0 (Kd.S k40 40 w' w.heap.size (fun _ => True) (.slice Ao14 t447.length co14) t447) ∧ Aside0 (w'.heap[gb445]? = some (.cells #[.int .i64 a0_0, .int .i64 a0_1, (.slice A0_2 l0_2.length c0_2)] 24 (0, 0))) ∧ Aside0 (Below w.heap.size w w'))
         case atStart => exact ⟨(false), (0), (by first | rfl | (simp; done) | (simp [*]; done)), (by first | rfl | (simp; done) | (simp [*]; done)), H', ⟨Nat.le_refl _⟩, ⟨by (with_reducible repeat (first | apply Kd.S_alloc | apply Kd.S_drewN | apply Kd.S_drew)); exact HO_3.out⟩, ⟨by (with_reducible repeat (first | refine blk_drewN ?_ _ | refine blk_drew ?_ | refine blk_alloc ?_ _)); exact BK445.out⟩, ⟨by repeat (first | (with_reducible first | exact HB.out | apply below_alloc | apply pw_below_drewN | apply below_drew1 | refine below_set ?_ GE445.out) | exact HB.out)⟩⟩
         case round =>
          clear H'
          try clear c1
          try clear p2
          try clear c3
          try clear c4
          try clear c4b0
          try clear c4b1
          try clear c9
          try clear c13
          try clear c13b0
          try clear c15
          try clear c15b0
          try clear hcz11_0
          try clear hcz11_1
          try clear hcz11_2
          try clear hcz7_0
          try clear hcz7_1
          try clear hcz7_2
          try clear hfz11_0
          try clear hfz11_1
          try clear hfz11_2
          try clear hfz7_0
          try clear hfz7_1
          try clear hfz7_2
          try clear p2
          obtain ⟨x6_3, x7_3, rfl, rfl, HA, HK3, HO_3, BK445, HB⟩ := hrel
          cases gk with
          | zero => exact absurd HA.out (by simp [davitlaw09_LoopNests.l2])
          | succ k3 =>
           have H := HA.out
           clear HA
           simp only [davitlaw09_LoopNests.l2] at H
           by_cases c16 : 0 ≤ x4_1
           ·rw [if_pos c16] at H
            have c16b0 : decide (0 ≤ x4_1) = true := decide_eq_true c16
            clear c16
            by_cases c17 : x4_1 < (t447.length : Int)
            ·rw [if_pos c17] at H
             have c17b0 : decide (x4_1 < (t447.length : Int)) = true := decide_eq_true c17
             clear c17
             by_cases c18 : x7_3 < (((rd_T40 t447 x4_1).f1).length : Int)
             ·rw [if_pos c18] at H
              have c18b0 : decide (x7_3 < (((rd_T40 t447 x4_1).f1).length : Int)) = true := decide_eq_true c18
              clear c18
              by_cases c19 : x6_3 = true
              ·subst c19
               have H1 : (davitlaw09_LoopNests.l2 k3 t447 x4_1 x5_2 true (wrap64 (x7_3 + 1))) = some r := by rw [if_pos rfl] at H; exact H
               clear H
               have H := H1
               clear H1
               have H' := Aside0.mk H
               clear H
               have p450 : 0 ≤ (x4_1 : Int) := of_decide_eq_true (by first | (with_reducible assumption) | assumption)
               have q450 : x4_1 < (t447.length : Int) := of_decide_eq_true (by first | (with_reducible assumption) | assumption)
               obtain ⟨ad450, A450_1, c450_1, e450, hx450_0, hx450_1, hl450_1, hi450_1⟩ := at_T40 (Kd.S_reads' HO_3.out).2.2 x4_1 p450 q450
               cases e450
               obtain ⟨ce450, hce450, hMe450, hcc450⟩ := Kd.S_get HO_3.out z40 x4_1 p450 (by first | exact q450 | exact of_decide_eq_true (by first | (with_reducible assumption) | assumption) | (have e_ := (Kd.S_reads' HO_3.out).1; omega))
               obtain ⟨ve450_1, rfl, ge450_1⟩ := k40_openM hMe450
               have hv450_1 := hcc450 1 _ rfl
               rw [add_field _ _ 1 (by omega)] at hv450_1
               replace hv450_1 := Option.some.inj (hv450_1.symm.trans hx450_1)
               rw [hv450_1] at ge450_1
               have HL450_1 := Aside0.mk (show Kd.R (Kd.int .i64) 3 _ _ _ _ ((rd_T40 t447 x4_1).f1) from ge450_1)
               clear hv450_1 ge450_1
               clear hcc450 hce450
               have HR450_1 := Aside0.mk hi450_1
               have HC450_1 := Aside0.mk hl450_1
               clear hi450_1 hl450_1
               replace p450 := eq_true p450
               replace q450 := eq_true q450
               go_wp2
               repeat (go_quiet (fail); try go_wp2)
               go_roundg k3
               case measure => have := HK1.out; have := HK2.out; have := HK3.out; omega
               case rel => exact ⟨(true), (wrap64 (x7_3 + 1)), (by first | rfl | (simp; done) | (simp [*]; done)), (by first | rfl | (simp; done) | (simp [*]; done)), H', ⟨by have := HK1.out; have := HK2.out; have := HK3.out; omega⟩, ⟨by (with_reducible repeat (first | apply Kd.S_alloc | apply Kd.S_drewN | apply Kd.S_drew)); exact HO_3.out⟩, ⟨by (with_reducible repeat (first | refine blk_drewN ?_ _ | refine blk_drew ?_ | refine blk_alloc ?_ _)); exact BK445.out⟩, ⟨by repeat (first | (with_reducible first | exact HB.out | apply below_alloc | apply pw_below_drewN | apply below_drew1 | refine below_set ?_ GE445.out) | exact HB.out)⟩⟩
              ·replace c19 := Bool.eq_false_iff.mpr c19
               subst c19
               have H1 : (if 0 ≤ x5_2 then (if x5_2 < (t447.length : Int) then (if 0 ≤ x7_3 then ((davitref07_Has.f k3 ((rd_T40 t447 x5_2).f1) (rd ((rd_T40 t447 x4_1).f1) x7_3)).bind fun t454 => (davitlaw09_LoopNests.l2 k3 t447 x4_1 x5_2 t454 (wrap64 (x7_3 + 1)))) else (none)) else (none)) else (none)) = some r := by rw [if_neg (show ¬ (false = true) by decide)] at H; exact H
               clear H
               have H := H1
               clear H1
               by_cases c20 : 0 ≤ x5_2
               ·rw [if_pos c20] at H
                have c20b0 : decide (0 ≤ x5_2) = true := decide_eq_true c20
                clear c20
                by_cases c21 : x5_2 < (t447.length : Int)
                ·rw [if_pos c21] at H
                 have c21b0 : decide (x5_2 < (t447.length : Int)) = true := decide_eq_true c21
                 clear c21
                 by_cases c22 : 0 ≤ x7_3
                 ·rw [if_pos c22] at H
                  have c22b0 : decide (0 ≤ x7_3) = true := decide_eq_true c22
                  clear c22
                  replace H := Option.bind_eq_some_iff.mp H
                  obtain ⟨t454, A230, H⟩ := H
                  replace H : (davitlaw09_LoopNests.l2 k3 t447 x4_1 x5_2 t454 (wrap64 (x7_3 + 1))) = some r := H
                  have A23 := Aside0.mk A230
                  clear A230
                  have H' := Aside0.mk H
                  clear H
                  have p450 : 0 ≤ (x4_1 : Int) := of_decide_eq_true (by first | (with_reducible assumption) | assumption)
                  have q450 : x4_1 < (t447.length : Int) := of_decide_eq_true (by first | (with_reducible assumption) | assumption)
                  obtain ⟨ad450, A450_1, c450_1, e450, hx450_0, hx450_1, hl450_1, hi450_1⟩ := at_T40 (Kd.S_reads' HO_3.out).2.2 x4_1 p450 q450
                  cases e450
                  obtain ⟨ce450, hce450, hMe450, hcc450⟩ := Kd.S_get HO_3.out z40 x4_1 p450 (by first | exact q450 | exact of_decide_eq_true (by first | (with_reducible assumption) | assumption) | (have e_ := (Kd.S_reads' HO_3.out).1; omega))
                  obtain ⟨ve450_1, rfl, ge450_1⟩ := k40_openM hMe450
                  have hv450_1 := hcc450 1 _ rfl
                  rw [add_field _ _ 1 (by omega)] at hv450_1
                  replace hv450_1 := Option.some.inj (hv450_1.symm.trans hx450_1)
                  rw [hv450_1] at ge450_1
                  have HL450_1 := Aside0.mk (show Kd.R (Kd.int .i64) 3 _ _ _ _ ((rd_T40 t447 x4_1).f1) from ge450_1)
                  clear hv450_1 ge450_1
                  clear hcc450 hce450
                  have HR450_1 := Aside0.mk hi450_1
                  have HC450_1 := Aside0.mk hl450_1
                  clear hi450_1 hl450_1
                  replace p450 := eq_true p450
                  replace q450 := eq_true q450
                  have p451 : 0 ≤ (x5_2 : Int) := of_decide_eq_true (by first | (with_reducible assumption) | assumption)
                  have q451 : x5_2 < (t447.length : Int) := of_decide_eq_true (by first | (with_reducible assumption) | assumption)
                  obtain ⟨ad451, A451_1, c451_1, e451, hx451_0, hx451_1, hl451_1, hi451_1⟩ := at_T40 (Kd.S_reads' HO_3.out).2.2 x5_2 p451 q451
                  obtain rfl : ad450 = ad451 := (by injection e451)
                  obtain ⟨ce451, hce451, hMe451, hcc451⟩ := Kd.S_get HO_3.out z40 x5_2 p451 (by first | exact q451 | exact of_decide_eq_true (by first | (with_reducible assumption) | assumption) | (have e_ := (Kd.S_reads' HO_3.out).1; omega))
                  obtain ⟨ve451_1, rfl, ge451_1⟩ := k40_openM hMe451
                  have hv451_1 := hcc451 1 _ rfl
                  rw [add_field _ _ 1 (by omega)] at hv451_1
                  replace hv451_1 := Option.some.inj (hv451_1.symm.trans hx451_1)
                  rw [hv451_1] at ge451_1
                  have HL451_1 := Aside0.mk (show Kd.R (Kd.int .i64) 3 _ _ _ _ ((rd_T40 t447 x5_2).f1) from ge451_1)
                  clear hv451_1 ge451_1
                  clear hcc451 hce451
                  have HR451_1 := Aside0.mk hi451_1
                  have HC451_1 := Aside0.mk hl451_1
                  clear hi451_1 hl451_1
                  replace p451 := eq_true p451
                  replace q451 := eq_true q451
                  have p452 : 0 ≤ (x4_1 : Int) := of_decide_eq_true (by first | (with_reducible assumption) | assumption)
                  have q452 : x4_1 < (t447.length : Int) := of_decide_eq_true (by first | (with_reducible assumption) | assumption)
                  obtain ⟨ad452, A452_1, c452_1, e452, hx452_0, hx452_1, hl452_1, hi452_1⟩ := at_T40 (Kd.S_reads' HO_3.out).2.2 x4_1 p452 q452
                  obtain rfl : ad450 = ad452 := (by injection e452)
                  obtain ⟨ce452, hce452, hMe452, hcc452⟩ := Kd.S_get HO_3.out z40 x4_1 p452 (by first | exact q452 | exact of_decide_eq_true (by first | (with_reducible assumption) | assumption) | (have e_ := (Kd.S_reads' HO_3.out).1; omega))
                  obtain ⟨ve452_1, rfl, ge452_1⟩ := k40_openM hMe452
                  have hv452_1 := hcc452 1 _ rfl
                  rw [add_field _ _ 1 (by omega)] at hv452_1
                  replace hv452_1 := Option.some.inj (hv452_1.symm.trans hx452_1)
                  rw [hv452_1] at ge452_1
                  have HL452_1 := Aside0.mk (show Kd.R (Kd.int .i64) 3 _ _ _ _ ((rd_T40 t447 x4_1).f1) from ge452_1)
                  clear hv452_1 ge452_1
                  clear hcc452 hce452
                  have HR452_1 := Aside0.mk hi452_1
                  have HC452_1 := Aside0.mk hl452_1
                  clear hi452_1 hl452_1
                  replace p452 := eq_true p452
                  replace q452 := eq_true q452
                  have ea_ := Option.some.inj (hx450_1.symm.trans hx452_1)
                  injection ea_ with ea_ en_ ec_
                  subst ea_
                  subst ec_
                  clear en_
                  have p453 : 0 ≤ (x7_3 : Int) := of_decide_eq_true (by first | (with_reducible assumption) | assumption)
                  have q453 : x7_3 < (((rd_T40 t447 x4_1).f1).length : Int) := of_decide_eq_true (by first | (with_reducible assumption) | assumption)
                  obtain ⟨ad453, e453, hx453_0⟩ := Kd.at_int (by repeat (first | (with_reducible exact HR452_1.out) | (with_reducible refine Kd.C_alloc ?_ _) | (with_reducible refine Kd.C_drewN ?_ _) | (with_reducible refine Kd.C_drew ?_) | exact HR452_1.out)) x7_3 p453 q453
                  cases e453
                  replace p453 := eq_true p453
                  replace q453 := eq_true q453
                  go_wp2_with (first | (go_at_call 21; (with_reducible refine (davitref07_Has.calls k3 _ _ ((rd_T40 t447 x5_2).f1) (rd ((rd_T40 t447 x4_1).f1) x7_3) t454 _ ?side1 ?side2 A23.out).mono ?_); (case side1 => repeat (first | exact (by repeat (first | (with_reducible exact HR451_1.out) | (with_reducible refine Kd.C_alloc ?_ _) | (with_reducible refine Kd.C_drewN ?_ _) | (with_reducible refine Kd.C_drew ?_) | exact HR451_1.out)) | (with_reducible refine Kd.C_alloc ?_ _) | (with_reducible refine Kd.C_drewN ?_ _) | (with_reducible refine Kd.C_drew ?_))); (case side2 => exact HC451_1.out); rintro e w' ⟨rfl, ⟨nd, rfl⟩⟩; (try first | exact ⟨rfl, _, World.drewN_drewN _ _ _⟩ | exact ⟨rfl, _, Eq.trans (World.drewN_drewN _ _ _) (congrArg (World.drewN _) (Nat.add_assoc _ _ _))⟩)))
                  repeat (go_quiet (first | (go_at_call 21; (with_reducible refine (davitref07_Has.calls k3 _ _ ((rd_T40 t447 x5_2).f1) (rd ((rd_T40 t447 x4_1).f1) x7_3) t454 _ ?side1 ?side2 A23.out).mono ?_); (case side1 => repeat (first | exact (by repeat (first | (with_reducible exact HR451_1.out) | (with_reducible refine Kd.C_alloc ?_ _) | (with_reducible refine Kd.C_drewN ?_ _) | (with_reducible refine Kd.C_drew ?_) | exact HR451_1.out)) | (with_reducible refine Kd.C_alloc ?_ _) | (with_reducible refine Kd.C_drewN ?_ _) | (with_reducible refine Kd.C_drew ?_))); (case side2 => exact HC451_1.out); rintro e w' ⟨rfl, ⟨nd, rfl⟩⟩; (try first | exact ⟨rfl, _, World.drewN_drewN _ _ _⟩ | exact ⟨rfl, _, Eq.trans (World.drewN_drewN _ _ _) (congrArg (World.drewN _) (Nat.add_assoc _ _ _))⟩))); try go_wp2_with (first | (go_at_call 21; (with_reducible refine (davitref07_Has.calls k3 _ _ ((rd_T40 t447 x5_2).f1) (rd ((rd_T40 t447 x4_1).f1) x7_3) t454 _ ?side1 ?side2 A23.out).mono ?_); (case side1 => repeat (first | exact (by repeat (first | (with_reducible exact HR451_1.out) | (with_reducible refine Kd.C_alloc ?_ _) | (with_reducible refine Kd.C_drewN ?_ _) | (with_reducible refine Kd.C_drew ?_) | exact HR451_1.out)) | (with_reducible refine Kd.C_alloc ?_ _) | (with_reducible refine Kd.C_drewN ?_ _) | (with_reducible refine Kd.C_drew ?_))); (case side2 => exact HC451_1.out); rintro e w' ⟨rfl, ⟨nd, rfl⟩⟩; (try first | exact ⟨rfl, _, World.drewN_drewN _ _ _⟩ | exact ⟨rfl, _, Eq.trans (World.drewN_drewN _ _ _) (congrArg (World.drewN _) (Nat.add_assoc _ _ _))⟩))))
                  go_roundg k3
                  case measure => have := HK1.out; have := HK2.out; have := HK3.out; omega
                  case rel => exact ⟨(t454), (wrap64 (x7_3 + 1)), (by first | rfl | (simp; done) | (simp [*]; done)), (by first | rfl | (simp; done) | (simp [*]; done)), H', ⟨by have := HK1.out; have := HK2.out; have := HK3.out; omega⟩, ⟨by (with_reducible repeat (first | apply Kd.S_alloc | apply Kd.S_drewN | apply Kd.S_drew)); exact HO_3.out⟩, ⟨by (with_reducible repeat (first | refine blk_drewN ?_ _ | refine blk_drew ?_ | refine blk_alloc ?_ _)); exact BK445.out⟩, ⟨by repeat (first | (with_reducible first | exact HB.out | apply below_alloc | apply pw_below_drewN | apply below_drew1 | refine below_set ?_ GE445.out) | exact HB.out)⟩⟩
                 ·rw [if_neg c22] at H
                  exact absurd H (by simp)
                ·rw [if_neg c21] at H
                 exact absurd H (by simp)
               ·rw [if_neg c20] at H
                exact absurd H (by simp)
             ·rw [if_neg c18] at H
              have c18b0 : decide (x7_3 < (((rd_T40 t447 x4_1).f1).length : Int)) = false := decide_eq_false c18
              clear c18
              by_cases c24 : x6_3 = true
              ·subst c24
               have H1 : (if 0 ≤ x5_2 then (if x5_2 < (t447.length : Int) then ((davitref07_Has.f k3 ((rd_T40 t447 x4_1).f1) ((rd_T40 t447 x5_2).f0)).bind fun t457 => (if t457 = true then (davitlaw09_LoopNests.l1 k3 t447 x4_1 (wrap64 (x5_2 + 1))) else ((davitref07_Has.f k3 ((rd_T40 t447 x5_2).f1) ((rd_T40 t447 x4_1).f0)).bind fun t460 => (if t460 = true then (davitlaw09_LoopNests.l1 k3 t447 x4_1 (wrap64 (x5_2 + 1))) else (some false))))) else (none)) else (none)) = some r := by rw [if_pos rfl] at H; exact H
               clear H
               have H := H1
               clear H1
               by_cases c25 : 0 ≤ x5_2
               ·rw [if_pos c25] at H
                have c25b0 : decide (0 ≤ x5_2) = true := decide_eq_true c25
                clear c25
                by_cases c26 : x5_2 < (t447.length : Int)
                ·rw [if_pos c26] at H
                 have c26b0 : decide (x5_2 < (t447.length : Int)) = true := decide_eq_true c26
                 clear c26
                 replace H := Option.bind_eq_some_iff.mp H
                 obtain ⟨t457, A270, H⟩ := H
                 replace H : (if t457 = true then (davitlaw09_LoopNests.l1 k3 t447 x4_1 (wrap64 (x5_2 + 1))) else ((davitref07_Has.f k3 ((rd_T40 t447 x5_2).f1) ((rd_T40 t447 x4_1).f0)).bind fun t460 => (if t460 = true then (davitlaw09_LoopNests.l1 k3 t447 x4_1 (wrap64 (x5_2 + 1))) else (some false)))) = some r := H
                 have A27 := Aside0.mk A270
                 clear A270
                 by_cases c28 : t457 = true
                 ·subst c28
                  have H1 : (davitlaw09_LoopNests.l1 k3 t447 x4_1 (wrap64 (x5_2 + 1))) = some r := by rw [if_pos rfl] at H; exact H
                  clear H
                  have H := H1
                  clear H1
                  have H' := Aside0.mk H
                  clear H
                  have p450 : 0 ≤ (x4_1 : Int) := of_decide_eq_true (by first | (with_reducible assumption) | assumption)
                  have q450 : x4_1 < (t447.length : Int) := of_decide_eq_true (by first | (with_reducible assumption) | assumption)
                  obtain ⟨ad450, A450_1, c450_1, e450, hx450_0, hx450_1, hl450_1, hi450_1⟩ := at_T40 (Kd.S_reads' HO_3.out).2.2 x4_1 p450 q450
                  cases e450
                  obtain ⟨ce450, hce450, hMe450, hcc450⟩ := Kd.S_get HO_3.out z40 x4_1 p450 (by first | exact q450 | exact of_decide_eq_true (by first | (with_reducible assumption) | assumption) | (have e_ := (Kd.S_reads' HO_3.out).1; omega))
                  obtain ⟨ve450_1, rfl, ge450_1⟩ := k40_openM hMe450
                  have hv450_1 := hcc450 1 _ rfl
                  rw [add_field _ _ 1 (by omega)] at hv450_1
                  replace hv450_1 := Option.some.inj (hv450_1.symm.trans hx450_1)
                  rw [hv450_1] at ge450_1
                  have HL450_1 := Aside0.mk (show Kd.R (Kd.int .i64) 3 _ _ _ _ ((rd_T40 t447 x4_1).f1) from ge450_1)
                  clear hv450_1 ge450_1
                  clear hcc450 hce450
                  have HR450_1 := Aside0.mk hi450_1
                  have HC450_1 := Aside0.mk hl450_1
                  clear hi450_1 hl450_1
                  replace p450 := eq_true p450
                  replace q450 := eq_true q450
                  have p455 : 0 ≤ (x4_1 : Int) := of_decide_eq_true (by first | (with_reducible assumption) | assumption)
                  have q455 : x4_1 < (t447.length : Int) := of_decide_eq_true (by first | (with_reducible assumption) | assumption)
                  obtain ⟨ad455, A455_1, c455_1, e455, hx455_0, hx455_1, hl455_1, hi455_1⟩ := at_T40 (Kd.S_reads' HO_3.out).2.2 x4_1 p455 q455
                  obtain rfl : ad450 = ad455 := (by injection e455)
                  obtain ⟨ce455, hce455, hMe455, hcc455⟩ := Kd.S_get HO_3.out z40 x4_1 p455 (by first | exact q455 | exact of_decide_eq_true (by first | (with_reducible assumption) | assumption) | (have e_ := (Kd.S_reads' HO_3.out).1; omega))
                  obtain ⟨ve455_1, rfl, ge455_1⟩ := k40_openM hMe455
                  have hv455_1 := hcc455 1 _ rfl
                  rw [add_field _ _ 1 (by omega)] at hv455_1
                  replace hv455_1 := Option.some.inj (hv455_1.symm.trans hx455_1)
                  rw [hv455_1] at ge455_1
                  have HL455_1 := Aside0.mk (show Kd.R (Kd.int .i64) 3 _ _ _ _ ((rd_T40 t447 x4_1).f1) from ge455_1)
                  clear hv455_1 ge455_1
                  clear hcc455 hce455
                  have HR455_1 := Aside0.mk hi455_1
                  have HC455_1 := Aside0.mk hl455_1
                  clear hi455_1 hl455_1
                  replace p455 := eq_true p455
                  replace q455 := eq_true q455
                  have ea_ := Option.some.inj (hx450_1.symm.trans hx455_1)
                  injection ea_ with ea_ en_ ec_
                  subst ea_
                  subst ec_
                  clear en_
                  have p456 : 0 ≤ (x5_2 : Int) := of_decide_eq_true (by first | (with_reducible assumption) | assumption)
                  have q456 : x5_2 < (t447.length : Int) := of_decide_eq_true (by first | (with_reducible assumption) | assumption)
                  obtain ⟨ad456, A456_1, c456_1, e456, hx456_0, hx456_1, hl456_1, hi456_1⟩ := at_T40 (Kd.S_reads' HO_3.out).2.2 x5_2 p456 q456
                  obtain rfl : ad450 = ad456 := (by injection e456)
                  obtain ⟨ce456, hce456, hMe456, hcc456⟩ := Kd.S_get HO_3.out z40 x5_2 p456 (by first | exact q456 | exact of_decide_eq_true (by first | (with_reducible assumption) | assumption) | (have e_ := (Kd.S_reads' HO_3.out).1; omega))
                  obtain ⟨ve456_1, rfl, ge456_1⟩ := k40_openM hMe456
                  have hv456_1 := hcc456 1 _ rfl
                  rw [add_field _ _ 1 (by omega)] at hv456_1
                  replace hv456_1 := Option.some.inj (hv456_1.symm.trans hx456_1)
                  rw [hv456_1] at ge456_1
                  have HL456_1 := Aside0.mk (show Kd.R (Kd.int .i64) 3 _ _ _ _ ((rd_T40 t447 x5_2).f1) from ge456_1)
                  clear hv456_1 ge456_1
                  clear hcc456 hce456
                  have HR456_1 := Aside0.mk hi456_1
                  have HC456_1 := Aside0.mk hl456_1
                  clear hi456_1 hl456_1
                  replace p456 := eq_true p456
                  replace q456 := eq_true q456
                  go_wp2_with (first | (go_at_call 21; (with_reducible refine (davitref07_Has.calls k3 _ _ ((rd_T40 t447 x4_1).f1) ((rd_T40 t447 x5_2).f0) true _ ?side1 ?side2 A27.out).mono ?_); (case side1 => repeat (first | exact (by repeat (first | (with_reducible exact HR455_1.out) | (with_reducible refine Kd.C_alloc ?_ _) | (with_reducible refine Kd.C_drewN ?_ _) | (with_reducible refine Kd.C_drew ?_) | exact HR455_1.out)) | (with_reducible refine Kd.C_alloc ?_ _) | (with_reducible refine Kd.C_drewN ?_ _) | (with_reducible refine Kd.C_drew ?_))); (case side2 => exact HC455_1.out); rintro e w' ⟨rfl, ⟨nd, rfl⟩⟩; (try first | exact ⟨rfl, _, World.drewN_drewN _ _ _⟩ | exact ⟨rfl, _, Eq.trans (World.drewN_drewN _ _ _) (congrArg (World.drewN _) (Nat.add_assoc _ _ _))⟩)))
                  repeat (go_quiet (first | (go_at_call 21; (with_reducible refine (davitref07_Has.calls k3 _ _ ((rd_T40 t447 x4_1).f1) ((rd_T40 t447 x5_2).f0) true _ ?side1 ?side2 A27.out).mono ?_); (case side1 => repeat (first | exact (by repeat (first | (with_reducible exact HR455_1.out) | (with_reducible refine Kd.C_alloc ?_ _) | (with_reducible refine Kd.C_drewN ?_ _) | (with_reducible refine Kd.C_drew ?_) | exact HR455_1.out)) | (with_reducible refine Kd.C_alloc ?_ _) | (with_reducible refine Kd.C_drewN ?_ _) | (with_reducible refine Kd.C_drew ?_))); (case side2 => exact HC455_1.out); rintro e w' ⟨rfl, ⟨nd, rfl⟩⟩; (try first | exact ⟨rfl, _, World.drewN_drewN _ _ _⟩ | exact ⟨rfl, _, Eq.trans (World.drewN_drewN _ _ _) (congrArg (World.drewN _) (Nat.add_assoc _ _ _))⟩))); try go_wp2_with (first | (go_at_call 21; (with_reducible refine (davitref07_Has.calls k3 _ _ ((rd_T40 t447 x4_1).f1) ((rd_T40 t447 x5_2).f0) true _ ?side1 ?side2 A27.out).mono ?_); (case side1 => repeat (first | exact (by repeat (first | (with_reducible exact HR455_1.out) | (with_reducible refine Kd.C_alloc ?_ _) | (with_reducible refine Kd.C_drewN ?_ _) | (with_reducible refine Kd.C_drew ?_) | exact HR455_1.out)) | (with_reducible refine Kd.C_alloc ?_ _) | (with_reducible refine Kd.C_drewN ?_ _) | (with_reducible refine Kd.C_drew ?_))); (case side2 => exact HC455_1.out); rintro e w' ⟨rfl, ⟨nd, rfl⟩⟩; (try first | exact ⟨rfl, _, World.drewN_drewN _ _ _⟩ | exact ⟨rfl, _, Eq.trans (World.drewN_drewN _ _ _) (congrArg (World.drewN _) (Nat.add_assoc _ _ _))⟩))))
                  go_roundg k3
                  case measure => have := HK1.out; have := HK2.out; have := HK3.out; omega
                  case rel => exact ⟨(wrap64 (x5_2 + 1)), (by first | rfl | (simp; done) | (simp [*]; done)), H', ⟨by have := HK1.out; have := HK2.out; have := HK3.out; omega⟩, ⟨by (with_reducible repeat (first | apply Kd.S_alloc | apply Kd.S_drewN | apply Kd.S_drew)); exact HO_3.out⟩, ⟨by (with_reducible repeat (first | refine blk_drewN ?_ _ | refine blk_drew ?_ | refine blk_alloc ?_ _)); exact BK445.out⟩, ⟨by repeat (first | (with_reducible first | exact HB.out | apply below_alloc | apply pw_below_drewN | apply below_drew1 | refine below_set ?_ GE445.out) | exact HB.out)⟩⟩
                 ·replace c28 := Bool.eq_false_iff.mpr c28
                  subst c28
                  have H1 : ((davitref07_Has.f k3 ((rd_T40 t447 x5_2).f1) ((rd_T40 t447 x4_1).f0)).bind fun t460 => (if t460 = true then (davitlaw09_LoopNests.l1 k3 t447 x4_1 (wrap64 (x5_2 + 1))) else (some false))) = some r := by rw [if_neg (show ¬ (false = true) by decide)] at H; exact H
                  clear H
                  have H := H1
                  clear H1
                  replace H := Option.bind_eq_some_iff.mp H
                  obtain ⟨t460, A290, H⟩ := H
                  replace H : (if t460 = true then (davitlaw09_LoopNests.l1 k3 t447 x4_1 (wrap64 (x5_2 + 1))) else (some false)) = some r := H
                  have A29 := Aside0.mk A290
                  clear A290
                  by_cases c30 : t460 = true
                  ·subst c30
                   have H1 : (davitlaw09_LoopNests.l1 k3 t447 x4_1 (wrap64 (x5_2 + 1))) = some r := by rw [if_pos rfl] at H; exact H
                   clear H
                   have H := H1
                   clear H1
                   have H' := Aside0.mk H
                   clear H
                   have p450 : 0 ≤ (x4_1 : Int) := of_decide_eq_true (by first | (with_reducible assumption) | assumption)
                   have q450 : x4_1 < (t447.length : Int) := of_decide_eq_true (by first | (with_reducible assumption) | assumption)
                   obtain ⟨ad450, A450_1, c450_1, e450, hx450_0, hx450_1, hl450_1, hi450_1⟩ := at_T40 (Kd.S_reads' HO_3.out).2.2 x4_1 p450 q450
                   cases e450
                   obtain ⟨ce450, hce450, hMe450, hcc450⟩ := Kd.S_get HO_3.out z40 x4_1 p450 (by first | exact q450 | exact of_decide_eq_true (by first | (with_reducible assumption) | assumption) | (have e_ := (Kd.S_reads' HO_3.out).1; omega))
                   obtain ⟨ve450_1, rfl, ge450_1⟩ := k40_openM hMe450
                   have hv450_1 := hcc450 1 _ rfl
                   rw [add_field _ _ 1 (by omega)] at hv450_1
                   replace hv450_1 := Option.some.inj (hv450_1.symm.trans hx450_1)
                   rw [hv450_1] at ge450_1
                   have HL450_1 := Aside0.mk (show Kd.R (Kd.int .i64) 3 _ _ _ _ ((rd_T40 t447 x4_1).f1) from ge450_1)
                   clear hv450_1 ge450_1
                   clear hcc450 hce450
                   have HR450_1 := Aside0.mk hi450_1
                   have HC450_1 := Aside0.mk hl450_1
                   clear hi450_1 hl450_1
                   replace p450 := eq_true p450
                   replace q450 := eq_true q450
                   have p455 : 0 ≤ (x4_1 : Int) := of_decide_eq_true (by first | (with_reducible assumption) | assumption)
                   have q455 : x4_1 < (t447.length : Int) := of_decide_eq_true (by first | (with_reducible assumption) | assumption)
                   obtain ⟨ad455, A455_1, c455_1, e455, hx455_0, hx455_1, hl455_1, hi455_1⟩ := at_T40 (Kd.S_reads' HO_3.out).2.2 x4_1 p455 q455
                   obtain rfl : ad450 = ad455 := (by injection e455)
                   obtain ⟨ce455, hce455, hMe455, hcc455⟩ := Kd.S_get HO_3.out z40 x4_1 p455 (by first | exact q455 | exact of_decide_eq_true (by first | (with_reducible assumption) | assumption) | (have e_ := (Kd.S_reads' HO_3.out).1; omega))
                   obtain ⟨ve455_1, rfl, ge455_1⟩ := k40_openM hMe455
                   have hv455_1 := hcc455 1 _ rfl
                   rw [add_field _ _ 1 (by omega)] at hv455_1
                   replace hv455_1 := Option.some.inj (hv455_1.symm.trans hx455_1)
                   rw [hv455_1] at ge455_1
                   have HL455_1 := Aside0.mk (show Kd.R (Kd.int .i64) 3 _ _ _ _ ((rd_T40 t447 x4_1).f1) from ge455_1)
                   clear hv455_1 ge455_1
                   clear hcc455 hce455
                   have HR455_1 := Aside0.mk hi455_1
                   have HC455_1 := Aside0.mk hl455_1
                   clear hi455_1 hl455_1
                   replace p455 := eq_true p455
                   replace q455 := eq_true q455
                   have ea_ := Option.some.inj (hx450_1.symm.trans hx455_1)
                   injection ea_ with ea_ en_ ec_
                   subst ea_
                   subst ec_
                   clear en_
                   have p456 : 0 ≤ (x5_2 : Int) := of_decide_eq_true (by first | (with_reducible assumption) | assumption)
                   have q456 : x5_2 < (t447.length : Int) := of_decide_eq_true (by first | (with_reducible assumption) | assumption)
                   obtain ⟨ad456, A456_1, c456_1, e456, hx456_0, hx456_1, hl456_1, hi456_1⟩ := at_T40 (Kd.S_reads' HO_3.out).2.2 x5_2 p456 q456
                   obtain rfl : ad450 = ad456 := (by injection e456)
                   obtain ⟨ce456, hce456, hMe456, hcc456⟩ := Kd.S_get HO_3.out z40 x5_2 p456 (by first | exact q456 | exact of_decide_eq_true (by first | (with_reducible assumption) | assumption) | (have e_ := (Kd.S_reads' HO_3.out).1; omega))
                   obtain ⟨ve456_1, rfl, ge456_1⟩ := k40_openM hMe456
                   have hv456_1 := hcc456 1 _ rfl
                   rw [add_field _ _ 1 (by omega)] at hv456_1
                   replace hv456_1 := Option.some.inj (hv456_1.symm.trans hx456_1)
                   rw [hv456_1] at ge456_1
                   have HL456_1 := Aside0.mk (show Kd.R (Kd.int .i64) 3 _ _ _ _ ((rd_T40 t447 x5_2).f1) from ge456_1)
                   clear hv456_1 ge456_1
                   clear hcc456 hce456
                   have HR456_1 := Aside0.mk hi456_1
                   have HC456_1 := Aside0.mk hl456_1
                   clear hi456_1 hl456_1
                   replace p456 := eq_true p456
                   replace q456 := eq_true q456
                   go_wp2_with (first | (go_at_call 21; (with_reducible refine (davitref07_Has.calls k3 _ _ ((rd_T40 t447 x4_1).f1) ((rd_T40 t447 x5_2).f0) false _ ?side1 ?side2 A27.out).mono ?_); (case side1 => repeat (first | exact (by repeat (first | (with_reducible exact HR455_1.out) | (with_reducible refine Kd.C_alloc ?_ _) | (with_reducible refine Kd.C_drewN ?_ _) | (with_reducible refine Kd.C_drew ?_) | exact HR455_1.out)) | (with_reducible refine Kd.C_alloc ?_ _) | (with_reducible refine Kd.C_drewN ?_ _) | (with_reducible refine Kd.C_drew ?_))); (case side2 => exact HC455_1.out); rintro e w' ⟨rfl, ⟨nd, rfl⟩⟩; (try first | exact ⟨rfl, _, World.drewN_drewN _ _ _⟩ | exact ⟨rfl, _, Eq.trans (World.drewN_drewN _ _ _) (congrArg (World.drewN _) (Nat.add_assoc _ _ _))⟩); have p458 : 0 ≤ (x5_2 : Int) := of_decide_eq_true (by first | (with_reducible assumption) | assumption); have q458 : x5_2 < (t447.length : Int) := of_decide_eq_true (by first | (with_reducible assumption) | assumption); obtain ⟨ad458, A458_1, c458_1, e458, hx458_0, hx458_1, hl458_1, hi458_1⟩ := at_T40 (Kd.S_reads' HO_3.out).2.2 x5_2 p458 q458; obtain rfl : ad450 = ad458 := (by injection e458); obtain ⟨ce458, hce458, hMe458, hcc458⟩ := Kd.S_get HO_3.out z40 x5_2 p458 (by first | exact q458 | exact of_decide_eq_true (by first | (with_reducible assumption) | assumption) | (have e_ := (Kd.S_reads' HO_3.out).1; omega)); obtain ⟨ve458_1, rfl, ge458_1⟩ := k40_openM hMe458; have hv458_1 := hcc458 1 _ rfl; rw [add_field _ _ 1 (by omega)] at hv458_1; replace hv458_1 := Option.some.inj (hv458_1.symm.trans hx458_1); rw [hv458_1] at ge458_1; have HL458_1 := Aside0.mk (show Kd.R (Kd.int .i64) 3 _ _ _ _ ((rd_T40 t447 x5_2).f1) from ge458_1); clear hv458_1 ge458_1; clear hcc458 hce458; have HR458_1 := Aside0.mk hi458_1; have HC458_1 := Aside0.mk hl458_1; clear hi458_1 hl458_1; replace p458 := eq_true p458; replace q458 := eq_true q458; have ea_ := Option.some.inj (hx456_1.symm.trans hx458_1); injection ea_ with ea_ en_ ec_; subst ea_; subst ec_; clear en_; have p459 : 0 ≤ (x4_1 : Int) := of_decide_eq_true (by first | (with_reducible assumption) | assumption); have q459 : x4_1 < (t447.length : Int) := of_decide_eq_true (by first | (with_reducible assumption) | assumption); obtain ⟨ad459, A459_1, c459_1, e459, hx459_0, hx459_1, hl459_1, hi459_1⟩ := at_T40 (Kd.S_reads' HO_3.out).2.2 x4_1 p459 q459; obtain rfl : ad450 = ad459 := (by injection e459); obtain ⟨ce459, hce459, hMe459, hcc459⟩ := Kd.S_get HO_3.out z40 x4_1 p459 (by first | exact q459 | exact of_decide_eq_true (by first | (with_reducible assumption) | assumption) | (have e_ := (Kd.S_reads' HO_3.out).1; omega)); obtain ⟨ve459_1, rfl, ge459_1⟩ := k40_openM hMe459; have hv459_1 := hcc459 1 _ rfl; rw [add_field _ _ 1 (by omega)] at hv459_1; replace hv459_1 := Option.some.inj (hv459_1.symm.trans hx459_1); rw [hv459_1] at ge459_1; have HL459_1 := Aside0.mk (show Kd.R (Kd.int .i64) 3 _ _ _ _ ((rd_T40 t447 x4_1).f1) from ge459_1); clear hv459_1 ge459_1; clear hcc459 hce459; have HR459_1 := Aside0.mk hi459_1; have HC459_1 := Aside0.mk hl459_1; clear hi459_1 hl459_1; replace p459 := eq_true p459; replace q459 := eq_true q459; have ea_ := Option.some.inj (hx450_1.symm.trans hx459_1); injection ea_ with ea_ en_ ec_; subst ea_; subst ec_; clear en_) | (go_at_call 21; (with_reducible refine (davitref07_Has.calls k3 _ _ ((rd_T40 t447 x5_2).f1) ((rd_T40 t447 x4_1).f0) true _ ?side1 ?side2 A29.out).mono ?_); (case side1 => repeat (first | exact (by repeat (first | (with_reducible exact HR458_1.out) | (with_reducible refine Kd.C_alloc ?_ _) | (with_reducible refine Kd.C_drewN ?_ _) | (with_reducible refine Kd.C_drew ?_) | exact HR458_1.out)) | (with_reducible refine Kd.C_alloc ?_ _) | (with_reducible refine Kd.C_drewN ?_ _) | (with_reducible refine Kd.C_drew ?_))); (case side2 => exact HC458_1.out); rintro e w' ⟨rfl, ⟨nd, rfl⟩⟩; (try first | exact ⟨rfl, _, World.drewN_drewN _ _ _⟩ | exact ⟨rfl, _, Eq.trans (World.drewN_drewN _ _ _) (congrArg (World.drewN _) (Nat.add_assoc _ _ _))⟩)))
                   repeat (go_quiet (first | (go_at_call 21; (with_reducible refine (davitref07_Has.calls k3 _ _ ((rd_T40 t447 x4_1).f1) ((rd_T40 t447 x5_2).f0) false _ ?side1 ?side2 A27.out).mono ?_); (case side1 => repeat (first | exact (by repeat (first | (with_reducible exact HR455_1.out) | (with_reducible refine Kd.C_alloc ?_ _) | (with_reducible refine Kd.C_drewN ?_ _) | (with_reducible refine Kd.C_drew ?_) | exact HR455_1.out)) | (with_reducible refine Kd.C_alloc ?_ _) | (with_reducible refine Kd.C_drewN ?_ _) | (with_reducible refine Kd.C_drew ?_))); (case side2 => exact HC455_1.out); rintro e w' ⟨rfl, ⟨nd, rfl⟩⟩; (try first | exact ⟨rfl, _, World.drewN_drewN _ _ _⟩ | exact ⟨rfl, _, Eq.trans (World.drewN_drewN _ _ _) (congrArg (World.drewN _) (Nat.add_assoc _ _ _))⟩); have p458 : 0 ≤ (x5_2 : Int) := of_decide_eq_true (by first | (with_reducible assumption) | assumption); have q458 : x5_2 < (t447.length : Int) := of_decide_eq_true (by first | (with_reducible assumption) | assumption); obtain ⟨ad458, A458_1, c458_1, e458, hx458_0, hx458_1, hl458_1, hi458_1⟩ := at_T40 (Kd.S_reads' HO_3.out).2.2 x5_2 p458 q458; obtain rfl : ad450 = ad458 := (by injection e458); obtain ⟨ce458, hce458, hMe458, hcc458⟩ := Kd.S_get HO_3.out z40 x5_2 p458 (by first | exact q458 | exact of_decide_eq_true (by first | (with_reducible assumption) | assumption) | (have e_ := (Kd.S_reads' HO_3.out).1; omega)); obtain ⟨ve458_1, rfl, ge458_1⟩ := k40_openM hMe458; have hv458_1 := hcc458 1 _ rfl; rw [add_field _ _ 1 (by omega)] at hv458_1; replace hv458_1 := Option.some.inj (hv458_1.symm.trans hx458_1); rw [hv458_1] at ge458_1; have HL458_1 := Aside0.mk (show Kd.R (Kd.int .i64) 3 _ _ _ _ ((rd_T40 t447 x5_2).f1) from ge458_1); clear hv458_1 ge458_1; clear hcc458 hce458; have HR458_1 := Aside0.mk hi458_1; have HC458_1 := Aside0.mk hl458_1; clear hi458_1 hl458_1; replace p458 := eq_true p458; replace q458 := eq_true q458; have ea_ := Option.some.inj (hx456_1.symm.trans hx458_1); injection ea_ with ea_ en_ ec_; subst ea_; subst ec_; clear en_; have p459 : 0 ≤ (x4_1 : Int) := of_decide_eq_true (by first | (with_reducible assumption) | assumption); have q459 : x4_1 < (t447.length : Int) := of_decide_eq_true (by first | (with_reducible assumption) | assumption); obtain ⟨ad459, A459_1, c459_1, e459, hx459_0, hx459_1, hl459_1, hi459_1⟩ := at_T40 (Kd.S_reads' HO_3.out).2.2 x4_1 p459 q459; obtain rfl : ad450 = ad459 := (by injection e459); obtain ⟨ce459, hce459, hMe459, hcc459⟩ := Kd.S_get HO_3.out z40 x4_1 p459 (by first | exact q459 | exact of_decide_eq_true (by first | (with_reducible assumption) | assumption) | (have e_ := (Kd.S_reads' HO_3.out).1; omega)); obtain ⟨ve459_1, rfl, ge459_1⟩ := k40_openM hMe459; have hv459_1 := hcc459 1 _ rfl; rw [add_field _ _ 1 (by omega)] at hv459_1; replace hv459_1 := Option.some.inj (hv459_1.symm.trans hx459_1); rw [hv459_1] at ge459_1; have HL459_1 := Aside0.mk (show Kd.R (Kd.int .i64) 3 _ _ _ _ ((rd_T40 t447 x4_1).f1) from ge459_1); clear hv459_1 ge459_1; clear hcc459 hce459; have HR459_1 := Aside0.mk hi459_1; have HC459_1 := Aside0.mk hl459_1; clear hi459_1 hl459_1; replace p459 := eq_true p459; replace q459 := eq_true q459; have ea_ := Option.some.inj (hx450_1.symm.trans hx459_1); injection ea_ with ea_ en_ ec_; subst ea_; subst ec_; clear en_) | (go_at_call 21; (with_reducible refine (davitref07_Has.calls k3 _ _ ((rd_T40 t447 x5_2).f1) ((rd_T40 t447 x4_1).f0) true _ ?side1 ?side2 A29.out).mono ?_); (case side1 => repeat (first | exact (by repeat (first | (with_reducible exact HR458_1.out) | (with_reducible refine Kd.C_alloc ?_ _) | (with_reducible refine Kd.C_drewN ?_ _) | (with_reducible refine Kd.C_drew ?_) | exact HR458_1.out)) | (with_reducible refine Kd.C_alloc ?_ _) | (with_reducible refine Kd.C_drewN ?_ _) | (with_reducible refine Kd.C_drew ?_))); (case side2 => exact HC458_1.out); rintro e w' ⟨rfl, ⟨nd, rfl⟩⟩; (try first | exact ⟨rfl, _, World.drewN_drewN _ _ _⟩ | exact ⟨rfl, _, Eq.trans (World.drewN_drewN _ _ _) (congrArg (World.drewN _) (Nat.add_assoc _ _ _))⟩))); try go_wp2_with (first | (go_at_call 21; (with_reducible refine (davitref07_Has.calls k3 _ _ ((rd_T40 t447 x4_1).f1) ((rd_T40 t447 x5_2).f0) false _ ?side1 ?side2 A27.out).mono ?_); (case side1 => repeat (first | exact (by repeat (first | (with_reducible exact HR455_1.out) | (with_reducible refine Kd.C_alloc ?_ _) | (with_reducible refine Kd.C_drewN ?_ _) | (with_reducible refine Kd.C_drew ?_) | exact HR455_1.out)) | (with_reducible refine Kd.C_alloc ?_ _) | (with_reducible refine Kd.C_drewN ?_ _) | (with_reducible refine Kd.C_drew ?_))); (case side2 => exact HC455_1.out); rintro e w' ⟨rfl, ⟨nd, rfl⟩⟩; (try first | exact ⟨rfl, _, World.drewN_drewN _ _ _⟩ | exact ⟨rfl, _, Eq.trans (World.drewN_drewN _ _ _) (congrArg (World.drewN _) (Nat.add_assoc _ _ _))⟩); have p458 : 0 ≤ (x5_2 : Int) := of_decide_eq_true (by first | (with_reducible assumption) | assumption); have q458 : x5_2 < (t447.length : Int) := of_decide_eq_true (by first | (with_reducible assumption) | assumption); obtain ⟨ad458, A458_1, c458_1, e458, hx458_0, hx458_1, hl458_1, hi458_1⟩ := at_T40 (Kd.S_reads' HO_3.out).2.2 x5_2 p458 q458; obtain rfl : ad450 = ad458 := (by injection e458); obtain ⟨ce458, hce458, hMe458, hcc458⟩ := Kd.S_get HO_3.out z40 x5_2 p458 (by first | exact q458 | exact of_decide_eq_true (by first | (with_reducible assumption) | assumption) | (have e_ := (Kd.S_reads' HO_3.out).1; omega)); obtain ⟨ve458_1, rfl, ge458_1⟩ := k40_openM hMe458; have hv458_1 := hcc458 1 _ rfl; rw [add_field _ _ 1 (by omega)] at hv458_1; replace hv458_1 := Option.some.inj (hv458_1.symm.trans hx458_1); rw [hv458_1] at ge458_1; have HL458_1 := Aside0.mk (show Kd.R (Kd.int .i64) 3 _ _ _ _ ((rd_T40 t447 x5_2).f1) from ge458_1); clear hv458_1 ge458_1; clear hcc458 hce458; have HR458_1 := Aside0.mk hi458_1; have HC458_1 := Aside0.mk hl458_1; clear hi458_1 hl458_1; replace p458 := eq_true p458; replace q458 := eq_true q458; have ea_ := Option.some.inj (hx456_1.symm.trans hx458_1); injection ea_ with ea_ en_ ec_; subst ea_; subst ec_; clear en_; have p459 : 0 ≤ (x4_1 : Int) := of_decide_eq_true (by first | (with_reducible assumption) | assumption); have q459 : x4_1 < (t447.length : Int) := of_decide_eq_true (by first | (with_reducible assumption) | assumption); obtain ⟨ad459, A459_1, c459_1, e459, hx459_0, hx459_1, hl459_1, hi459_1⟩ := at_T40 (Kd.S_reads' HO_3.out).2.2 x4_1 p459 q459; obtain rfl : ad450 = ad459 := (by injection e459); obtain ⟨ce459, hce459, hMe459, hcc459⟩ := Kd.S_get HO_3.out z40 x4_1 p459 (by first | exact q459 | exact of_decide_eq_true (by first | (with_reducible assumption) | assumption) | (have e_ := (Kd.S_reads' HO_3.out).1; omega)); obtain ⟨ve459_1, rfl, ge459_1⟩ := k40_openM hMe459; have hv459_1 := hcc459 1 _ rfl; rw [add_field _ _ 1 (by omega)] at hv459_1; replace hv459_1 := Option.some.inj (hv459_1.symm.trans hx459_1); rw [hv459_1] at ge459_1; have HL459_1 := Aside0.mk (show Kd.R (Kd.int .i64) 3 _ _ _ _ ((rd_T40 t447 x4_1).f1) from ge459_1); clear hv459_1 ge459_1; clear hcc459 hce459; have HR459_1 := Aside0.mk hi459_1; have HC459_1 := Aside0.mk hl459_1; clear hi459_1 hl459_1; replace p459 := eq_true p459; replace q459 := eq_true q459; have ea_ := Option.some.inj (hx450_1.symm.trans hx459_1); injection ea_ with ea_ en_ ec_; subst ea_; subst ec_; clear en_) | (go_at_call 21; (with_reducible refine (davitref07_Has.calls k3 _ _ ((rd_T40 t447 x5_2).f1) ((rd_T40 t447 x4_1).f0) true _ ?side1 ?side2 A29.out).mono ?_); (case side1 => repeat (first | exact (by repeat (first | (with_reducible exact HR458_1.out) | (with_reducible refine Kd.C_alloc ?_ _) | (with_reducible refine Kd.C_drewN ?_ _) | (with_reducible refine Kd.C_drew ?_) | exact HR458_1.out)) | (with_reducible refine Kd.C_alloc ?_ _) | (with_reducible refine Kd.C_drewN ?_ _) | (with_reducible refine Kd.C_drew ?_))); (case side2 => exact HC458_1.out); rintro e w' ⟨rfl, ⟨nd, rfl⟩⟩; (try first | exact ⟨rfl, _, World.drewN_drewN _ _ _⟩ | exact ⟨rfl, _, Eq.trans (World.drewN_drewN _ _ _) (congrArg (World.drewN _) (Nat.add_assoc _ _ _))⟩))))
                   go_roundg k3
                   case measure => have := HK1.out; have := HK2.out; have := HK3.out; omega
                   case rel => exact ⟨(wrap64 (x5_2 + 1)), (by first | rfl | (simp; done) | (simp [*]; done)), H', ⟨by have := HK1.out; have := HK2.out; have := HK3.out; omega⟩, ⟨by (with_reducible repeat (first | apply Kd.S_alloc | apply Kd.S_drewN | apply Kd.S_drew)); exact HO_3.out⟩, ⟨by (with_reducible repeat (first | refine blk_drewN ?_ _ | refine blk_drew ?_ | refine blk_alloc ?_ _)); exact BK445.out⟩, ⟨by repeat (first | (with_reducible first | exact HB.out | apply below_alloc | apply pw_below_drewN | apply below_drew1 | refine below_set ?_ GE445.out) | exact HB.out)⟩⟩
                  ·replace c30 := Bool.eq_false_iff.mpr c30
                   subst c30
                   have H1 : (some false) = some r := by rw [if_neg (show ¬ (false = true) by decide)] at H; exact H
                   clear H
                   have H := H1
                   clear H1
                   obtain rfl := Option.some.inj H
                   have p450 : 0 ≤ (x4_1 : Int) := of_decide_eq_true (by first | (with_reducible assumption) | assumption)
                   have q450 : x4_1 < (t447.length : Int) := of_decide_eq_true (by first | (with_reducible assumption) | assumption)
                   obtain ⟨ad450, A450_1, c450_1, e450, hx450_0, hx450_1, hl450_1, hi450_1⟩ := at_T40 (Kd.S_reads' HO_3.out).2.2 x4_1 p450 q450
                   cases e450
                   obtain ⟨ce450, hce450, hMe450, hcc450⟩ := Kd.S_get HO_3.out z40 x4_1 p450 (by first | exact q450 | exact of_decide_eq_true (by first | (with_reducible assumption) | assumption) | (have e_ := (Kd.S_reads' HO_3.out).1; omega))
                   obtain ⟨ve450_1, rfl, ge450_1⟩ := k40_openM hMe450
                   have hv450_1 := hcc450 1 _ rfl
                   rw [add_field _ _ 1 (by omega)] at hv450_1
                   replace hv450_1 := Option.some.inj (hv450_1.symm.trans hx450_1)
                   rw [hv450_1] at ge450_1
                   have HL450_1 := Aside0.mk (show Kd.R (Kd.int .i64) 3 _ _ _ _ ((rd_T40 t447 x4_1).f1) from ge450_1)
                   clear hv450_1 ge450_1
                   clear hcc450 hce450
                   have HR450_1 := Aside0.mk hi450_1
                   have HC450_1 := Aside0.mk hl450_1
                   clear hi450_1 hl450_1
                   replace p450 := eq_true p450
                   replace q450 := eq_true q450
                   have p455 : 0 ≤ (x4_1 : Int) := of_decide_eq_true (by first | (with_reducible assumption) | assumption)
                   have q455 : x4_1 < (t447.length : Int) := of_decide_eq_true (by first | (with_reducible assumption) | assumption)
                   obtain ⟨ad455, A455_1, c455_1, e455, hx455_0, hx455_1, hl455_1, hi455_1⟩ := at_T40 (Kd.S_reads' HO_3.out).2.2 x4_1 p455 q455
                   obtain rfl : ad450 = ad455 := (by injection e455)
                   obtain ⟨ce455, hce455, hMe455, hcc455⟩ := Kd.S_get HO_3.out z40 x4_1 p455 (by first | exact q455 | exact of_decide_eq_true (by first | (with_reducible assumption) | assumption) | (have e_ := (Kd.S_reads' HO_3.out).1; omega))
                   obtain ⟨ve455_1, rfl, ge455_1⟩ := k40_openM hMe455
                   have hv455_1 := hcc455 1 _ rfl
                   rw [add_field _ _ 1 (by omega)] at hv455_1
                   replace hv455_1 := Option.some.inj (hv455_1.symm.trans hx455_1)
                   rw [hv455_1] at ge455_1
                   have HL455_1 := Aside0.mk (show Kd.R (Kd.int .i64) 3 _ _ _ _ ((rd_T40 t447 x4_1).f1) from ge455_1)
                   clear hv455_1 ge455_1
                   clear hcc455 hce455
                   have HR455_1 := Aside0.mk hi455_1
                   have HC455_1 := Aside0.mk hl455_1
                   clear hi455_1 hl455_1
                   replace p455 := eq_true p455
                   replace q455 := eq_true q455
                   have ea_ := Option.some.inj (hx450_1.symm.trans hx455_1)
                   injection ea_ with ea_ en_ ec_
                   subst ea_
                   subst ec_
                   clear en_
                   have p456 : 0 ≤ (x5_2 : Int) := of_decide_eq_true (by first | (with_reducible assumption) | assumption)
                   have q456 : x5_2 < (t447.length : Int) := of_decide_eq_true (by first | (with_reducible assumption) | assumption)
                   obtain ⟨ad456, A456_1, c456_1, e456, hx456_0, hx456_1, hl456_1, hi456_1⟩ := at_T40 (Kd.S_reads' HO_3.out).2.2 x5_2 p456 q456
                   obtain rfl : ad450 = ad456 := (by injection e456)
                   obtain ⟨ce456, hce456, hMe456, hcc456⟩ := Kd.S_get HO_3.out z40 x5_2 p456 (by first | exact q456 | exact of_decide_eq_true (by first | (with_reducible assumption) | assumption) | (have e_ := (Kd.S_reads' HO_3.out).1; omega))
                   obtain ⟨ve456_1, rfl, ge456_1⟩ := k40_openM hMe456
                   have hv456_1 := hcc456 1 _ rfl
                   rw [add_field _ _ 1 (by omega)] at hv456_1
                   replace hv456_1 := Option.some.inj (hv456_1.symm.trans hx456_1)
                   rw [hv456_1] at ge456_1
                   have HL456_1 := Aside0.mk (show Kd.R (Kd.int .i64) 3 _ _ _ _ ((rd_T40 t447 x5_2).f1) from ge456_1)
                   clear hv456_1 ge456_1
                   clear hcc456 hce456
                   have HR456_1 := Aside0.mk hi456_1
                   have HC456_1 := Aside0.mk hl456_1
                   clear hi456_1 hl456_1
                   replace p456 := eq_true p456
                   replace q456 := eq_true q456
                   go_wp2_with (first | (go_at_call 21; (with_reducible refine (davitref07_Has.calls k3 _ _ ((rd_T40 t447 x4_1).f1) ((rd_T40 t447 x5_2).f0) false _ ?side1 ?side2 A27.out).mono ?_); (case side1 => repeat (first | exact (by repeat (first | (with_reducible exact HR455_1.out) | (with_reducible refine Kd.C_alloc ?_ _) | (with_reducible refine Kd.C_drewN ?_ _) | (with_reducible refine Kd.C_drew ?_) | exact HR455_1.out)) | (with_reducible refine Kd.C_alloc ?_ _) | (with_reducible refine Kd.C_drewN ?_ _) | (with_reducible refine Kd.C_drew ?_))); (case side2 => exact HC455_1.out); rintro e w' ⟨rfl, ⟨nd, rfl⟩⟩; (try first | exact ⟨rfl, _, World.drewN_drewN _ _ _⟩ | exact ⟨rfl, _, Eq.trans (World.drewN_drewN _ _ _) (congrArg (World.drewN _) (Nat.add_assoc _ _ _))⟩); have p458 : 0 ≤ (x5_2 : Int) := of_decide_eq_true (by first | (with_reducible assumption) | assumption); have q458 : x5_2 < (t447.length : Int) := of_decide_eq_true (by first | (with_reducible assumption) | assumption); obtain ⟨ad458, A458_1, c458_1, e458, hx458_0, hx458_1, hl458_1, hi458_1⟩ := at_T40 (Kd.S_reads' HO_3.out).2.2 x5_2 p458 q458; obtain rfl : ad450 = ad458 := (by injection e458); obtain ⟨ce458, hce458, hMe458, hcc458⟩ := Kd.S_get HO_3.out z40 x5_2 p458 (by first | exact q458 | exact of_decide_eq_true (by first | (with_reducible assumption) | assumption) | (have e_ := (Kd.S_reads' HO_3.out).1; omega)); obtain ⟨ve458_1, rfl, ge458_1⟩ := k40_openM hMe458; have hv458_1 := hcc458 1 _ rfl; rw [add_field _ _ 1 (by omega)] at hv458_1; replace hv458_1 := Option.some.inj (hv458_1.symm.trans hx458_1); rw [hv458_1] at ge458_1; have HL458_1 := Aside0.mk (show Kd.R (Kd.int .i64) 3 _ _ _ _ ((rd_T40 t447 x5_2).f1) from ge458_1); clear hv458_1 ge458_1; clear hcc458 hce458; have HR458_1 := Aside0.mk hi458_1; have HC458_1 := Aside0.mk hl458_1; clear hi458_1 hl458_1; replace p458 := eq_true p458; replace q458 := eq_true q458; have ea_ := Option.some.inj (hx456_1.symm.trans hx458_1); injection ea_ with ea_ en_ ec_; subst ea_; subst ec_; clear en_; have p459 : 0 ≤ (x4_1 : Int) := of_decide_eq_true (by first | (with_reducible assumption) | assumption); have q459 : x4_1 < (t447.length : Int) := of_decide_eq_true (by first | (with_reducible assumption) | assumption); obtain ⟨ad459, A459_1, c459_1, e459, hx459_0, hx459_1, hl459_1, hi459_1⟩ := at_T40 (Kd.S_reads' HO_3.out).2.2 x4_1 p459 q459; obtain rfl : ad450 = ad459 := (by injection e459); obtain ⟨ce459, hce459, hMe459, hcc459⟩ := Kd.S_get HO_3.out z40 x4_1 p459 (by first | exact q459 | exact of_decide_eq_true (by first | (with_reducible assumption) | assumption) | (have e_ := (Kd.S_reads' HO_3.out).1; omega)); obtain ⟨ve459_1, rfl, ge459_1⟩ := k40_openM hMe459; have hv459_1 := hcc459 1 _ rfl; rw [add_field _ _ 1 (by omega)] at hv459_1; replace hv459_1 := Option.some.inj (hv459_1.symm.trans hx459_1); rw [hv459_1] at ge459_1; have HL459_1 := Aside0.mk (show Kd.R (Kd.int .i64) 3 _ _ _ _ ((rd_T40 t447 x4_1).f1) from ge459_1); clear hv459_1 ge459_1; clear hcc459 hce459; have HR459_1 := Aside0.mk hi459_1; have HC459_1 := Aside0.mk hl459_1; clear hi459_1 hl459_1; replace p459 := eq_true p459; replace q459 := eq_true q459; have ea_ := Option.some.inj (hx450_1.symm.trans hx459_1); injection ea_ with ea_ en_ ec_; subst ea_; subst ec_; clear en_) | (go_at_call 21; (with_reducible refine (davitref07_Has.calls k3 _ _ ((rd_T40 t447 x5_2).f1) ((rd_T40 t447 x4_1).f0) false _ ?side1 ?side2 A29.out).mono ?_); (case side1 => repeat (first | exact (by repeat (first | (with_reducible exact HR458_1.out) | (with_reducible refine Kd.C_alloc ?_ _) | (with_reducible refine Kd.C_drewN ?_ _) | (with_reducible refine Kd.C_drew ?_) | exact HR458_1.out)) | (with_reducible refine Kd.C_alloc ?_ _) | (with_reducible refine Kd.C_drewN ?_ _) | (with_reducible refine Kd.C_drew ?_))); (case side2 => exact HC458_1.out); rintro e w' ⟨rfl, ⟨nd, rfl⟩⟩; (try first | exact ⟨rfl, _, World.drewN_drewN _ _ _⟩ | exact ⟨rfl, _, Eq.trans (World.drewN_drewN _ _ _) (congrArg (World.drewN _) (Nat.add_assoc _ _ _))⟩)))
                   repeat (go_quiet (first | (go_at_call 21; (with_reducible refine (davitref07_Has.calls k3 _ _ ((rd_T40 t447 x4_1).f1) ((rd_T40 t447 x5_2).f0) false _ ?side1 ?side2 A27.out).mono ?_); (case side1 => repeat (first | exact (by repeat (first | (with_reducible exact HR455_1.out) | (with_reducible refine Kd.C_alloc ?_ _) | (with_reducible refine Kd.C_drewN ?_ _) | (with_reducible refine Kd.C_drew ?_) | exact HR455_1.out)) | (with_reducible refine Kd.C_alloc ?_ _) | (with_reducible refine Kd.C_drewN ?_ _) | (with_reducible refine Kd.C_drew ?_))); (case side2 => exact HC455_1.out); rintro e w' ⟨rfl, ⟨nd, rfl⟩⟩; (try first | exact ⟨rfl, _, World.drewN_drewN _ _ _⟩ | exact ⟨rfl, _, Eq.trans (World.drewN_drewN _ _ _) (congrArg (World.drewN _) (Nat.add_assoc _ _ _))⟩); have p458 : 0 ≤ (x5_2 : Int) := of_decide_eq_true (by first | (with_reducible assumption) | assumption); have q458 : x5_2 < (t447.length : Int) := of_decide_eq_true (by first | (with_reducible assumption) | assumption); obtain ⟨ad458, A458_1, c458_1, e458, hx458_0, hx458_1, hl458_1, hi458_1⟩ := at_T40 (Kd.S_reads' HO_3.out).2.2 x5_2 p458 q458; obtain rfl : ad450 = ad458 := (by injection e458); obtain ⟨ce458, hce458, hMe458, hcc458⟩ := Kd.S_get HO_3.out z40 x5_2 p458 (by first | exact q458 | exact of_decide_eq_true (by first | (with_reducible assumption) | assumption) | (have e_ := (Kd.S_reads' HO_3.out).1; omega)); obtain ⟨ve458_1, rfl, ge458_1⟩ := k40_openM hMe458; have hv458_1 := hcc458 1 _ rfl; rw [add_field _ _ 1 (by omega)] at hv458_1; replace hv458_1 := Option.some.inj (hv458_1.symm.trans hx458_1); rw [hv458_1] at ge458_1; have HL458_1 := Aside0.mk (show Kd.R (Kd.int .i64) 3 _ _ _ _ ((rd_T40 t447 x5_2).f1) from ge458_1); clear hv458_1 ge458_1; clear hcc458 hce458; have HR458_1 := Aside0.mk hi458_1; have HC458_1 := Aside0.mk hl458_1; clear hi458_1 hl458_1; replace p458 := eq_true p458; replace q458 := eq_true q458; have ea_ := Option.some.inj (hx456_1.symm.trans hx458_1); injection ea_ with ea_ en_ ec_; subst ea_; subst ec_; clear en_; have p459 : 0 ≤ (x4_1 : Int) := of_decide_eq_true (by first | (with_reducible assumption) | assumption); have q459 : x4_1 < (t447.length : Int) := of_decide_eq_true (by first | (with_reducible assumption) | assumption); obtain ⟨ad459, A459_1, c459_1, e459, hx459_0, hx459_1, hl459_1, hi459_1⟩ := at_T40 (Kd.S_reads' HO_3.out).2.2 x4_1 p459 q459; obtain rfl : ad450 = ad459 := (by injection e459); obtain ⟨ce459, hce459, hMe459, hcc459⟩ := Kd.S_get HO_3.out z40 x4_1 p459 (by first | exact q459 | exact of_decide_eq_true (by first | (with_reducible assumption) | assumption) | (have e_ := (Kd.S_reads' HO_3.out).1; omega)); obtain ⟨ve459_1, rfl, ge459_1⟩ := k40_openM hMe459; have hv459_1 := hcc459 1 _ rfl; rw [add_field _ _ 1 (by omega)] at hv459_1; replace hv459_1 := Option.some.inj (hv459_1.symm.trans hx459_1); rw [hv459_1] at ge459_1; have HL459_1 := Aside0.mk (show Kd.R (Kd.int .i64) 3 _ _ _ _ ((rd_T40 t447 x4_1).f1) from ge459_1); clear hv459_1 ge459_1; clear hcc459 hce459; have HR459_1 := Aside0.mk hi459_1; have HC459_1 := Aside0.mk hl459_1; clear hi459_1 hl459_1; replace p459 := eq_true p459; replace q459 := eq_true q459; have ea_ := Option.some.inj (hx450_1.symm.trans hx459_1); injection ea_ with ea_ en_ ec_; subst ea_; subst ec_; clear en_) | (go_at_call 21; (with_reducible refine (davitref07_Has.calls k3 _ _ ((rd_T40 t447 x5_2).f1) ((rd_T40 t447 x4_1).f0) false _ ?side1 ?side2 A29.out).mono ?_); (case side1 => repeat (first | exact (by repeat (first | (with_reducible exact HR458_1.out) | (with_reducible refine Kd.C_alloc ?_ _) | (with_reducible refine Kd.C_drewN ?_ _) | (with_reducible refine Kd.C_drew ?_) | exact HR458_1.out)) | (with_reducible refine Kd.C_alloc ?_ _) | (with_reducible refine Kd.C_drewN ?_ _) | (with_reducible refine Kd.C_drew ?_))); (case side2 => exact HC458_1.out); rintro e w' ⟨rfl, ⟨nd, rfl⟩⟩; (try first | exact ⟨rfl, _, World.drewN_drewN _ _ _⟩ | exact ⟨rfl, _, Eq.trans (World.drewN_drewN _ _ _) (congrArg (World.drewN _) (Nat.add_assoc _ _ _))⟩))); try go_wp2_with (first | (go_at_call 21; (with_reducible refine (davitref07_Has.calls k3 _ _ ((rd_T40 t447 x4_1).f1) ((rd_T40 t447 x5_2).f0) false _ ?side1 ?side2 A27.out).mono ?_); (case side1 => repeat (first | exact (by repeat (first | (with_reducible exact HR455_1.out) | (with_reducible refine Kd.C_alloc ?_ _) | (with_reducible refine Kd.C_drewN ?_ _) | (with_reducible refine Kd.C_drew ?_) | exact HR455_1.out)) | (with_reducible refine Kd.C_alloc ?_ _) | (with_reducible refine Kd.C_drewN ?_ _) | (with_reducible refine Kd.C_drew ?_))); (case side2 => exact HC455_1.out); rintro e w' ⟨rfl, ⟨nd, rfl⟩⟩; (try first | exact ⟨rfl, _, World.drewN_drewN _ _ _⟩ | exact ⟨rfl, _, Eq.trans (World.drewN_drewN _ _ _) (congrArg (World.drewN _) (Nat.add_assoc _ _ _))⟩); have p458 : 0 ≤ (x5_2 : Int) := of_decide_eq_true (by first | (with_reducible assumption) | assumption); have q458 : x5_2 < (t447.length : Int) := of_decide_eq_true (by first | (with_reducible assumption) | assumption); obtain ⟨ad458, A458_1, c458_1, e458, hx458_0, hx458_1, hl458_1, hi458_1⟩ := at_T40 (Kd.S_reads' HO_3.out).2.2 x5_2 p458 q458; obtain rfl : ad450 = ad458 := (by injection e458); obtain ⟨ce458, hce458, hMe458, hcc458⟩ := Kd.S_get HO_3.out z40 x5_2 p458 (by first | exact q458 | exact of_decide_eq_true (by first | (with_reducible assumption) | assumption) | (have e_ := (Kd.S_reads' HO_3.out).1; omega)); obtain ⟨ve458_1, rfl, ge458_1⟩ := k40_openM hMe458; have hv458_1 := hcc458 1 _ rfl; rw [add_field _ _ 1 (by omega)] at hv458_1; replace hv458_1 := Option.some.inj (hv458_1.symm.trans hx458_1); rw [hv458_1] at ge458_1; have HL458_1 := Aside0.mk (show Kd.R (Kd.int .i64) 3 _ _ _ _ ((rd_T40 t447 x5_2).f1) from ge458_1); clear hv458_1 ge458_1; clear hcc458 hce458; have HR458_1 := Aside0.mk hi458_1; have HC458_1 := Aside0.mk hl458_1; clear hi458_1 hl458_1; replace p458 := eq_true p458; replace q458 := eq_true q458; have ea_ := Option.some.inj (hx456_1.symm.trans hx458_1); injection ea_ with ea_ en_ ec_; subst ea_; subst ec_; clear en_; have p459 : 0 ≤ (x4_1 : Int) := of_decide_eq_true (by first | (with_reducible assumption) | assumption); have q459 : x4_1 < (t447.length : Int) := of_decide_eq_true (by first | (with_reducible assumption) | assumption); obtain ⟨ad459, A459_1, c459_1, e459, hx459_0, hx459_1, hl459_1, hi459_1⟩ := at_T40 (Kd.S_reads' HO_3.out).2.2 x4_1 p459 q459; obtain rfl : ad450 = ad459 := (by injection e459); obtain ⟨ce459, hce459, hMe459, hcc459⟩ := Kd.S_get HO_3.out z40 x4_1 p459 (by first | exact q459 | exact of_decide_eq_true (by first | (with_reducible assumption) | assumption) | (have e_ := (Kd.S_reads' HO_3.out).1; omega)); obtain ⟨ve459_1, rfl, ge459_1⟩ := k40_openM hMe459; have hv459_1 := hcc459 1 _ rfl; rw [add_field _ _ 1 (by omega)] at hv459_1; replace hv459_1 := Option.some.inj (hv459_1.symm.trans hx459_1); rw [hv459_1] at ge459_1; have HL459_1 := Aside0.mk (show Kd.R (Kd.int .i64) 3 _ _ _ _ ((rd_T40 t447 x4_1).f1) from ge459_1); clear hv459_1 ge459_1; clear hcc459 hce459; have HR459_1 := Aside0.mk hi459_1; have HC459_1 := Aside0.mk hl459_1; clear hi459_1 hl459_1; replace p459 := eq_true p459; replace q459 := eq_true q459; have ea_ := Option.some.inj (hx450_1.symm.trans hx459_1); injection ea_ with ea_ en_ ec_; subst ea_; subst ec_; clear en_) | (go_at_call 21; (with_reducible refine (davitref07_Has.calls k3 _ _ ((rd_T40 t447 x5_2).f1) ((rd_T40 t447 x4_1).f0) false _ ?side1 ?side2 A29.out).mono ?_); (case side1 => repeat (first | exact (by repeat (first | (with_reducible exact HR458_1.out) | (with_reducible refine Kd.C_alloc ?_ _) | (with_reducible refine Kd.C_drewN ?_ _) | (with_reducible refine Kd.C_drew ?_) | exact HR458_1.out)) | (with_reducible refine Kd.C_alloc ?_ _) | (with_reducible refine Kd.C_drewN ?_ _) | (with_reducible refine Kd.C_drew ?_))); (case side2 => exact HC458_1.out); rintro e w' ⟨rfl, ⟨nd, rfl⟩⟩; (try first | exact ⟨rfl, _, World.drewN_drewN _ _ _⟩ | exact ⟨rfl, _, Eq.trans (World.drewN_drewN _ _ _) (congrArg (World.drewN _) (Nat.add_assoc _ _ _))⟩))))
                   go_ret
                   exact ⟨by first | rfl | (simp [errW_none, errW_some] <;> rfl) | (simp [*, errW_none, errW_some] <;> rfl), by repeat (first | (with_reducible first | exact HB.out | apply below_alloc | apply pw_below_drewN | apply below_drew1 | refine below_set ?_ GE445.out) | exact HB.out)⟩
                ·rw [if_neg c26] at H
                 exact absurd H (by simp)
               ·rw [if_neg c25] at H
                exact absurd H (by simp)
              ·replace c24 := Bool.eq_false_iff.mpr c24
               subst c24
               have H1 : (davitlaw09_LoopNests.l1 k3 t447 x4_1 (wrap64 (x5_2 + 1))) = some r := by rw [if_neg (show ¬ (false = true) by decide)] at H; exact H
               clear H
               have H := H1
               clear H1
               have H' := Aside0.mk H
               clear H
               have p450 : 0 ≤ (x4_1 : Int) := of_decide_eq_true (by first | (with_reducible assumption) | assumption)
               have q450 : x4_1 < (t447.length : Int) := of_decide_eq_true (by first | (with_reducible assumption) | assumption)
               obtain ⟨ad450, A450_1, c450_1, e450, hx450_0, hx450_1, hl450_1, hi450_1⟩ := at_T40 (Kd.S_reads' HO_3.out).2.2 x4_1 p450 q450
               cases e450
               obtain ⟨ce450, hce450, hMe450, hcc450⟩ := Kd.S_get HO_3.out z40 x4_1 p450 (by first | exact q450 | exact of_decide_eq_true (by first | (with_reducible assumption) | assumption) | (have e_ := (Kd.S_reads' HO_3.out).1; omega))
               obtain ⟨ve450_1, rfl, ge450_1⟩ := k40_openM hMe450
               have hv450_1 := hcc450 1 _ rfl
               rw [add_field _ _ 1 (by omega)] at hv450_1
               replace hv450_1 := Option.some.inj (hv450_1.symm.trans hx450_1)
               rw [hv450_1] at ge450_1
               have HL450_1 := Aside0.mk (show Kd.R (Kd.int .i64) 3 _ _ _ _ ((rd_T40 t447 x4_1).f1) from ge450_1)
               clear hv450_1 ge450_1
               clear hcc450 hce450
               have HR450_1 := Aside0.mk hi450_1
               have HC450_1 := Aside0.mk hl450_1
               clear hi450_1 hl450_1
               replace p450 := eq_true p450
               replace q450 := eq_true q450
               go_wp2
               repeat (go_quiet (fail); try go_wp2)
               go_roundg k3
               case measure => have := HK1.out; have := HK2.out; have := HK3.out; omega
               case rel => exact ⟨(wrap64 (x5_2 + 1)), (by first | rfl | (simp; done) | (simp [*]; done)), H', ⟨by have := HK1.out; have := HK2.out; have := HK3.out; omega⟩, ⟨by (with_reducible repeat (first | apply Kd.S_alloc | apply Kd.S_drewN | apply Kd.S_drew)); exact HO_3.out⟩, ⟨by (with_reducible repeat (first | refine blk_drewN ?_ _ | refine blk_drew ?_ | refine blk_alloc ?_ _)); exact BK445.out⟩, ⟨by repeat (first | (with_reducible first | exact HB.out | apply below_alloc | apply pw_below_drewN | apply below_drew1 | refine below_set ?_ GE445.out) | exact HB.out)⟩⟩
            ·rw [if_neg c17] at H
             exact absurd H (by simp)
           ·rw [if_neg c16] at H
            exact absurd H (by simp)
        ·rw [if_neg c15] at H
         have c15b0 : decide (x5_2 < x4_1) = false := decide_eq_false c15
         clear c15
         have H' := Aside0.mk H
         clear H
         go_wp2
         repeat (go_quiet (fail); try go_wp2)
         go_roundg k2
         case measure => have := HK1.out; have := HK2.out; omega
         case rel => exact ⟨(wrap64 (x4_1 + 1)), (by first | rfl | (simp; done) | (simp [*]; done)), H', ⟨by have := HK1.out; have := HK2.out; omega⟩, ⟨by (with_reducible repeat (first | apply Kd.S_alloc | apply Kd.S_drewN | apply Kd.S_drew)); exact HO_3.out⟩, ⟨by (with_reducible repeat (first | refine blk_drewN ?_ _ | refine blk_drew ?_ | refine blk_alloc ?_ _)); exact BK445.out⟩, ⟨by repeat (first | (with_reducible first | exact HB.out | apply below_alloc | apply pw_below_drewN | apply below_drew1 | refine below_set ?_ GE445.out) | exact HB.out)⟩⟩
     ·rw [if_neg c13] at H
      have c13b0 : decide (x4_1 < (t447.length : Int)) = false := decide_eq_false c13
      clear c13
      obtain rfl := Option.some.inj H
      obtain ⟨Ao31, co31, eo31⟩ := Kd.S_slice HO_3.out
      subst eo31
      go_wp2
      repeat (go_quiet (fail); try go_wp2)
      go_ret
      exact ⟨by first | rfl | (simp [errW_none, errW_some] <;> rfl) | (simp [*, errW_none, errW_some] <;> rfl), by repeat (first | (with_reducible first | exact HB.out | apply below_alloc | apply pw_below_drewN | apply below_drew1 | refine below_set ?_ GE445.out) | exact HB.out)⟩
 ·replace c3 := Bool.eq_false_iff.mpr c3
  subst c3
  have H1 : (some false) = some r := by rw [if_neg (show ¬ (false = true) by decide)] at H; exact H
  clear H
  have H := H1
  clear H1
  obtain rfl := Option.some.inj H
  go_enter Try.func9, Try.ntmps9
  go_wp2_with (first | ((with_reducible refine gate_dst (N := 1) rfl ?_); refine box_event ?hg (N := 1) ?hd (cs := #[.int .i64 a0_0, .int .i64 a0_1, .slice A0_2 l0_2.length c0_2]) (t := 24) ?hr ?_; (case hd => rfl); (case hg => rfl); (case hr => first | (go_simp; done) | (go_simp; rfl)); intro gb445 hg w32 hbox hb; have n0_ := Aside0.mk (below_step (by repeat (first | (with_reducible first | exact HB.out | apply below_alloc | apply pw_below_drewN | apply below_drew1) | exact HB.out)) hb); have n1_ := Aside0.mk (hbox); have n2_ := Aside0.mk ((by rw [hg]; exact (below_size (by repeat (first | (with_reducible first | exact HB.out | apply below_alloc | apply pw_below_drewN | apply below_drew1) | exact HB.out))) : w.heap.size ≤ gb445)); have n3_ := Aside0.mk ((by rw [hg]; exact (below_size (by repeat (first | (with_reducible first | exact HB.out | apply below_alloc | apply pw_below_drewN | apply below_drew1) | exact HB.out))) : w.heap.size ≤ gb445)); clear HB; have HB := n0_; have BK445 := n1_; have GW445 := n2_; have GE445 := n3_; clear n0_ n1_ n2_ n3_; clear hb hbox hg) | (go_at_call 22; (with_reducible refine (davitlaw09_awake.calls k  false _ A2.out).mono ?_); rintro e w33 ⟨rfl, hb⟩; have n0_ := Aside0.mk (blk_below (g := gb445) (o := .cells #[.int .i64 a0_0, .int .i64 a0_1, .slice A0_2 l0_2.length c0_2] 24 (0, 0)) (by (with_reducible repeat (first | refine blk_drewN ?_ _ | refine blk_drew ?_ | refine blk_alloc ?_ _)); exact BK445.out) hb); have n1_ := Aside0.mk (below_step (by repeat (first | (with_reducible first | exact HB.out | apply below_alloc | apply pw_below_drewN | apply below_drew1 | refine below_set ?_ GE445.out) | exact HB.out)) hb); clear BK445; clear HB; have BK445 := n0_; have HB := n1_; clear n0_ n1_; (try clear hb); (try clear hb2); (try clear hk); (try clear hi)))
  repeat (go_quiet (first | ((with_reducible refine gate_dst (N := 1) rfl ?_); refine box_event ?hg (N := 1) ?hd (cs := #[.int .i64 a0_0, .int .i64 a0_1, .slice A0_2 l0_2.length c0_2]) (t := 24) ?hr ?_; (case hd => rfl); (case hg => rfl); (case hr => first | (go_simp; done) | (go_simp; rfl)); intro gb445 hg w32 hbox hb; have n0_ := Aside0.mk (below_step (by repeat (first | (with_reducible first | exact HB.out | apply below_alloc | apply pw_below_drewN | apply below_drew1) | exact HB.out)) hb); have n1_ := Aside0.mk (hbox); have n2_ := Aside0.mk ((by rw [hg]; exact (below_size (by repeat (first | (with_reducible first | exact HB.out | apply below_alloc | apply pw_below_drewN | apply below_drew1) | exact HB.out))) : w.heap.size ≤ gb445)); have n3_ := Aside0.mk ((by rw [hg]; exact (below_size (by repeat (first | (with_reducible first | exact HB.out | apply below_alloc | apply pw_below_drewN | apply below_drew1) | exact HB.out))) : w.heap.size ≤ gb445)); clear HB; have HB := n0_; have BK445 := n1_; have GW445 := n2_; have GE445 := n3_; clear n0_ n1_ n2_ n3_; clear hb hbox hg) | (go_at_call 22; (with_reducible refine (davitlaw09_awake.calls k  false _ A2.out).mono ?_); rintro e w33 ⟨rfl, hb⟩; have n0_ := Aside0.mk (blk_below (g := gb445) (o := .cells #[.int .i64 a0_0, .int .i64 a0_1, .slice A0_2 l0_2.length c0_2] 24 (0, 0)) (by (with_reducible repeat (first | refine blk_drewN ?_ _ | refine blk_drew ?_ | refine blk_alloc ?_ _)); exact BK445.out) hb); have n1_ := Aside0.mk (below_step (by repeat (first | (with_reducible first | exact HB.out | apply below_alloc | apply pw_below_drewN | apply below_drew1 | refine below_set ?_ GE445.out) | exact HB.out)) hb); clear BK445; clear HB; have BK445 := n0_; have HB := n1_; clear n0_ n1_; (try clear hb); (try clear hb2); (try clear hk); (try clear hi))); try go_wp2_with (first | ((with_reducible refine gate_dst (N := 1) rfl ?_); refine box_event ?hg (N := 1) ?hd (cs := #[.int .i64 a0_0, .int .i64 a0_1, .slice A0_2 l0_2.length c0_2]) (t := 24) ?hr ?_; (case hd => rfl); (case hg => rfl); (case hr => first | (go_simp; done) | (go_simp; rfl)); intro gb445 hg w32 hbox hb; have n0_ := Aside0.mk (below_step (by repeat (first | (with_reducible first | exact HB.out | apply below_alloc | apply pw_below_drewN | apply below_drew1) | exact HB.out)) hb); have n1_ := Aside0.mk (hbox); have n2_ := Aside0.mk ((by rw [hg]; exact (below_size (by repeat (first | (with_reducible first | exact HB.out | apply below_alloc | apply pw_below_drewN | apply below_drew1) | exact HB.out))) : w.heap.size ≤ gb445)); have n3_ := Aside0.mk ((by rw [hg]; exact (below_size (by repeat (first | (with_reducible first | exact HB.out | apply below_alloc | apply pw_below_drewN | apply below_drew1) | exact HB.out))) : w.heap.size ≤ gb445)); clear HB; have HB := n0_; have BK445 := n1_; have GW445 := n2_; have GE445 := n3_; clear n0_ n1_ n2_ n3_; clear hb hbox hg) | (go_at_call 22; (with_reducible refine (davitlaw09_awake.calls k  false _ A2.out).mono ?_); rintro e w33 ⟨rfl, hb⟩; have n0_ := Aside0.mk (blk_below (g := gb445) (o := .cells #[.int .i64 a0_0, .int .i64 a0_1, .slice A0_2 l0_2.length c0_2] 24 (0, 0)) (by (with_reducible repeat (first | refine blk_drewN ?_ _ | refine blk_drew ?_ | refine blk_alloc ?_ _)); exact BK445.out) hb); have n1_ := Aside0.mk (below_step (by repeat (first | (with_reducible first | exact HB.out | apply below_alloc | apply pw_below_drewN | apply below_drew1 | refine below_set ?_ GE445.out) | exact HB.out)) hb); clear BK445; clear HB; have BK445 := n0_; have HB := n1_; clear n0_ n1_; (try clear hb); (try clear hb2); (try clear hk); (try clear hi))))
  go_ret
  exact ⟨by first | rfl | (simp [errW_none, errW_some] <;> rfl) | (simp [*, errW_none, errW_some] <;> rfl), by repeat (first | (with_reducible first | exact HB.out | apply below_alloc | apply pw_below_drewN | apply below_drew1 | refine below_set ?_ GE445.out) | exact HB.out)⟩
end
end Go.Proofs.Ytilopoegoddggaa.X
namespace Go.Proofs.Ytilopoegoddggaa.G
set_option linter.all false
def Evt {α : Type} (g : Nat → Option α) (r : α) : Prop := ∃ k0, ∀ k, k0 ≤ k → g k = some r
theorem Evt.succ {α : Type} {g : Nat → Option α} {r : α} (h : Evt (fun k => g (k + 1)) r) : Evt g r := by
 obtain ⟨k0, h⟩ := h
 refine ⟨k0 + 1, fun k hk => ?_⟩
 obtain ⟨j, rfl⟩ : ∃ j, k = j + 1 := ⟨k - 1, by omega⟩
 exact h j (by omega)
theorem Evt.bind {α β : Type} {g : Nat → Option α} {h : Nat → α → Option β} {a : α} {r : β} (h1 : Evt g a) (h2 : Evt (fun k => h k a) r) : Evt (fun k => (g k).bind (h k)) r := by
 obtain ⟨k1, h1⟩ := h1
 obtain ⟨k2, h2⟩ := h2
 refine ⟨k1 + k2, fun k hk => ?_⟩
 show (g k).bind (h k) = some r
 rw [h1 k (by omega)]
 exact h2 k (by omega)
theorem Evt.pure {α : Type} (r : α) : Evt (fun _ => some r) r := ⟨0, fun _ _ => rfl⟩
theorem Evt.congr {α : Type} {g g' : Nat → Option α} {r : α} (h : Evt g' r) (e : ∀ k, g k = g' k) : Evt g r := by
 obtain ⟨k0, h⟩ := h
 exact ⟨k0, fun k hk => (e k).trans (h k hk)⟩
theorem Evt.inj {α : Type} {g : Nat → Option α} {r s : α} (h1 : Evt g r) (h2 : Evt g s) : r = s := by
 obtain ⟨k1, h1⟩ := h1
 obtain ⟨k2, h2⟩ := h2
 have e1 := h1 (k1 + k2) (by omega)
 have e2 := h2 (k1 + k2) (by omega)
 rw [e1] at e2
 exact Option.some.inj e2
theorem Evt.ex {α : Type} {g : Nat → Option α} {r : α} (h : Evt g r) : ∃ k, g k = some r := by
 obtain ⟨k0, h⟩ := h
 exact ⟨k0, h k0 (Nat.le_refl _)⟩
inductive Rch (N : Nat) (sc : Int → List Int) (no : Int) : Int → Prop
 | zero : 0 < N → (0 : Int) ≠ no → Rch N sc no 0
 | step {a b : Int} : Rch N sc no a → b ∈ sc a → b ≠ no → Rch N sc no b
def Dom (N : Nat) (sc : Int → List Int) (a b : Int) : Prop := Rch N sc (-1) b ∧ (0 ≤ a ∧ a < N) ∧ (a = b ∨ ¬ Rch N sc a b)
inductive Anc (o : Int → Int) : Int → Int → Prop
 | refl (n : Int) : Anc o n n
 | up {a n : Int} : n ≠ 0 → Anc o a (o n) → Anc o a n
section
variable {N : Nat} {sc : Int → List Int}
def Edges (N : Nat) (sc : Int → List Int) : Prop := ∀ a b, b ∈ sc a → (0 ≤ a ∧ a < N) ∧ (0 ≤ b ∧ b < N)
theorem Rch.inV (he : Edges N sc) {no n : Int} (h : Rch N sc no n) : 0 ≤ n ∧ n < N := by
 cases h with
 | zero h0 _ => omega
 | step _ h _ => exact (he _ _ h).2
theorem Rch.ne {no n : Int} (h : Rch N sc no n) : n ≠ no := by
 cases h with
 | zero _ h => exact h
 | step _ _ h => exact h
theorem Rch.any (he : Edges N sc) {no n : Int} (h : Rch N sc no n) : Rch N sc (-1) n := by
 induction h with
 | zero h0 _ => exact .zero h0 (by omega)
 | step _ hs _ ih => exact .step ih hs (by have := (he _ _ hs).2; omega)
theorem Rch.next (he : Edges N sc) {a b : Int} (h : Rch N sc (-1) a) (hs : b ∈ sc a) : Rch N sc (-1) b := .step h hs (by have := (he _ _ hs).2; omega)
theorem Dom.refl (he : Edges N sc) {a : Int} (h : Rch N sc (-1) a) : Dom N sc a a := ⟨h, h.inV he, .inl rfl⟩
theorem Dom.pred (he : Edges N sc) {x m p : Int} (h : Dom N sc x m) (hne : x ≠ m) (hs : m ∈ sc p) (hp : Rch N sc (-1) p) : Dom N sc x p := by
 obtain ⟨h1, h2, h3⟩ := h
 refine ⟨hp, h2, ?_⟩
 rcases h3 with h3 | h3
 ·exact absurd h3 hne
 ·exact .inr fun h => h3 (.step h hs (fun e => hne e.symm))
theorem Dom.at_zero {x : Int} (h : Dom N sc x 0) : x = 0 := by
 obtain ⟨h1, h2, h3⟩ := h
 rcases h3 with h3 | h3
 ·exact h3
 ·by_cases hx : x = 0
  ·exact hx
  ·exact absurd (.zero (by omega) (fun e => hx e.symm)) h3
theorem no_rch0 {n : Int} (h : Rch N sc 0 n) : False := by
 induction h with
 | zero _ h => exact h rfl
 | step _ _ _ ih => exact ih
theorem Dom.zero {n : Int} (h : Rch N sc (-1) n) (hN : 0 < N) : Dom N sc 0 n := ⟨h, ⟨by omega, by omega⟩, .inr no_rch0⟩
end
section
variable {o : Int → Int}
theorem Anc.trans {a b c : Int} (h1 : Anc o a b) (h2 : Anc o b c) : Anc o a c := by
 induction h2 with
 | refl => exact h1
 | up h0 _ ih => exact .up h0 ih
theorem Anc.at_zero {a : Int} (h : Anc o a 0) : a = 0 := by
 cases h with
 | refl => rfl
 | up h0 _ => exact absurd rfl h0
theorem Anc.total {a b n : Int} (h1 : Anc o a n) (h2 : Anc o b n) : Anc o a b ∨ Anc o b a := by
 induction h1 with
 | refl => exact .inr h2
 | up h0 h1 ih =>
  cases h2 with
  | refl => exact .inl (.up h0 h1)
  | up _ h2 => exact ih h2
theorem Anc.cases_ne {a n : Int} (h : Anc o a n) (hne : a ≠ n) : n ≠ 0 ∧ Anc o a (o n) := by
 cases h with
 | refl => exact absurd rfl hne
 | up h0 h1 => exact ⟨h0, h1⟩
end
section
variable (N : Nat) (sc : Int → List Int) (place : Int → Int)
structure Pl : Prop where
 edge : Edges N sc
 zero : place 0 = 0
 pos : ∀ n, Rch N sc (-1) n → 0 ≤ place n
 inj : ∀ a b, Rch N sc (-1) a → Rch N sc (-1) b → place a = place b → a = b
 pred : ∀ n, Rch N sc (-1) n → n ≠ 0 → ∃ q, Rch N sc (-1) q ∧ n ∈ sc q ∧ place q < place n
structure Tree (o : Int → Int) : Prop where
 zero : o 0 = 0
 neg : ∀ n : Int, 0 ≤ n → n < N → ¬ Rch N sc (-1) n → o n = -1
 low : ∀ n : Int, 0 ≤ n → n < N → -1 ≤ o n
 up : ∀ n, Rch N sc (-1) n → n ≠ 0 → 0 ≤ o n → Rch N sc (-1) (o n) ∧ 0 ≤ o (o n) ∧ place (o n) < place n
structure Inv (o : Int → Int) (i : Int) (fin : Bool) : Prop extends Tree N sc place o where
 P : ∀ m, Rch N sc (-1) m → (place m < i ∨ fin = true) → 0 ≤ o m
 U : ∀ m, Rch N sc (-1) m → 0 ≤ o m → ∀ x, Dom N sc x m → Anc o x m
 K : ∀ m, Rch N sc (-1) m → m ≠ 0 → 0 ≤ o m → ∀ x, (∀ p, m ∈ sc p → Rch N sc (-1) p → 0 ≤ o p → Anc o x p) → Anc o x (o m)
 M : ∀ m q, Rch N sc (-1) m → m ≠ 0 → 0 ≤ o m → m ∈ sc q → Rch N sc (-1) q → place q < place m → 0 ≤ o q ∧ ∀ x, x ≠ m → Anc o x m → (place m < i ∨ i ≤ place x) → Anc o x q
end
section
variable {N : Nat} {sc : Int → List Int} {place o : Int → Int}
theorem Tree.anc (T : Tree N sc place o) {a n : Int} (h : Anc o a n) (hr : Rch N sc (-1) n) (hp : 0 ≤ o n) : Rch N sc (-1) a ∧ 0 ≤ o a ∧ place a ≤ place n := by
 induction h with
 | refl => exact ⟨hr, hp, Int.le_refl _⟩
 | up h0 _ ih =>
  obtain ⟨h1, h2, h3⟩ := T.up _ hr h0 hp
  obtain ⟨r1, r2, r3⟩ := ih h1 h2
  exact ⟨r1, r2, by omega⟩
theorem Tree.lt (T : Tree N sc place o) {a n : Int} (h : Anc o a n) (hne : a ≠ n) (hr : Rch N sc (-1) n) (hp : 0 ≤ o n) : place a < place n := by
 obtain ⟨h0, h1⟩ := h.cases_ne hne
 obtain ⟨r1, r2, r3⟩ := T.up _ hr h0 hp
 have := (T.anc h1 r1 r2).2.2
 omega
theorem Tree.antisymm (T : Tree N sc place o) {a n : Int} (h : Anc o a n) (h' : Anc o n a) (hr : Rch N sc (-1) n) (hp : 0 ≤ o n) : a = n := by
 by_cases he : a = n
 ·exact he
 ·have h1 := T.lt h he hr hp
  obtain ⟨r1, r2, _⟩ := T.anc h hr hp
  have h2 := (T.anc h' r1 r2).2.2
  omega
theorem Tree.above (T : Tree N sc place o) {a b n : Int} (h1 : Anc o a n) (h2 : Anc o b n) (hr : Rch N sc (-1) n) (hp : 0 ≤ o n) (hl : place a < place b) : Anc o a b := by
 rcases h1.total h2 with h | h
 ·exact h
 ·obtain ⟨r1, r2, _⟩ := T.anc h1 hr hp
  have := (T.anc h r1 r2).2.2
  omega
theorem Tree.root (T : Tree N sc place o) (L : Pl N sc place) : ∀ (j : Nat) (n : Int), (place n).toNat ≤ j → Rch N sc (-1) n → 0 ≤ o n → Anc o 0 n
 | 0, n, hj, hr, hp => by
  by_cases h0 : n = 0
  ·exact h0 ▸ .refl _
  ·obtain ⟨r1, r2, r3⟩ := T.up n hr h0 hp
   have := L.pos _ r1
   omega
 | j + 1, n, hj, hr, hp => by
  by_cases h0 : n = 0
  ·exact h0 ▸ .refl _
  ·obtain ⟨r1, r2, r3⟩ := T.up n hr h0 hp
   have := L.pos _ r1
   exact .up h0 (T.root L j (o n) (by omega) r1 r2)
def upd (o : Int → Int) (n r : Int) : Int → Int := fun x => if x = n then r else o x
theorem upd_self (o : Int → Int) (n r : Int) : upd o n r n = r := by simp [upd]
theorem upd_ne (o : Int → Int) {n r x : Int} (h : x ≠ n) : upd o n r x = o x := by simp [upd, h]
section
variable {i n0 r : Int} {fin : Bool}
structure Best (N : Nat) (sc : Int → List Int) (o : Int → Int) (n0 r : Int) : Prop where
 rch : Rch N sc (-1) r
 done : 0 ≤ o r
 all : ∀ x, Anc o x r ↔ ∀ p, n0 ∈ sc p → Rch N sc (-1) p → 0 ≤ o p → Anc o x p
theorem upd_low (T : Tree N sc place o) {x m : Int} (hr : Rch N sc (-1) m) (hp : 0 ≤ o m) (hl : place m < place n0) : Anc (upd o n0 r) x m ↔ Anc o x m := by
 constructor
 ·intro h
  induction h with
  | refl => exact .refl _
  | up h0 _ ih =>
   rename_i n _
   have hn : n ≠ n0 := fun e => by rw [e] at hl; omega
   rw [upd_ne o hn] at ih
   obtain ⟨r1, r2, r3⟩ := T.up _ hr h0 hp
   exact .up h0 (ih r1 r2 (by omega))
 ·intro h
  induction h with
  | refl => exact .refl _
  | up h0 _ ih =>
   rename_i n _
   have hn : n ≠ n0 := fun e => by rw [e] at hl; omega
   obtain ⟨r1, r2, r3⟩ := T.up _ hr h0 hp
   exact .up h0 (by rw [upd_ne o hn]; exact ih r1 r2 (by omega))
theorem upd_off {x m : Int} (h : Anc o x m) (hn : ¬ Anc o n0 m) : Anc (upd o n0 r) x m := by
 induction h with
 | refl => exact .refl _
 | up h0 _ ih =>
  rename_i n _
  have : n ≠ n0 := fun e => hn (e ▸ .refl _)
  exact .up h0 (by rw [upd_ne o this]; exact ih (fun h => hn (.up h0 h)))
theorem upd_high (T : Tree N sc place o) {x m : Int} (h : Anc o x m) (hr : Rch N sc (-1) m) (hp : 0 ≤ o m) (hl : place n0 ≤ place x) : Anc (upd o n0 r) x m := by
 induction h with
 | refl => exact .refl _
 | up h0 h1 ih =>
  rename_i n
  obtain ⟨r1, r2, r3⟩ := T.up _ hr h0 hp
  have h3 := (T.anc h1 r1 r2).2.2
  have : n ≠ n0 := fun e => by rw [e] at r3 h3; omega
  exact .up h0 (by rw [upd_ne o this]; exact ih r1 r2)
theorem Best.lt (B : Best N sc o n0 r) (I : Inv N sc place o (place n0) fin) (L : Pl N sc place) (hn : Rch N sc (-1) n0) (h0 : n0 ≠ 0) : place r < place n0 := by
 obtain ⟨q, q1, q2, q3⟩ := L.pred n0 hn h0
 have hq := I.P q q1 (.inl q3)
 have h := (B.all r).1 (.refl _) q q2 q1 hq
 have := (I.toTree.anc h q1 hq).2.2
 omega
theorem upd_back (B : Best N sc o n0 r) (I : Inv N sc place o (place n0) fin) (L : Pl N sc place) (hn : Rch N sc (-1) n0) (h0 : n0 ≠ 0) {x m : Int} (h : Anc (upd o n0 r) x m) (hr : Rch N sc (-1) m) (hp : 0 ≤ o m) : Anc o x m := by
 induction h with
 | refl => exact .refl _
 | up hm0 h1 ih =>
  rename_i n
  obtain ⟨r1, r2, r3⟩ := I.up _ hr hm0 hp
  by_cases e : n = n0
  ·subst e
   rw [upd_self] at ih
   have h2 := ih B.rch B.done
   exact .up hm0 (h2.trans (I.K n hr hm0 hp r ((B.all r).1 (.refl _))))
  ·rw [upd_ne o e] at ih
   exact .up hm0 (ih r1 r2)
end
end
end Go.Proofs.Ytilopoegoddggaa.G
namespace Go.Proofs.Ytilopoegoddggaa.G
set_option linter.all false
section
variable {N : Nat} {sc : Int → List Int} {place o : Int → Int} {n0 r : Int} {fin : Bool}
theorem upd_done (hd : 0 ≤ r) {m : Int} (h : 0 ≤ o m) : 0 ≤ upd o n0 r m := by
 unfold upd; split
 ·exact hd
 ·exact h
theorem Inv.step (I : Inv N sc place o (place n0) fin) (L : Pl N sc place) (hn : Rch N sc (-1) n0) (h0 : n0 ≠ 0) (B : Best N sc o n0 r) : Inv N sc place (upd o n0 r) (place n0 + 1) fin := by
 have hlt := B.lt I L hn h0
 have hd : 0 ≤ r := (B.rch.inV L.edge).1
 have hr0 : r ≠ n0 := fun e => by rw [e] at hlt; omega
 have T' : Tree N sc place (upd o n0 r) := by
  refine ⟨?_, fun n a b c => ?_, fun n a b => ?_, fun n a b c => ?_⟩
  ·rw [upd_ne o (fun e => h0 e.symm)]; exact I.zero
  ·rw [upd_ne o (fun e : n = n0 => c (e ▸ hn))]; exact I.neg n a b c
  ·unfold upd; split
   ·omega
   ·exact I.low n a b
  ·by_cases e : n = n0
   ·subst e
    rw [upd_self]
    exact ⟨B.rch, by rw [upd_ne o hr0]; exact B.done, hlt⟩
   ·rw [upd_ne o e] at c ⊢
    obtain ⟨r1, r2, r3⟩ := I.up n a b c
    exact ⟨r1, upd_done hd r2, r3⟩
 have back : ∀ {x m : Int}, Anc (upd o n0 r) x m → Rch N sc (-1) m → 0 ≤ o m → Anc o x m := fun h => upd_back B I L hn h0 h
 have low : ∀ {x m : Int}, Rch N sc (-1) m → 0 ≤ o m → place m < place n0 → (Anc (upd o n0 r) x m ↔ Anc o x m) := fun a b c => upd_low I.toTree a b c
 have high : ∀ {x m : Int}, Anc o x m → Rch N sc (-1) m → 0 ≤ o m → place n0 ≤ place x → Anc (upd o n0 r) x m := fun h a b c => upd_high I.toTree h a b c
 have ndone : ∀ {m : Int}, m ≠ n0 → 0 ≤ upd o n0 r m → 0 ≤ o m := fun hm h => by rw [upd_ne o hm] at h; exact h
 have toR : ∀ {x : Int}, Anc o x r → Anc (upd o n0 r) x r := fun h => (low B.rch B.done hlt).2 h
 have selfUp : ∀ {x : Int}, Anc o x r → Anc (upd o n0 r) x n0 := fun h => .up h0 (by rw [upd_self]; exact toR h)
 have via : ∀ {m : Int}, Rch N sc (-1) m → m ≠ 0 → 0 ≤ o m → m ≠ n0 → Anc o n0 m → ∃ q, Rch N sc (-1) q ∧ m ∈ sc q ∧ place q < place m ∧ 0 ≤ o q ∧ Anc o n0 q := by
  intro m a b c d e
  obtain ⟨q, q1, q2, q3⟩ := L.pred m a b
  obtain ⟨m1, m2⟩ := I.M m q a b c q2 q1 q3
  exact ⟨q, q1, q2, q3, m1, m2 n0 (fun e => d e.symm) e (.inr (Int.le_refl _))⟩
 have U' : ∀ (j : Nat) (m : Int), (place m).toNat ≤ j → Rch N sc (-1) m → 0 ≤ upd o n0 r m → ∀ x, Dom N sc x m → Anc (upd o n0 r) x m := by
  intro j
  induction j with
  | zero =>
   intro m hj hm hp x hx
   have hz : m = 0 := L.inj _ _ hm (.zero (by have := hm.inV L.edge; omega) (by omega)) (by have := L.pos m hm; have := L.zero; omega)
   subst hz
   rw [hx.at_zero]
   exact .refl _
  | succ j ih =>
   intro m hj hm hp x hx
   by_cases hxm : x = m
   ·exact hxm ▸ .refl _
   by_cases e : m = n0
   ·subst e
    refine selfUp ((B.all x).2 fun p a b c => ?_)
    exact I.U p b c x (hx.pred L.edge hxm a b)
   have hpo := ndone e hp
   have hm0 : m ≠ 0 := fun e => hxm (by subst e; exact hx.at_zero)
   have hxo := I.U m hm hpo x hx
   by_cases hu : Anc o n0 m
   ·by_cases hl : place n0 ≤ place x
    ·exact high hxo hm hpo hl
    ·obtain ⟨q, q1, q2, q3, q4, q5⟩ := via hm hm0 hpo e hu
     have hq := ih q (by have := L.pos q q1; omega) q1 (upd_done hd q4) x (hx.pred L.edge hxm q2 q1)
     have hq2 := high q5 q1 q4 (Int.le_refl _)
     have h3 := T'.above hq hq2 q1 (upd_done hd q4) (by omega)
     exact h3.trans (high hu hm hpo (Int.le_refl _))
   ·exact upd_off hxo hu
 refine { toTree := T', P := ?_, U := fun m a b => U' _ m (Nat.le_refl _) a b, K := ?_, M := ?_ }
 ·intro m a b
  by_cases e : m = n0
  ·rw [e, upd_self]; exact hd
  ·rw [upd_ne o e]
   refine I.P m a (b.imp (fun h => ?_) id)
   have : place m ≠ place n0 := fun h => e (L.inj _ _ a hn h)
   omega
 ·intro m a b c x h
  by_cases e : m = n0
  ·subst e
   rw [upd_self]
   exact toR ((B.all x).2 fun p p1 p2 p3 => back (h p p1 p2 (upd_done hd p3)) p2 p3)
  ·have hpo := ndone e c
   rw [upd_ne o e]
   have hx : Anc o x (o m) := I.K m a b hpo x fun p p1 p2 p3 => back (h p p1 p2 (upd_done hd p3)) p2 p3
   obtain ⟨r1, r2, r3⟩ := I.up m a b hpo
   by_cases hu : Anc o n0 (o m)
   ·by_cases hl : place n0 ≤ place x
    ·exact high hx r1 r2 hl
    ·obtain ⟨q, q1, q2, q3, q4, q5⟩ := via a b hpo e (.up b hu)
     have hq := h q q2 q1 (upd_done hd q4)
     have hq2 := high q5 q1 q4 (Int.le_refl _)
     have h3 := T'.above hq hq2 q1 (upd_done hd q4) (by omega)
     exact h3.trans (high hu r1 r2 (Int.le_refl _))
   ·exact upd_off hx hu
 ·intro m q a b c d f g
  by_cases e : m = n0
  ·subst e
   have hq := I.P q f (.inl g)
   refine ⟨upd_done hd hq, fun x hx h _ => ?_⟩
   obtain ⟨_, h1⟩ := h.cases_ne hx
   rw [upd_self] at h1
   exact (low f hq g).2 ((B.all x).1 ((low B.rch B.done hlt).1 h1) q d f hq)
  ·have hpo := ndone e c
   obtain ⟨m1, m2⟩ := I.M m q a b hpo d f g
   refine ⟨upd_done hd m1, fun x hx h hh => ?_⟩
   have hne : place m ≠ place n0 := fun h => e (L.inj _ _ a hn h)
   have ho := back h a hpo
   rcases hh with hh | hh
   ·exact (low f m1 (by omega)).2 (m2 x hx ho (.inl (by omega)))
   ·exact high (m2 x hx ho (.inr (by omega))) f m1 (by omega)
theorem Inv.again {j : Int} (I : Inv N sc place o j fin) (L : Pl N sc place) (hj : ∀ m, Rch N sc (-1) m → place m < j) : Inv N sc place o 1 true := by
 refine { toTree := I.toTree, P := fun m a _ => I.P m a (.inl (hj m a)), U := I.U, K := I.K, M := fun m q a b c d f g => ?_ }
 obtain ⟨m1, m2⟩ := I.M m q a b c d f g
 exact ⟨m1, fun x hx h _ => m2 x hx h (.inl (hj m a))⟩
theorem Inv.start (L : Pl N sc place) (hN : 0 < N) : Inv N sc place (fun x => if x = 0 then 0 else -1) 1 false := by
 refine { toTree := ⟨rfl, fun n a b c => ?_, fun n a b => ?_, fun n a b c => ?_⟩, P := fun m a b => ?_, U := fun m a b x h => ?_, K := fun m a b c => ?_, M := fun m q a b c => ?_ }
 ·show (if n = 0 then (0 : Int) else -1) = -1
  rw [if_neg (fun e : n = 0 => c (by rw [e]; exact .zero hN (by omega)))]
 ·show -1 ≤ (if n = 0 then (0 : Int) else -1)
  split <;> omega
 ·simp only [if_neg b] at c; omega
 ·rcases b with b | b
  ·have : m = 0 := L.inj _ _ a (.zero hN (by omega)) (by have := L.pos m a; have := L.zero; omega)
   simp [this]
  ·cases b
 ·by_cases e : m = 0
  ·subst e
   rw [h.at_zero]; exact .refl _
  ·simp only [if_neg e] at b; omega
 ·simp only [if_neg b] at c; omega
 ·simp only [if_neg b] at c; omega
def Fix (N : Nat) (sc : Int → List Int) (o : Int → Int) : Prop := ∀ n, Rch N sc (-1) n → n ≠ 0 → Best N sc o n (o n)
theorem Inv.dom {j : Int} (I : Inv N sc place o j fin) (L : Pl N sc place) (hj : ∀ m, Rch N sc (-1) m → 0 ≤ o m) (F : Fix N sc o) {x m : Int} (hm : Rch N sc (-1) m) : Anc o x m ↔ Dom N sc x m := by
 refine ⟨fun h => ?_, fun h => I.U m hm (hj m hm) x h⟩
 have hx := (I.toTree.anc h hm (hj m hm)).1
 refine ⟨hm, hx.inV L.edge, ?_⟩
 by_cases e : x = m
 ·exact .inl e
 refine .inr fun hr => ?_
 have key : ∀ y, Rch N sc x y → ¬ Anc o x y := by
  intro y hy
  induction hy with
  | zero _ h0 => exact fun h => h0 h.at_zero.symm
  | step ha hs hne ih =>
   rename_i a b
   intro hb
   have ha' := ha.any L.edge
   have hb' := ha'.next L.edge hs
   obtain ⟨b0, h1⟩ := hb.cases_ne (fun e => hne e.symm)
   exact ih (((F b hb' b0).all x).1 h1 a hs ha' (hj a ha'))
 exact key m hr h
end
end Go.Proofs.Ytilopoegoddggaa.G
namespace Go.Proofs.Ytilopoegoddggaa.X
open Go.RowKit Go.Proofs.YtilopoegoddggaaW.PrintWords Go.Proofs.YtilopoegoddggaaW.PrintLast Go.Proofs.YtilopoegoddggaaW.PrintMore
attribute [local go_sem] max2_int min2_int max_two min_two max_three min_three max_four min_four
set_option linter.all false
noncomputable section
mutual
def davitref07_Next.j0 : Nat → Int → Bool → Int → Int → List (S50) → Option (List Int)
 | 0, _, _, _, _, _ => none
 | k + 1, x1, x17, x151000, x151001, x151002 => if x17 = true then (some ([] : List Int)) else (if 0 ≤ x1 then (if x1 < (x151002.length : Int) then (if ((rd_T50 x151002 x1).f3.f0) = 2 then (davitref07_Next.j1 k ([] : List Int) true x151000 x151001 x151002 ((rd_T50 x151002 x1).f3.f0) ((rd_T50 x151002 x1).f3.f1) ((rd_T50 x151002 x1).f3.f2) ((rd_T50 x151002 x1).f3.f3) ((rd_T50 x151002 x1).f3.f4) ((rd_T50 x151002 x1).f3.f5) ((rd_T50 x151002 x1).f3.f6) ((rd_T50 x151002 x1).f3.f7)) else (if ((rd_T50 x151002 x1).f3.f0) = 3 then (davitref07_Next.j1 k ([] : List Int) true x151000 x151001 x151002 ((rd_T50 x151002 x1).f3.f0) ((rd_T50 x151002 x1).f3.f1) ((rd_T50 x151002 x1).f3.f2) ((rd_T50 x151002 x1).f3.f3) ((rd_T50 x151002 x1).f3.f4) ((rd_T50 x151002 x1).f3.f5) ((rd_T50 x151002 x1).f3.f6) ((rd_T50 x151002 x1).f3.f7)) else (davitref07_Next.j1 k ([] : List Int) (((rd_T50 x151002 x1).f3.f0) == 4) x151000 x151001 x151002 ((rd_T50 x151002 x1).f3.f0) ((rd_T50 x151002 x1).f3.f1) ((rd_T50 x151002 x1).f3.f2) ((rd_T50 x151002 x1).f3.f3) ((rd_T50 x151002 x1).f3.f4) ((rd_T50 x151002 x1).f3.f5) ((rd_T50 x151002 x1).f3.f6) ((rd_T50 x151002 x1).f3.f7)))) else (none)) else (none))
def davitref07_Next.j1 : Nat → List Int → Bool → Int → Int → List (S50) → Int → Int → Int → Int → List Int → Int → Int → Int → Option (List Int)
 | 0, _, _, _, _, _, _, _, _, _, _, _, _, _ => none
 | k + 1, x6, x36, x151000, x151001, x151002, x153000, x153001, x153002, x153003, x153004, x153005, x153006, x153007 => if x36 = true then (if x6.length < 17592186044416 then (davitref07_Next.j2 k (x6 ++ [x153005]) x151000 x151001 x151002 x153000 x153001 x153002 x153003 x153004 x153005 x153006 x153007) else (none)) else (davitref07_Next.j2 k x6 x151000 x151001 x151002 x153000 x153001 x153002 x153003 x153004 x153005 x153006 x153007)
def davitref07_Next.j2 : Nat → List Int → Int → Int → List (S50) → Int → Int → Int → Int → List Int → Int → Int → Int → Option (List Int)
 | 0, _, _, _, _, _, _, _, _, _, _, _, _ => none
 | k + 1, x6, x151000, x151001, x151002, x153000, x153001, x153002, x153003, x153004, x153005, x153006, x153007 => if x153000 = 3 then (if x6.length < 17592186044416 then (davitref07_Next.j3 k (x6 ++ [x153006]) x151000 x151001 x151002 x153000 x153001 x153002 x153003 x153004 x153005 x153006 x153007) else (none)) else (davitref07_Next.j3 k x6 x151000 x151001 x151002 x153000 x153001 x153002 x153003 x153004 x153005 x153006 x153007)
def davitref07_Next.j3 : Nat → List Int → Int → Int → List (S50) → Int → Int → Int → Int → List Int → Int → Int → Int → Option (List Int)
 | 0, _, _, _, _, _, _, _, _, _, _, _, _ => none
 | k + 1, x6, x151000, x151001, x151002, x153000, x153001, x153002, x153003, x153004, x153005, x153006, x153007 => if x153000 = 4 then (if x6.length < 17592186044416 then (davitref07_Next.j4 k (x6 ++ [x153007]) x151000 x151001 x151002) else (none)) else (davitref07_Next.j4 k x6 x151000 x151001 x151002)
def davitref07_Next.j4 : Nat → List Int → Int → Int → List (S50) → Option (List Int)
 | 0, _, _, _, _ => none
 | k + 1, x6, x151000, x151001, x151002 => davitref07_Next.l0 k x6 ([] : List Int) 0 x151000 x151001 x151002
def davitref07_Next.l0 : Nat → List Int → List Int → Int → Int → Int → List (S50) → Option (List Int)
 | 0, _, _, _, _, _, _ => none
 | k + 1, x6, x7, x8, x151000, x151001, x151002 => if x8 < (x6.length : Int) then (if 0 ≤ x8 then (if (rd x6 x8) ≥ 0 then (if (rd x6 x8) < (x151002.length : Int) then (if x7.length < 17592186044416 then (davitref07_Next.l0 k x6 (x7 ++ [rd x6 x8]) (wrap64 (x8 + 1)) x151000 x151001 x151002) else (none)) else (davitref07_Next.l0 k x6 x7 (wrap64 (x8 + 1)) x151000 x151001 x151002)) else (davitref07_Next.l0 k x6 x7 (wrap64 (x8 + 1)) x151000 x151001 x151002)) else (none)) else (some x7)
end
def davitref07_Next.f (k : Nat) (a0_0 : Int) (a0_1 : Int) (l0_2 : List (S50)) (a1 : Int) : Option (List Int) := if a1 < 0 then (davitref07_Next.j0 k a1 true a0_0 a0_1 l0_2) else (davitref07_Next.j0 k a1 (decide (a1 ≥ (l0_2.length : Int))) a0_0 a0_1 l0_2)
theorem davitref07_Next.mono_l : ∀ k, (∀ y0 y1 y2 y3 y4, LeO (davitref07_Next.j0 k y0 y1 y2 y3 y4) (davitref07_Next.j0 (k + 1) y0 y1 y2 y3 y4)) ∧ (∀ y0 y1 y2 y3 y4 y5 y6 y7 y8 y9 y10 y11 y12, LeO (davitref07_Next.j1 k y0 y1 y2 y3 y4 y5 y6 y7 y8 y9 y10 y11 y12) (davitref07_Next.j1 (k + 1) y0 y1 y2 y3 y4 y5 y6 y7 y8 y9 y10 y11 y12)) ∧ (∀ y0 y1 y2 y3 y4 y5 y6 y7 y8 y9 y10 y11, LeO (davitref07_Next.j2 k y0 y1 y2 y3 y4 y5 y6 y7 y8 y9 y10 y11) (davitref07_Next.j2 (k + 1) y0 y1 y2 y3 y4 y5 y6 y7 y8 y9 y10 y11)) ∧ (∀ y0 y1 y2 y3 y4 y5 y6 y7 y8 y9 y10 y11, LeO (davitref07_Next.j3 k y0 y1 y2 y3 y4 y5 y6 y7 y8 y9 y10 y11) (davitref07_Next.j3 (k + 1) y0 y1 y2 y3 y4 y5 y6 y7 y8 y9 y10 y11)) ∧ (∀ y0 y1 y2 y3, LeO (davitref07_Next.j4 k y0 y1 y2 y3) (davitref07_Next.j4 (k + 1) y0 y1 y2 y3)) ∧ (∀ y0 y1 y2 y3 y4 y5, LeO (davitref07_Next.l0 k y0 y1 y2 y3 y4 y5) (davitref07_Next.l0 (k + 1) y0 y1 y2 y3 y4 y5))
 | 0 => ⟨fun _ _ _ _ _ r h => by simp [davitref07_Next.j0] at h, fun _ _ _ _ _ _ _ _ _ _ _ _ _ r h => by simp [davitref07_Next.j1] at h, fun _ _ _ _ _ _ _ _ _ _ _ _ r h => by simp [davitref07_Next.j2] at h, fun _ _ _ _ _ _ _ _ _ _ _ _ r h => by simp [davitref07_Next.j3] at h, fun _ _ _ _ r h => by simp [davitref07_Next.j4] at h, fun _ _ _ _ _ _ r h => by simp [davitref07_Next.l0] at h⟩
 | k + 1 => by
  obtain ⟨ih0, ih1, ih2, ih3, ih4, ih5⟩ := davitref07_Next.mono_l k
  refine ⟨?_, ?_, ?_, ?_, ?_, ?_⟩
  ·intro y0 y1 y2 y3 y4
   unfold davitref07_Next.j0
   repeat' first
   | (with_reducible exact ih0 _ _ _ _ _)
   | (with_reducible exact ih1 _ _ _ _ _ _ _ _ _ _ _ _ _)
   | (with_reducible exact ih2 _ _ _ _ _ _ _ _ _ _ _ _)
   | (with_reducible exact ih3 _ _ _ _ _ _ _ _ _ _ _ _)
   | (with_reducible exact ih4 _ _ _ _)
   | (with_reducible exact ih5 _ _ _ _ _ _)
   | (with_reducible exact LeO.refl _)
   | (with_reducible exact LeO.none _)
   | (with_reducible refine LeO.ite ?_ ?_)
   | (with_reducible refine LeO.bind ?_ (fun _ => ?_))
   | exact ih0 _ _ _ _ _
   | exact ih1 _ _ _ _ _ _ _ _ _ _ _ _ _
   | exact ih2 _ _ _ _ _ _ _ _ _ _ _ _
   | exact ih3 _ _ _ _ _ _ _ _ _ _ _ _
   | exact ih4 _ _ _ _
   | exact ih5 _ _ _ _ _ _
   | exact LeO.none _
   | refine LeO.ite ?_ ?_
   | refine LeO.bind ?_ (fun _ => ?_)
  ·intro y0 y1 y2 y3 y4 y5 y6 y7 y8 y9 y10 y11 y12
   unfold davitref07_Next.j1
   repeat' first
   | (with_reducible exact ih0 _ _ _ _ _)
   | (with_reducible exact ih1 _ _ _ _ _ _ _ _ _ _ _ _ _)
   | (with_reducible exact ih2 _ _ _ _ _ _ _ _ _ _ _ _)
   | (with_reducible exact ih3 _ _ _ _ _ _ _ _ _ _ _ _)
   | (with_reducible exact ih4 _ _ _ _)
   | (with_reducible exact ih5 _ _ _ _ _ _)
   | (with_reducible exact LeO.refl _)
   | (with_reducible exact LeO.none _)
   | (with_reducible refine LeO.ite ?_ ?_)
   | (with_reducible refine LeO.bind ?_ (fun _ => ?_))
   | exact ih0 _ _ _ _ _
   | exact ih1 _ _ _ _ _ _ _ _ _ _ _ _ _
   | exact ih2 _ _ _ _ _ _ _ _ _ _ _ _
   | exact ih3 _ _ _ _ _ _ _ _ _ _ _ _
   | exact ih4 _ _ _ _
   | exact ih5 _ _ _ _ _ _
   | exact LeO.none _
   | refine LeO.ite ?_ ?_
   | refine LeO.bind ?_ (fun _ => ?_)
  ·intro y0 y1 y2 y3 y4 y5 y6 y7 y8 y9 y10 y11
   unfold davitref07_Next.j2
   repeat' first
   | (with_reducible exact ih0 _ _ _ _ _)
   | (with_reducible exact ih1 _ _ _ _ _ _ _ _ _ _ _ _ _)
   | (with_reducible exact ih2 _ _ _ _ _ _ _ _ _ _ _ _)
   | (with_reducible exact ih3 _ _ _ _ _ _ _ _ _ _ _ _)
   | (with_reducible exact ih4 _ _ _ _)
   | (with_reducible exact ih5 _ _ _ _ _ _)
   | (with_reducible exact LeO.refl _)
   | (with_reducible exact LeO.none _)
   | (with_reducible refine LeO.ite ?_ ?_)
   | (with_reducible refine LeO.bind ?_ (fun _ => ?_))
   | exact ih0 _ _ _ _ _
   | exact ih1 _ _ _ _ _ _ _ _ _ _ _ _ _
   | exact ih2 _ _ _ _ _ _ _ _ _ _ _ _
   | exact ih3 _ _ _ _ _ _ _ _ _ _ _ _
   | exact ih4 _ _ _ _
   | exact ih5 _ _ _ _ _ _
   | exact LeO.none _
   | refine LeO.ite ?_ ?_
   | refine LeO.bind ?_ (fun _ => ?_)
  ·intro y0 y1 y2 y3 y4 y5 y6 y7 y8 y9 y10 y11
   unfold davitref07_Next.j3
   repeat' first
   | (with_reducible exact ih0 _ _ _ _ _)
   | (with_reducible exact ih1 _ _ _ _ _ _ _ _ _ _ _ _ _)
   | (with_reducible exact ih2 _ _ _ _ _ _ _ _ _ _ _ _)
   | (with_reducible exact ih3 _ _ _ _ _ _ _ _ _ _ _ _)
   | (with_reducible exact ih4 _ _ _ _)
   | (with_reducible exact ih5 _ _ _ _ _ _)
   | (with_reducible exact LeO.refl _)
   | (with_reducible exact LeO.none _)
   | (with_reducible refine LeO.ite ?_ ?_)
   | (with_reducible refine LeO.bind ?_ (fun _ => ?_))
   | exact ih0 _ _ _ _ _
   | exact ih1 _ _ _ _ _ _ _ _ _ _ _ _ _
   | exact ih2 _ _ _ _ _ _ _ _ _ _ _ _
   | exact ih3 _ _ _ _ _ _ _ _ _ _ _ _
   | exact ih4 _ _ _ _
   | exact ih5 _ _ _ _ _ _
   | exact LeO.none _
   | refine LeO.ite ?_ ?_
   | refine LeO.bind ?_ (fun _ => ?_)
  ·intro y0 y1 y2 y3
   unfold davitref07_Next.j4
   repeat' first
   | (with_reducible exact ih0 _ _ _ _ _)
   | (with_reducible exact ih1 _ _ _ _ _ _ _ _ _ _ _ _ _)
   | (with_reducible exact ih2 _ _ _ _ _ _ _ _ _ _ _ _)
   | (with_reducible exact ih3 _ _ _ _ _ _ _ _ _ _ _ _)
   | (with_reducible exact ih4 _ _ _ _)
   | (with_reducible exact ih5 _ _ _ _ _ _)
   | (with_reducible exact LeO.refl _)
   | (with_reducible exact LeO.none _)
   | (with_reducible refine LeO.ite ?_ ?_)
   | (with_reducible refine LeO.bind ?_ (fun _ => ?_))
   | exact ih0 _ _ _ _ _
   | exact ih1 _ _ _ _ _ _ _ _ _ _ _ _ _
   | exact ih2 _ _ _ _ _ _ _ _ _ _ _ _
   | exact ih3 _ _ _ _ _ _ _ _ _ _ _ _
   | exact ih4 _ _ _ _
   | exact ih5 _ _ _ _ _ _
   | exact LeO.none _
   | refine LeO.ite ?_ ?_
   | refine LeO.bind ?_ (fun _ => ?_)
  ·intro y0 y1 y2 y3 y4 y5
   unfold davitref07_Next.l0
   repeat' first
   | (with_reducible exact ih0 _ _ _ _ _)
   | (with_reducible exact ih1 _ _ _ _ _ _ _ _ _ _ _ _ _)
   | (with_reducible exact ih2 _ _ _ _ _ _ _ _ _ _ _ _)
   | (with_reducible exact ih3 _ _ _ _ _ _ _ _ _ _ _ _)
   | (with_reducible exact ih4 _ _ _ _)
   | (with_reducible exact ih5 _ _ _ _ _ _)
   | (with_reducible exact LeO.refl _)
   | (with_reducible exact LeO.none _)
   | (with_reducible refine LeO.ite ?_ ?_)
   | (with_reducible refine LeO.bind ?_ (fun _ => ?_))
   | exact ih0 _ _ _ _ _
   | exact ih1 _ _ _ _ _ _ _ _ _ _ _ _ _
   | exact ih2 _ _ _ _ _ _ _ _ _ _ _ _
   | exact ih3 _ _ _ _ _ _ _ _ _ _ _ _
   | exact ih4 _ _ _ _
   | exact ih5 _ _ _ _ _ _
   | exact LeO.none _
   | refine LeO.ite ?_ ?_
   | refine LeO.bind ?_ (fun _ => ?_)
theorem davitref07_Next.mono : ∀ a0 a1 a2 a3 k, LeO (davitref07_Next.f k a0 a1 a2 a3) (davitref07_Next.f (k + 1) a0 a1 a2 a3) := by
 intro a0 a1 a2 a3 k
 obtain ⟨ih0, ih1, ih2, ih3, ih4, ih5⟩ := davitref07_Next.mono_l k
 unfold davitref07_Next.f
 repeat' first
   | (with_reducible exact ih0 _ _ _ _ _)
   | (with_reducible exact ih1 _ _ _ _ _ _ _ _ _ _ _ _ _)
   | (with_reducible exact ih2 _ _ _ _ _ _ _ _ _ _ _ _)
   | (with_reducible exact ih3 _ _ _ _ _ _ _ _ _ _ _ _)
   | (with_reducible exact ih4 _ _ _ _)
   | (with_reducible exact ih5 _ _ _ _ _ _)
   | (with_reducible exact LeO.refl _)
   | (with_reducible exact LeO.none _)
   | (with_reducible refine LeO.ite ?_ ?_)
   | (with_reducible refine LeO.bind ?_ (fun _ => ?_))
   | exact ih0 _ _ _ _ _
   | exact ih1 _ _ _ _ _ _ _ _ _ _ _ _ _
   | exact ih2 _ _ _ _ _ _ _ _ _ _ _ _
   | exact ih3 _ _ _ _ _ _ _ _ _ _ _ _
   | exact ih4 _ _ _ _
   | exact ih5 _ _ _ _ _ _
   | exact LeO.none _
   | refine LeO.ite ?_ ?_
   | refine LeO.bind ?_ (fun _ => ?_)
set_option maxHeartbeats 8000000 in
set_option maxRecDepth 100000 in
theorem davitref07_Next.calls (k : Nat) (a0_0 : Int) (a0_1 : Int) (A0_2 : Option Addr) (c0_2 : Nat) (l0_2 : List (S50)) (a1 : Int) (r : List Int) (w : World) (hr0_2 : Kd.C k50 w A0_2 l0_2.length l0_2) (hc0_2 : l0_2.length ≤ c0_2) (h : davitref07_Next.f k a0_0 a0_1 l0_2 a1 = some r) :
  Calls Try.prog 33 #[.agg #[.int .i64 a0_0, .int .i64 a0_1, .slice A0_2 l0_2.length c0_2], .int .i64 a1] w fun e w' => ∃ v0_ : Value, e = .returned (v0_) ∧ Kd.R (Kd.int .i64) 3 w' w.heap.size (fun _ => True) v0_ r ∧ Below w.heap.size w w' := by
 have hu24 := Try.underlying24
 have hu44 := Try.underlying44
 have HR0_2 := Aside0.mk hr0_2
 have HC0_2 := Aside0.mk hc0_2
 clear hr0_2 hc0_2
 have HB := Aside0.mk (Below.refl w.heap.size w)
 have H : (if a1 < 0 then (davitref07_Next.j0 k a1 true a0_0 a0_1 l0_2) else (davitref07_Next.j0 k a1 (decide (a1 ≥ (l0_2.length : Int))) a0_0 a0_1 l0_2)) = some r := h
 clear h
 have HC3 := Aside0.mk H
 clear H
 go_enter Try.func33, Try.ntmps33
 go_upto_region 1 with (first | ((with_reducible refine gate_dst (N := 2) rfl ?_); (try (refine gate_guard (by rfl) ?_; dsimp only)); refine box_event ?hg (N := 2) ?hd (cs := #[.int .i64 a0_0, .int .i64 a0_1, .slice A0_2 l0_2.length c0_2]) (t := 24) ?hr ?_; (case hd => rfl); (case hg => rfl); (case hr => first | (go_simp; done) | (go_simp; rfl)); intro gb150 hg w4 hbox hb; have n0_ := Aside0.mk (below_step (by repeat (first | (with_reducible first | exact HB.out | apply below_alloc | apply pw_below_drewN | apply below_drew1) | exact HB.out)) hb); have n1_ := Aside0.mk (hbox); have n2_ := Aside0.mk ((by rw [hg]; exact (below_size (by repeat (first | (with_reducible first | exact HB.out | apply below_alloc | apply pw_below_drewN | apply below_drew1) | exact HB.out))) : w.heap.size ≤ gb150)); have n3_ := Aside0.mk ((by rw [hg]; exact (below_size (by repeat (first | (with_reducible first | exact HB.out | apply below_alloc | apply pw_below_drewN | apply below_drew1) | exact HB.out))) : w.heap.size ≤ gb150)); clear HB; have HB := n0_; have BK150 := n1_; have GW150 := n2_; have GE150 := n3_; clear n0_ n1_ n2_ n3_; clear hb hbox hg))
 repeat (go_quiet (first | ((with_reducible refine gate_dst (N := 2) rfl ?_); (try (refine gate_guard (by rfl) ?_; dsimp only)); refine box_event ?hg (N := 2) ?hd (cs := #[.int .i64 a0_0, .int .i64 a0_1, .slice A0_2 l0_2.length c0_2]) (t := 24) ?hr ?_; (case hd => rfl); (case hg => rfl); (case hr => first | (go_simp; done) | (go_simp; rfl)); intro gb150 hg w4 hbox hb; have n0_ := Aside0.mk (below_step (by repeat (first | (with_reducible first | exact HB.out | apply below_alloc | apply pw_below_drewN | apply below_drew1) | exact HB.out)) hb); have n1_ := Aside0.mk (hbox); have n2_ := Aside0.mk ((by rw [hg]; exact (below_size (by repeat (first | (with_reducible first | exact HB.out | apply below_alloc | apply pw_below_drewN | apply below_drew1) | exact HB.out))) : w.heap.size ≤ gb150)); have n3_ := Aside0.mk ((by rw [hg]; exact (below_size (by repeat (first | (with_reducible first | exact HB.out | apply below_alloc | apply pw_below_drewN | apply below_drew1) | exact HB.out))) : w.heap.size ≤ gb150)); clear HB; have HB := n0_; have BK150 := n1_; have GW150 := n2_; have GE150 := n3_; clear n0_ n1_ n2_ n3_; clear hb hbox hg)); go_upto_region 1 with (first | ((with_reducible refine gate_dst (N := 2) rfl ?_); (try (refine gate_guard (by rfl) ?_; dsimp only)); refine box_event ?hg (N := 2) ?hd (cs := #[.int .i64 a0_0, .int .i64 a0_1, .slice A0_2 l0_2.length c0_2]) (t := 24) ?hr ?_; (case hd => rfl); (case hg => rfl); (case hr => first | (go_simp; done) | (go_simp; rfl)); intro gb150 hg w4 hbox hb; have n0_ := Aside0.mk (below_step (by repeat (first | (with_reducible first | exact HB.out | apply below_alloc | apply pw_below_drewN | apply below_drew1) | exact HB.out)) hb); have n1_ := Aside0.mk (hbox); have n2_ := Aside0.mk ((by rw [hg]; exact (below_size (by repeat (first | (with_reducible first | exact HB.out | apply below_alloc | apply pw_below_drewN | apply below_drew1) | exact HB.out))) : w.heap.size ≤ gb150)); have n3_ := Aside0.mk ((by rw [hg]; exact (below_size (by repeat (first | (with_reducible first | exact HB.out | apply below_alloc | apply pw_below_drewN | apply below_drew1) | exact HB.out))) : w.heap.size ≤ gb150)); clear HB; have HB := n0_; have BK150 := n1_; have GW150 := n2_; have GE150 := n3_; clear n0_ n1_ n2_ n3_; clear hb hbox hg)))
 (try simp only [Act.put, List.setIfInBounds_toArray, List.set_cons_zero, List.set_cons_succ])
 go_cut [17] (fun v17 wc => ∃ (kq : Nat) (x17_2 : Bool), v17 = .bool x17_2 ∧ Aside0 (davitref07_Next.j0 kq a1 x17_2 a0_0 a0_1 l0_2 = some r) ∧ Aside0 (kq ≤ k) ∧ Aside0 (wc.heap[gb150]? = some (.cells #[.int .i64 a0_0, .int .i64 a0_1, (.slice A0_2 l0_2.length c0_2)] 24 (0, 0))) ∧ Aside0 (Below w.heap.size w wc))
 case first =>
  have H := HC3.out
  clear HC3
  by_cases c5 : a1 < 0
  ·rw [if_pos c5] at H
   have c5b0 : decide (a1 < 0) = true := decide_eq_true c5
   clear c5
   (first | rw [c5b0] | (simp only [i64_w, i32_w]; rw [c5b0]) | skip)
   have H' := Aside0.mk H
   clear H
   go_wp2
   repeat (go_quiet (fail); try go_wp2)
   go_meet
   case rel => exact ⟨_, (true), (by first | rfl | (simp; done) | (simp [*]; done)), H', ⟨by first | omega | exact Nat.le_refl _⟩, ⟨by (with_reducible repeat (first | refine blk_drewN ?_ _ | refine blk_drew ?_ | refine blk_alloc ?_ _)); exact BK150.out⟩, ⟨by repeat (first | (with_reducible first | exact HB.out | apply below_alloc | apply pw_below_drewN | apply below_drew1 | refine below_set ?_ GE150.out) | exact HB.out)⟩⟩
  ·rw [if_neg c5] at H
   have c5b0 : decide (a1 < 0) = false := decide_eq_false c5
   clear c5
   (first | rw [c5b0] | (simp only [i64_w, i32_w]; rw [c5b0]) | skip)
   have H' := Aside0.mk H
   clear H
   have hcz6_0 : w4.cell? ⟨gb150, 0, none⟩ = some (.int .i64 a0_0) := (blk_cell BK150.out 0).trans rfl
   have hcz6_1 : w4.cell? ⟨gb150, 1, none⟩ = some (.int .i64 a0_1) := (blk_cell BK150.out 1).trans rfl
   have hcz6_2 : w4.cell? ⟨gb150, 2, none⟩ = some (.slice A0_2 l0_2.length c0_2) := (blk_cell BK150.out 2).trans rfl
   have hfz6_0 := blk_frozen BK150.out 0
   have hfz6_1 := blk_frozen BK150.out 1
   have hfz6_2 := blk_frozen BK150.out 2
   go_wp2
   repeat (go_quiet (fail); try go_wp2)
   go_meet
   case rel => exact ⟨_, (decide (a1 ≥ (l0_2.length : Int))), (by first | rfl | (simp; done) | (simp [*]; done)), H', ⟨by first | omega | exact Nat.le_refl _⟩, ⟨by (with_reducible repeat (first | refine blk_drewN ?_ _ | refine blk_drew ?_ | refine blk_alloc ?_ _)); exact BK150.out⟩, ⟨by repeat (first | (with_reducible first | exact HB.out | apply below_alloc | apply pw_below_drewN | apply below_drew1 | refine below_set ?_ GE150.out) | exact HB.out)⟩⟩
 case rest =>
  clear HC3
  try clear p2
  try clear c3
  try clear c5
  try clear c5b0
  try clear hcz6_0
  try clear hcz6_1
  try clear hcz6_2
  try clear hfz6_0
  try clear hfz6_1
  try clear hfz6_2
  obtain ⟨kq, x17_2, rfl, HA, HJ2, BK150, HB⟩ := hcut
  cases kq with
  | zero => exact absurd HA.out (by simp [davitref07_Next.j0])
  | succ kj2 =>
   have H := HA.out
   clear HA
   simp only [davitref07_Next.j0] at H
   by_cases c7 : x17_2 = true
   ·subst c7
    have H1 : (some ([] : List Int)) = some r := by rw [if_pos rfl] at H; exact H
    clear H
    have H := H1
    clear H1
    obtain rfl := Option.some.inj H
    go_wp2
    repeat (go_quiet (fail); try go_wp2)
    go_ret
    exact ⟨_, by first | rfl | (simp [errW_none, errW_some] <;> rfl) | (simp [*, errW_none, errW_some] <;> rfl), by first | exact Kd.R_nil _ _ _ _ _ | exact Kd.N_nil _ _ _ _ _ | exact Kd.V_nil _ _ _ _ _ | exact Kd.Q_nil _ _ _ _ _ | exact Kd.S_nil _ _ _ _ _, by repeat (first | (with_reducible first | exact HB.out | apply below_alloc | apply pw_below_drewN | apply below_drew1 | refine below_set ?_ GE150.out) | exact HB.out)⟩
   ·replace c7 := Bool.eq_false_iff.mpr c7
    subst c7
    have H1 : (if 0 ≤ a1 then (if a1 < (l0_2.length : Int) then (if ((rd_T50 l0_2 a1).f3.f0) = 2 then (davitref07_Next.j1 kj2 ([] : List Int) true a0_0 a0_1 l0_2 ((rd_T50 l0_2 a1).f3.f0) ((rd_T50 l0_2 a1).f3.f1) ((rd_T50 l0_2 a1).f3.f2) ((rd_T50 l0_2 a1).f3.f3) ((rd_T50 l0_2 a1).f3.f4) ((rd_T50 l0_2 a1).f3.f5) ((rd_T50 l0_2 a1).f3.f6) ((rd_T50 l0_2 a1).f3.f7)) else (if ((rd_T50 l0_2 a1).f3.f0) = 3 then (davitref07_Next.j1 kj2 ([] : List Int) true a0_0 a0_1 l0_2 ((rd_T50 l0_2 a1).f3.f0) ((rd_T50 l0_2 a1).f3.f1) ((rd_T50 l0_2 a1).f3.f2) ((rd_T50 l0_2 a1).f3.f3) ((rd_T50 l0_2 a1).f3.f4) ((rd_T50 l0_2 a1).f3.f5) ((rd_T50 l0_2 a1).f3.f6) ((rd_T50 l0_2 a1).f3.f7)) else (davitref07_Next.j1 kj2 ([] : List Int) (((rd_T50 l0_2 a1).f3.f0) == 4) a0_0 a0_1 l0_2 ((rd_T50 l0_2 a1).f3.f0) ((rd_T50 l0_2 a1).f3.f1) ((rd_T50 l0_2 a1).f3.f2) ((rd_T50 l0_2 a1).f3.f3) ((rd_T50 l0_2 a1).f3.f4) ((rd_T50 l0_2 a1).f3.f5) ((rd_T50 l0_2 a1).f3.f6) ((rd_T50 l0_2 a1).f3.f7)))) else (none)) else (none)) = some r := by rw [if_neg (show ¬ (false = true) by decide)] at H; exact H
    clear H
    have H := H1
    clear H1
    by_cases c8 : 0 ≤ a1
    ·rw [if_pos c8] at H
     have c8b0 : decide (0 ≤ a1) = true := decide_eq_true c8
     clear c8
     by_cases c9 : a1 < (l0_2.length : Int)
     ·rw [if_pos c9] at H
      have c9b0 : decide (a1 < (l0_2.length : Int)) = true := decide_eq_true c9
      clear c9
      have HC10 := Aside0.mk H
      clear H
      have hcz11_0 : wc.cell? ⟨gb150, 0, none⟩ = some (.int .i64 a0_0) := (blk_cell BK150.out 0).trans rfl
      have hcz11_1 : wc.cell? ⟨gb150, 1, none⟩ = some (.int .i64 a0_1) := (blk_cell BK150.out 1).trans rfl
      have hcz11_2 : wc.cell? ⟨gb150, 2, none⟩ = some (.slice A0_2 l0_2.length c0_2) := (blk_cell BK150.out 2).trans rfl
      have hfz11_0 := blk_frozen BK150.out 0
      have hfz11_1 := blk_frozen BK150.out 1
      have hfz11_2 := blk_frozen BK150.out 2
      have p151 : 0 ≤ (a1 : Int) := of_decide_eq_true (by first | (with_reducible assumption) | assumption)
      have q151 : a1 < (l0_2.length : Int) := of_decide_eq_true (by first | (with_reducible assumption) | assumption)
      obtain ⟨ad151, A151_2, c151_2, A151_5, c151_5, A151_10, c151_10, e151, hx151_0, hx151_1, hx151_2, hx151_3, hx151_4, hx151_5, hx151_6, hx151_7, hx151_8, hx151_9, hx151_10, hx151_11, hx151_12, hx151_13, hl151_2, hi151_2, hl151_5, hi151_5, hl151_10, hi151_10⟩ := at_T50 HR0_2.out a1 p151 q151
      cases e151
      replace hx151_0 := (HB.out.cell (World.block_lt_of_cell? w _ hx151_0)).trans hx151_0
      replace hx151_1 := (HB.out.cell (World.block_lt_of_cell? w _ hx151_1)).trans hx151_1
      replace hx151_2 := (HB.out.cell (World.block_lt_of_cell? w _ hx151_2)).trans hx151_2
      replace hx151_3 := (HB.out.cell (World.block_lt_of_cell? w _ hx151_3)).trans hx151_3
      replace hx151_4 := (HB.out.cell (World.block_lt_of_cell? w _ hx151_4)).trans hx151_4
      replace hx151_5 := (HB.out.cell (World.block_lt_of_cell? w _ hx151_5)).trans hx151_5
      replace hx151_6 := (HB.out.cell (World.block_lt_of_cell? w _ hx151_6)).trans hx151_6
      replace hx151_7 := (HB.out.cell (World.block_lt_of_cell? w _ hx151_7)).trans hx151_7
      replace hx151_8 := (HB.out.cell (World.block_lt_of_cell? w _ hx151_8)).trans hx151_8
      replace hx151_9 := (HB.out.cell (World.block_lt_of_cell? w _ hx151_9)).trans hx151_9
      replace hx151_10 := (HB.out.cell (World.block_lt_of_cell? w _ hx151_10)).trans hx151_10
      replace hx151_11 := (HB.out.cell (World.block_lt_of_cell? w _ hx151_11)).trans hx151_11
      replace hx151_12 := (HB.out.cell (World.block_lt_of_cell? w _ hx151_12)).trans hx151_12
      replace hx151_13 := (HB.out.cell (World.block_lt_of_cell? w _ hx151_13)).trans hx151_13
      have HR151_2 := Aside0.mk hi151_2
      have HC151_2 := Aside0.mk hl151_2
      clear hi151_2 hl151_2
      have HR151_5 := Aside0.mk hi151_5
      have HC151_5 := Aside0.mk hl151_5
      clear hi151_5 hl151_5
      have HR151_10 := Aside0.mk hi151_10
      have HC151_10 := Aside0.mk hl151_10
      clear hi151_10 hl151_10
      replace p151 := eq_true p151
      replace q151 := eq_true q151
      go_upto_region 5 with (first | ((with_reducible refine gate_dst (N := 5) rfl ?_); (try (refine gate_guard (by rfl) ?_; dsimp only)); refine box_event ?hg (N := 5) ?hd (cs := #[.int .i64 0, .int .i64 0, .int .i64 0, .int .i64 0, .slice none 0 0, .int .i64 0, .int .i64 0, .int .i64 0]) (t := 44) ?hr ?_; (case hd => rfl); (case hg => rfl); (case hr => first | (go_simp; done) | (go_simp; rfl)); intro gb152 hg w12 hbox hb; have n0_ := Aside0.mk (blk_below (g := gb150) (o := .cells #[.int .i64 a0_0, .int .i64 a0_1, .slice (some ad151) l0_2.length c0_2] 24 (0, 0)) (by (with_reducible repeat (first | refine blk_drewN ?_ _ | refine blk_drew ?_ | refine blk_alloc ?_ _)); exact BK150.out) hb); have n1_ := Aside0.mk (below_step (by repeat (first | (with_reducible first | exact HB.out | apply below_alloc | apply pw_below_drewN | apply below_drew1 | refine below_set ?_ GE150.out) | exact HB.out)) hb); have n2_ := Aside0.mk (hbox); have n3_ := Aside0.mk ((by rw [hg]; exact (below_size (by repeat (first | (with_reducible first | exact HB.out | apply below_alloc | apply pw_below_drewN | apply below_drew1 | refine below_set ?_ GE150.out) | exact HB.out))) : w.heap.size ≤ gb152)); have n4_ := Aside0.mk ((by rw [hg]; exact (below_size (by repeat (first | (with_reducible first | exact HB.out | apply below_alloc | apply pw_below_drewN | apply below_drew1 | refine below_set ?_ GE150.out) | exact HB.out))) : w.heap.size ≤ gb152)); have n5_ := Aside0.mk ((by rw [hg]; exact Nat.ne_of_lt (blk_lt (g := gb150) (o := .cells #[.int .i64 a0_0, .int .i64 a0_1, .slice (some ad151) l0_2.length c0_2] 24 (0, 0)) (by (with_reducible repeat (first | refine blk_drewN ?_ _ | refine blk_drew ?_ | refine blk_alloc ?_ _)); exact BK150.out)) : gb150 ≠ gb152)); have n6_ := Aside0.mk ((by rw [hg]; exact Nat.ne_of_gt (blk_lt (g := gb150) (o := .cells #[.int .i64 a0_0, .int .i64 a0_1, .slice (some ad151) l0_2.length c0_2] 24 (0, 0)) (by (with_reducible repeat (first | refine blk_drewN ?_ _ | refine blk_drew ?_ | refine blk_alloc ?_ _)); exact BK150.out)) : gb152 ≠ gb150)); clear BK150; clear HB; have BK150 := n0_; have HB := n1_; have BK152 := n2_; have GW152 := n3_; have GE152 := n4_; have NB150_152 := n5_; have NB152_150 := n6_; clear n0_ n1_ n2_ n3_ n4_ n5_ n6_; clear hb hbox hg; have hnb13 := NB152_150.out; have hnc13 := NB150_152.out; have hcz14_0 : w12.cell? ⟨gb152, 0, none⟩ = some (.int .i64 0) := (blk_cell BK152.out 0).trans rfl; have hcz14_1 : w12.cell? ⟨gb152, 1, none⟩ = some (.int .i64 0) := (blk_cell BK152.out 1).trans rfl; have hcz14_2 : w12.cell? ⟨gb152, 2, none⟩ = some (.int .i64 0) := (blk_cell BK152.out 2).trans rfl; have hcz14_3 : w12.cell? ⟨gb152, 3, none⟩ = some (.int .i64 0) := (blk_cell BK152.out 3).trans rfl; have hcz14_4 : w12.cell? ⟨gb152, 4, none⟩ = some (.slice none 0 0) := (blk_cell BK152.out 4).trans rfl; have hcz14_5 : w12.cell? ⟨gb152, 5, none⟩ = some (.int .i64 0) := (blk_cell BK152.out 5).trans rfl; have hcz14_6 : w12.cell? ⟨gb152, 6, none⟩ = some (.int .i64 0) := (blk_cell BK152.out 6).trans rfl; have hcz14_7 : w12.cell? ⟨gb152, 7, none⟩ = some (.int .i64 0) := (blk_cell BK152.out 7).trans rfl; have hfz14_0 := blk_frozen BK152.out 0; have hfz14_1 := blk_frozen BK152.out 1; have hfz14_2 := blk_frozen BK152.out 2; have hfz14_3 := blk_frozen BK152.out 3; have hfz14_4 := blk_frozen BK152.out 4; have hfz14_5 := blk_frozen BK152.out 5; have hfz14_6 := blk_frozen BK152.out 6; have hfz14_7 := blk_frozen BK152.out 7))
      repeat (go_quiet (first | ((with_reducible refine gate_dst (N := 5) rfl ?_); (try (refine gate_guard (by rfl) ?_; dsimp only)); refine box_event ?hg (N := 5) ?hd (cs := #[.int .i64 0, .int .i64 0, .int .i64 0, .int .i64 0, .slice none 0 0, .int .i64 0, .int .i64 0, .int .i64 0]) (t := 44) ?hr ?_; (case hd => rfl); (case hg => rfl); (case hr => first | (go_simp; done) | (go_simp; rfl)); intro gb152 hg w12 hbox hb; have n0_ := Aside0.mk (blk_below (g := gb150) (o := .cells #[.int .i64 a0_0, .int .i64 a0_1, .slice (some ad151) l0_2.length c0_2] 24 (0, 0)) (by (with_reducible repeat (first | refine blk_drewN ?_ _ | refine blk_drew ?_ | refine blk_alloc ?_ _)); exact BK150.out) hb); have n1_ := Aside0.mk (below_step (by repeat (first | (with_reducible first | exact HB.out | apply below_alloc | apply pw_below_drewN | apply below_drew1 | refine below_set ?_ GE150.out) | exact HB.out)) hb); have n2_ := Aside0.mk (hbox); have n3_ := Aside0.mk ((by rw [hg]; exact (below_size (by repeat (first | (with_reducible first | exact HB.out | apply below_alloc | apply pw_below_drewN | apply below_drew1 | refine below_set ?_ GE150.out) | exact HB.out))) : w.heap.size ≤ gb152)); have n4_ := Aside0.mk ((by rw [hg]; exact (below_size (by repeat (first | (with_reducible first | exact HB.out | apply below_alloc | apply pw_below_drewN | apply below_drew1 | refine below_set ?_ GE150.out) | exact HB.out))) : w.heap.size ≤ gb152)); have n5_ := Aside0.mk ((by rw [hg]; exact Nat.ne_of_lt (blk_lt (g := gb150) (o := .cells #[.int .i64 a0_0, .int .i64 a0_1, .slice (some ad151) l0_2.length c0_2] 24 (0, 0)) (by (with_reducible repeat (first | refine blk_drewN ?_ _ | refine blk_drew ?_ | refine blk_alloc ?_ _)); exact BK150.out)) : gb150 ≠ gb152)); have n6_ := Aside0.mk ((by rw [hg]; exact Nat.ne_of_gt (blk_lt (g := gb150) (o := .cells #[.int .i64 a0_0, .int .i64 a0_1, .slice (some ad151) l0_2.length c0_2] 24 (0, 0)) (by (with_reducible repeat (first | refine blk_drewN ?_ _ | refine blk_drew ?_ | refine blk_alloc ?_ _)); exact BK150.out)) : gb152 ≠ gb150)); clear BK150; clear HB; have BK150 := n0_; have HB := n1_; have BK152 := n2_; have GW152 := n3_; have GE152 := n4_; have NB150_152 := n5_; have NB152_150 := n6_; clear n0_ n1_ n2_ n3_ n4_ n5_ n6_; clear hb hbox hg; have hnb13 := NB152_150.out; have hnc13 := NB150_152.out; have hcz14_0 : w12.cell? ⟨gb152, 0, none⟩ = some (.int .i64 0) := (blk_cell BK152.out 0).trans rfl; have hcz14_1 : w12.cell? ⟨gb152, 1, none⟩ = some (.int .i64 0) := (blk_cell BK152.out 1).trans rfl; have hcz14_2 : w12.cell? ⟨gb152, 2, none⟩ = some (.int .i64 0) := (blk_cell BK152.out 2).trans rfl; have hcz14_3 : w12.cell? ⟨gb152, 3, none⟩ = some (.int .i64 0) := (blk_cell BK152.out 3).trans rfl; have hcz14_4 : w12.cell? ⟨gb152, 4, none⟩ = some (.slice none 0 0) := (blk_cell BK152.out 4).trans rfl; have hcz14_5 : w12.cell? ⟨gb152, 5, none⟩ = some (.int .i64 0) := (blk_cell BK152.out 5).trans rfl; have hcz14_6 : w12.cell? ⟨gb152, 6, none⟩ = some (.int .i64 0) := (blk_cell BK152.out 6).trans rfl; have hcz14_7 : w12.cell? ⟨gb152, 7, none⟩ = some (.int .i64 0) := (blk_cell BK152.out 7).trans rfl; have hfz14_0 := blk_frozen BK152.out 0; have hfz14_1 := blk_frozen BK152.out 1; have hfz14_2 := blk_frozen BK152.out 2; have hfz14_3 := blk_frozen BK152.out 3; have hfz14_4 := blk_frozen BK152.out 4; have hfz14_5 := blk_frozen BK152.out 5; have hfz14_6 := blk_frozen BK152.out 6; have hfz14_7 := blk_frozen BK152.out 7)); go_upto_region 5 with (first | ((with_reducible refine gate_dst (N := 5) rfl ?_); (try (refine gate_guard (by rfl) ?_; dsimp only)); refine box_event ?hg (N := 5) ?hd (cs := #[.int .i64 0, .int .i64 0, .int .i64 0, .int .i64 0, .slice none 0 0, .int .i64 0, .int .i64 0, .int .i64 0]) (t := 44) ?hr ?_; (case hd => rfl); (case hg => rfl); (case hr => first | (go_simp; done) | (go_simp; rfl)); intro gb152 hg w12 hbox hb; have n0_ := Aside0.mk (blk_below (g := gb150) (o := .cells #[.int .i64 a0_0, .int .i64 a0_1, .slice (some ad151) l0_2.length c0_2] 24 (0, 0)) (by (with_reducible repeat (first | refine blk_drewN ?_ _ | refine blk_drew ?_ | refine blk_alloc ?_ _)); exact BK150.out) hb); have n1_ := Aside0.mk (below_step (by repeat (first | (with_reducible first | exact HB.out | apply below_alloc | apply pw_below_drewN | apply below_drew1 | refine below_set ?_ GE150.out) | exact HB.out)) hb); have n2_ := Aside0.mk (hbox); have n3_ := Aside0.mk ((by rw [hg]; exact (below_size (by repeat (first | (with_reducible first | exact HB.out | apply below_alloc | apply pw_below_drewN | apply below_drew1 | refine below_set ?_ GE150.out) | exact HB.out))) : w.heap.size ≤ gb152)); have n4_ := Aside0.mk ((by rw [hg]; exact (below_size (by repeat (first | (with_reducible first | exact HB.out | apply below_alloc | apply pw_below_drewN | apply below_drew1 | refine below_set ?_ GE150.out) | exact HB.out))) : w.heap.size ≤ gb152)); have n5_ := Aside0.mk ((by rw [hg]; exact Nat.ne_of_lt (blk_lt (g := gb150) (o := .cells #[.int .i64 a0_0, .int .i64 a0_1, .slice (some ad151) l0_2.length c0_2] 24 (0, 0)) (by (with_reducible repeat (first | refine blk_drewN ?_ _ | refine blk_drew ?_ | refine blk_alloc ?_ _)); exact BK150.out)) : gb150 ≠ gb152)); have n6_ := Aside0.mk ((by rw [hg]; exact Nat.ne_of_gt (blk_lt (g := gb150) (o := .cells #[.int .i64 a0_0, .int .i64 a0_1, .slice (some ad151) l0_2.length c0_2] 24 (0, 0)) (by (with_reducible repeat (first | refine blk_drewN ?_ _ | refine blk_drew ?_ | refine blk_alloc ?_ _)); exact BK150.out)) : gb152 ≠ gb150)); clear BK150; clear HB; have BK150 := n0_; have HB := n1_; have BK152 := n2_; have GW152 := n3_; have GE152 := n4_; have NB150_152 := n5_; have NB152_150 := n6_; clear n0_ n1_ n2_ n3_ n4_ n5_ n6_; clear hb hbox hg; have hnb13 := NB152_150.out; have hnc13 := NB150_152.out; have hcz14_0 : w12.cell? ⟨gb152, 0, none⟩ = some (.int .i64 0) := (blk_cell BK152.out 0).trans rfl; have hcz14_1 : w12.cell? ⟨gb152, 1, none⟩ = some (.int .i64 0) := (blk_cell BK152.out 1).trans rfl; have hcz14_2 : w12.cell? ⟨gb152, 2, none⟩ = some (.int .i64 0) := (blk_cell BK152.out 2).trans rfl; have hcz14_3 : w12.cell? ⟨gb152, 3, none⟩ = some (.int .i64 0) := (blk_cell BK152.out 3).trans rfl; have hcz14_4 : w12.cell? ⟨gb152, 4, none⟩ = some (.slice none 0 0) := (blk_cell BK152.out 4).trans rfl; have hcz14_5 : w12.cell? ⟨gb152, 5, none⟩ = some (.int .i64 0) := (blk_cell BK152.out 5).trans rfl; have hcz14_6 : w12.cell? ⟨gb152, 6, none⟩ = some (.int .i64 0) := (blk_cell BK152.out 6).trans rfl; have hcz14_7 : w12.cell? ⟨gb152, 7, none⟩ = some (.int .i64 0) := (blk_cell BK152.out 7).trans rfl; have hfz14_0 := blk_frozen BK152.out 0; have hfz14_1 := blk_frozen BK152.out 1; have hfz14_2 := blk_frozen BK152.out 2; have hfz14_3 := blk_frozen BK152.out 3; have hfz14_4 := blk_frozen BK152.out 4; have hfz14_5 := blk_frozen BK152.out 5; have hfz14_6 := blk_frozen BK152.out 6; have hfz14_7 := blk_frozen BK152.out 7)))
      (try simp only [Act.put, List.setIfInBounds_toArray, List.set_cons_zero, List.set_cons_succ])
      go_cut [36] (fun v36 wc => ∃ (kq : Nat) (x36_9 : Bool), v36 = .bool x36_9 ∧ Aside0 (davitref07_Next.j1 kq ([] : List Int) x36_9 a0_0 a0_1 l0_2 ((rd_T50 l0_2 a1).f3.f0) ((rd_T50 l0_2 a1).f3.f1) ((rd_T50 l0_2 a1).f3.f2) ((rd_T50 l0_2 a1).f3.f3) ((rd_T50 l0_2 a1).f3.f4) ((rd_T50 l0_2 a1).f3.f5) ((rd_T50 l0_2 a1).f3.f6) ((rd_T50 l0_2 a1).f3.f7) = some r) ∧ Aside0 (kq ≤ kj2) ∧ Aside0 (Kd.R (Kd.int .i64) 3 wc w.heap.size (fun _ => True) (.slice none 0 0) ([] : List Int)) ∧ Aside0 (wc.heap[gb150]? = some (.cells #[.int .i64 a0_0, .int .i64 a0_1, (.slice (some ad151) l0_2.length c0_2)] 24 (0, 0))) ∧ Aside0 (wc.heap[gb152]? = some (.cells #[.int .i64 ((rd_T50 l0_2 a1).f3.f0), .int .i64 ((rd_T50 l0_2 a1).f3.f1), .int .i64 ((rd_T50 l0_2 a1).f3.f2), .int .i64 ((rd_T50 l0_2 a1).f3.f3), (.slice A151_10 ((rd_T50 l0_2 a1).f3.f4).length c151_10), .int .i64 ((rd_T50 l0_2 a1).f3.f5), .int .i64 ((rd_T50 l0_2 a1).f3.f6), .int .i64 ((rd_T50 l0_2 a1).f3.f7)] 44 (0, 0))) ∧ Aside0 (Below w.heap.size w wc))
      case first =>
       have H := HC10.out
       clear HC10
       by_cases c15 : ((rd_T50 l0_2 a1).f3.f0) = 2
       ·rw [if_pos c15] at H
        have c15b0 : (((rd_T50 l0_2 a1).f3.f0) == 2) = true := beq_iff_eq.mpr c15
        have c15b1 : (((rd_T50 l0_2 a1).f3.f0) != 2) = false := bne_eq_false_iff_eq.mpr c15
        clear c15
        (first | rw [c15b0] | (simp only [i64_w, i32_w]; rw [c15b0]) | skip)
        have H' := Aside0.mk H
        clear H
        have hnb16 := NB152_150.out
        have hnc16 := NB150_152.out
        have hcz17_0 : w12.cell? ⟨gb152, 0, none⟩ = some (.int .i64 0) := (blk_cell BK152.out 0).trans rfl
        have hcz17_1 : w12.cell? ⟨gb152, 1, none⟩ = some (.int .i64 0) := (blk_cell BK152.out 1).trans rfl
        have hcz17_2 : w12.cell? ⟨gb152, 2, none⟩ = some (.int .i64 0) := (blk_cell BK152.out 2).trans rfl
        have hcz17_3 : w12.cell? ⟨gb152, 3, none⟩ = some (.int .i64 0) := (blk_cell BK152.out 3).trans rfl
        have hcz17_4 : w12.cell? ⟨gb152, 4, none⟩ = some (.slice none 0 0) := (blk_cell BK152.out 4).trans rfl
        have hcz17_5 : w12.cell? ⟨gb152, 5, none⟩ = some (.int .i64 0) := (blk_cell BK152.out 5).trans rfl
        have hcz17_6 : w12.cell? ⟨gb152, 6, none⟩ = some (.int .i64 0) := (blk_cell BK152.out 6).trans rfl
        have hcz17_7 : w12.cell? ⟨gb152, 7, none⟩ = some (.int .i64 0) := (blk_cell BK152.out 7).trans rfl
        have hfz17_0 := blk_frozen BK152.out 0
        have hfz17_1 := blk_frozen BK152.out 1
        have hfz17_2 := blk_frozen BK152.out 2
        have hfz17_3 := blk_frozen BK152.out 3
        have hfz17_4 := blk_frozen BK152.out 4
        have hfz17_5 := blk_frozen BK152.out 5
        have hfz17_6 := blk_frozen BK152.out 6
        have hfz17_7 := blk_frozen BK152.out 7
        go_wp2
        repeat (go_quiet (fail); try go_wp2)
        go_meet
        case rel => exact ⟨_, (true), (by first | rfl | (simp; done) | (simp [*]; done)), H', ⟨by have := HJ2.out; first | omega | exact Nat.le_refl _⟩, ⟨by first | exact Kd.R_nil _ _ _ _ _ | exact Kd.N_nil _ _ _ _ _ | exact Kd.V_nil _ _ _ _ _ | exact Kd.Q_nil _ _ _ _ _ | exact Kd.S_nil _ _ _ _ _⟩, ⟨by (with_reducible repeat (first | refine blk_drewN ?_ _ | refine blk_drew ?_ | refine blk_alloc ?_ _)); refine blk_far ?_ NB150_152.out _; (with_reducible repeat (first | refine blk_drewN ?_ _ | refine blk_drew ?_ | refine blk_alloc ?_ _)); refine blk_far ?_ NB150_152.out _; (with_reducible repeat (first | refine blk_drewN ?_ _ | refine blk_drew ?_ | refine blk_alloc ?_ _)); refine blk_far ?_ NB150_152.out _; (with_reducible repeat (first | refine blk_drewN ?_ _ | refine blk_drew ?_ | refine blk_alloc ?_ _)); refine blk_far ?_ NB150_152.out _; (with_reducible repeat (first | refine blk_drewN ?_ _ | refine blk_drew ?_ | refine blk_alloc ?_ _)); refine blk_far ?_ NB150_152.out _; (with_reducible repeat (first | refine blk_drewN ?_ _ | refine blk_drew ?_ | refine blk_alloc ?_ _)); refine blk_far ?_ NB150_152.out _; (with_reducible repeat (first | refine blk_drewN ?_ _ | refine blk_drew ?_ | refine blk_alloc ?_ _)); refine blk_far ?_ NB150_152.out _; (with_reducible repeat (first | refine blk_drewN ?_ _ | refine blk_drew ?_ | refine blk_alloc ?_ _)); refine blk_far ?_ NB150_152.out _; (with_reducible repeat (first | refine blk_drewN ?_ _ | refine blk_drew ?_ | refine blk_alloc ?_ _)); exact BK150.out⟩, ⟨by (with_reducible repeat (first | refine blk_drewN ?_ _ | refine blk_drew ?_ | refine blk_alloc ?_ _)); refine blk_put (cs := #[.int .i64 ((rd_T50 l0_2 a1).f3.f0), .int .i64 ((rd_T50 l0_2 a1).f3.f1), .int .i64 ((rd_T50 l0_2 a1).f3.f2), .int .i64 ((rd_T50 l0_2 a1).f3.f3), .slice A151_10 ((rd_T50 l0_2 a1).f3.f4).length c151_10, .int .i64 ((rd_T50 l0_2 a1).f3.f5), .int .i64 ((rd_T50 l0_2 a1).f3.f6), .int .i64 0]) ?_ 7 _ rfl; (with_reducible repeat (first | refine blk_drewN ?_ _ | refine blk_drew ?_ | refine blk_alloc ?_ _)); refine blk_put (cs := #[.int .i64 ((rd_T50 l0_2 a1).f3.f0), .int .i64 ((rd_T50 l0_2 a1).f3.f1), .int .i64 ((rd_T50 l0_2 a1).f3.f2), .int .i64 ((rd_T50 l0_2 a1).f3.f3), .slice A151_10 ((rd_T50 l0_2 a1).f3.f4).length c151_10, .int .i64 ((rd_T50 l0_2 a1).f3.f5), .int .i64 0, .int .i64 0]) ?_ 6 _ rfl; (with_reducible repeat (first | refine blk_drewN ?_ _ | refine blk_drew ?_ | refine blk_alloc ?_ _)); refine blk_put (cs := #[.int .i64 ((rd_T50 l0_2 a1).f3.f0), .int .i64 ((rd_T50 l0_2 a1).f3.f1), .int .i64 ((rd_T50 l0_2 a1).f3.f2), .int .i64 ((rd_T50 l0_2 a1).f3.f3), .slice A151_10 ((rd_T50 l0_2 a1).f3.f4).length c151_10, .int .i64 0, .int .i64 0, .int .i64 0]) ?_ 5 _ rfl; (with_reducible repeat (first | refine blk_drewN ?_ _ | refine blk_drew ?_ | refine blk_alloc ?_ _)); refine blk_put (cs := #[.int .i64 ((rd_T50 l0_2 a1).f3.f0), .int .i64 ((rd_T50 l0_2 a1).f3.f1), .int .i64 ((rd_T50 l0_2 a1).f3.f2), .int .i64 ((rd_T50 l0_2 a1).f3.f3), .slice none 0 0, .int .i64 0, .int .i64 0, .int .i64 0]) ?_ 4 _ rfl; (with_reducible repeat (first | refine blk_drewN ?_ _ | refine blk_drew ?_ | refine blk_alloc ?_ _)); refine blk_put (cs := #[.int .i64 ((rd_T50 l0_2 a1).f3.f0), .int .i64 ((rd_T50 l0_2 a1).f3.f1), .int .i64 ((rd_T50 l0_2 a1).f3.f2), .int .i64 0, .slice none 0 0, .int .i64 0, .int .i64 0, .int .i64 0]) ?_ 3 _ rfl; (with_reducible repeat (first | refine blk_drewN ?_ _ | refine blk_drew ?_ | refine blk_alloc ?_ _)); refine blk_put (cs := #[.int .i64 ((rd_T50 l0_2 a1).f3.f0), .int .i64 ((rd_T50 l0_2 a1).f3.f1), .int .i64 0, .int .i64 0, .slice none 0 0, .int .i64 0, .int .i64 0, .int .i64 0]) ?_ 2 _ rfl; (with_reducible repeat (first | refine blk_drewN ?_ _ | refine blk_drew ?_ | refine blk_alloc ?_ _)); refine blk_put (cs := #[.int .i64 ((rd_T50 l0_2 a1).f3.f0), .int .i64 0, .int .i64 0, .int .i64 0, .slice none 0 0, .int .i64 0, .int .i64 0, .int .i64 0]) ?_ 1 _ rfl; (with_reducible repeat (first | refine blk_drewN ?_ _ | refine blk_drew ?_ | refine blk_alloc ?_ _)); refine blk_put (cs := #[.int .i64 0, .int .i64 0, .int .i64 0, .int .i64 0, .slice none 0 0, .int .i64 0, .int .i64 0, .int .i64 0]) ?_ 0 _ rfl; (with_reducible repeat (first | refine blk_drewN ?_ _ | refine blk_drew ?_ | refine blk_alloc ?_ _)); exact BK152.out⟩, ⟨by repeat (first | (with_reducible first | exact HB.out | apply below_alloc | apply pw_below_drewN | apply below_drew1 | refine below_set ?_ GE150.out | refine below_set ?_ GE152.out) | exact HB.out)⟩⟩
       ·rw [if_neg c15] at H
        have c15b0 : (((rd_T50 l0_2 a1).f3.f0) == 2) = false := beq_eq_false_iff_ne.mpr c15
        have c15b1 : (((rd_T50 l0_2 a1).f3.f0) != 2) = true := bne_iff_ne.mpr c15
        (first | rw [c15b0] | (simp only [i64_w, i32_w]; rw [c15b0]) | skip)
        by_cases c18 : ((rd_T50 l0_2 a1).f3.f0) = 3
        ·rw [if_pos c18] at H
         have c18b0 : (((rd_T50 l0_2 a1).f3.f0) == 3) = true := beq_iff_eq.mpr c18
         have c18b1 : (((rd_T50 l0_2 a1).f3.f0) != 3) = false := bne_eq_false_iff_eq.mpr c18
         clear c18
         have H' := Aside0.mk H
         clear H
         have hnb19 := NB152_150.out
         have hnc19 := NB150_152.out
         have hcz20_0 : w12.cell? ⟨gb152, 0, none⟩ = some (.int .i64 0) := (blk_cell BK152.out 0).trans rfl
         have hcz20_1 : w12.cell? ⟨gb152, 1, none⟩ = some (.int .i64 0) := (blk_cell BK152.out 1).trans rfl
         have hcz20_2 : w12.cell? ⟨gb152, 2, none⟩ = some (.int .i64 0) := (blk_cell BK152.out 2).trans rfl
         have hcz20_3 : w12.cell? ⟨gb152, 3, none⟩ = some (.int .i64 0) := (blk_cell BK152.out 3).trans rfl
         have hcz20_4 : w12.cell? ⟨gb152, 4, none⟩ = some (.slice none 0 0) := (blk_cell BK152.out 4).trans rfl
         have hcz20_5 : w12.cell? ⟨gb152, 5, none⟩ = some (.int .i64 0) := (blk_cell BK152.out 5).trans rfl
         have hcz20_6 : w12.cell? ⟨gb152, 6, none⟩ = some (.int .i64 0) := (blk_cell BK152.out 6).trans rfl
         have hcz20_7 : w12.cell? ⟨gb152, 7, none⟩ = some (.int .i64 0) := (blk_cell BK152.out 7).trans rfl
         have hfz20_0 := blk_frozen BK152.out 0
         have hfz20_1 := blk_frozen BK152.out 1
         have hfz20_2 := blk_frozen BK152.out 2
         have hfz20_3 := blk_frozen BK152.out 3
         have hfz20_4 := blk_frozen BK152.out 4
         have hfz20_5 := blk_frozen BK152.out 5
         have hfz20_6 := blk_frozen BK152.out 6
         have hfz20_7 := blk_frozen BK152.out 7
         go_wp2
         repeat (go_quiet (fail); try go_wp2)
         go_meet
         case rel => exact ⟨_, (true), (by first | rfl | (simp; done) | (simp [*]; done)), H', ⟨by have := HJ2.out; first | omega | exact Nat.le_refl _⟩, ⟨by first | exact Kd.R_nil _ _ _ _ _ | exact Kd.N_nil _ _ _ _ _ | exact Kd.V_nil _ _ _ _ _ | exact Kd.Q_nil _ _ _ _ _ | exact Kd.S_nil _ _ _ _ _⟩, ⟨by (with_reducible repeat (first | refine blk_drewN ?_ _ | refine blk_drew ?_ | refine blk_alloc ?_ _)); refine blk_far ?_ NB150_152.out _; (with_reducible repeat (first | refine blk_drewN ?_ _ | refine blk_drew ?_ | refine blk_alloc ?_ _)); refine blk_far ?_ NB150_152.out _; (with_reducible repeat (first | refine blk_drewN ?_ _ | refine blk_drew ?_ | refine blk_alloc ?_ _)); refine blk_far ?_ NB150_152.out _; (with_reducible repeat (first | refine blk_drewN ?_ _ | refine blk_drew ?_ | refine blk_alloc ?_ _)); refine blk_far ?_ NB150_152.out _; (with_reducible repeat (first | refine blk_drewN ?_ _ | refine blk_drew ?_ | refine blk_alloc ?_ _)); refine blk_far ?_ NB150_152.out _; (with_reducible repeat (first | refine blk_drewN ?_ _ | refine blk_drew ?_ | refine blk_alloc ?_ _)); refine blk_far ?_ NB150_152.out _; (with_reducible repeat (first | refine blk_drewN ?_ _ | refine blk_drew ?_ | refine blk_alloc ?_ _)); refine blk_far ?_ NB150_152.out _; (with_reducible repeat (first | refine blk_drewN ?_ _ | refine blk_drew ?_ | refine blk_alloc ?_ _)); refine blk_far ?_ NB150_152.out _; (with_reducible repeat (first | refine blk_drewN ?_ _ | refine blk_drew ?_ | refine blk_alloc ?_ _)); exact BK150.out⟩, ⟨by (with_reducible repeat (first | refine blk_drewN ?_ _ | refine blk_drew ?_ | refine blk_alloc ?_ _)); refine blk_put (cs := #[.int .i64 ((rd_T50 l0_2 a1).f3.f0), .int .i64 ((rd_T50 l0_2 a1).f3.f1), .int .i64 ((rd_T50 l0_2 a1).f3.f2), .int .i64 ((rd_T50 l0_2 a1).f3.f3), .slice A151_10 ((rd_T50 l0_2 a1).f3.f4).length c151_10, .int .i64 ((rd_T50 l0_2 a1).f3.f5), .int .i64 ((rd_T50 l0_2 a1).f3.f6), .int .i64 0]) ?_ 7 _ rfl; (with_reducible repeat (first | refine blk_drewN ?_ _ | refine blk_drew ?_ | refine blk_alloc ?_ _)); refine blk_put (cs := #[.int .i64 ((rd_T50 l0_2 a1).f3.f0), .int .i64 ((rd_T50 l0_2 a1).f3.f1), .int .i64 ((rd_T50 l0_2 a1).f3.f2), .int .i64 ((rd_T50 l0_2 a1).f3.f3), .slice A151_10 ((rd_T50 l0_2 a1).f3.f4).length c151_10, .int .i64 ((rd_T50 l0_2 a1).f3.f5), .int .i64 0, .int .i64 0]) ?_ 6 _ rfl; (with_reducible repeat (first | refine blk_drewN ?_ _ | refine blk_drew ?_ | refine blk_alloc ?_ _)); refine blk_put (cs := #[.int .i64 ((rd_T50 l0_2 a1).f3.f0), .int .i64 ((rd_T50 l0_2 a1).f3.f1), .int .i64 ((rd_T50 l0_2 a1).f3.f2), .int .i64 ((rd_T50 l0_2 a1).f3.f3), .slice A151_10 ((rd_T50 l0_2 a1).f3.f4).length c151_10, .int .i64 0, .int .i64 0, .int .i64 0]) ?_ 5 _ rfl; (with_reducible repeat (first | refine blk_drewN ?_ _ | refine blk_drew ?_ | refine blk_alloc ?_ _)); refine blk_put (cs := #[.int .i64 ((rd_T50 l0_2 a1).f3.f0), .int .i64 ((rd_T50 l0_2 a1).f3.f1), .int .i64 ((rd_T50 l0_2 a1).f3.f2), .int .i64 ((rd_T50 l0_2 a1).f3.f3), .slice none 0 0, .int .i64 0, .int .i64 0, .int .i64 0]) ?_ 4 _ rfl; (with_reducible repeat (first | refine blk_drewN ?_ _ | refine blk_drew ?_ | refine blk_alloc ?_ _)); refine blk_put (cs := #[.int .i64 ((rd_T50 l0_2 a1).f3.f0), .int .i64 ((rd_T50 l0_2 a1).f3.f1), .int .i64 ((rd_T50 l0_2 a1).f3.f2), .int .i64 0, .slice none 0 0, .int .i64 0, .int .i64 0, .int .i64 0]) ?_ 3 _ rfl; (with_reducible repeat (first | refine blk_drewN ?_ _ | refine blk_drew ?_ | refine blk_alloc ?_ _)); refine blk_put (cs := #[.int .i64 ((rd_T50 l0_2 a1).f3.f0), .int .i64 ((rd_T50 l0_2 a1).f3.f1), .int .i64 0, .int .i64 0, .slice none 0 0, .int .i64 0, .int .i64 0, .int .i64 0]) ?_ 2 _ rfl; (with_reducible repeat (first | refine blk_drewN ?_ _ | refine blk_drew ?_ | refine blk_alloc ?_ _)); refine blk_put (cs := #[.int .i64 ((rd_T50 l0_2 a1).f3.f0), .int .i64 0, .int .i64 0, .int .i64 0, .slice none 0 0, .int .i64 0, .int .i64 0, .int .i64 0]) ?_ 1 _ rfl; (with_reducible repeat (first | refine blk_drewN ?_ _ | refine blk_drew ?_ | refine blk_alloc ?_ _)); refine blk_put (cs := #[.int .i64 0, .int .i64 0, .int .i64 0, .int .i64 0, .slice none 0 0, .int .i64 0, .int .i64 0, .int .i64 0]) ?_ 0 _ rfl; (with_reducible repeat (first | refine blk_drewN ?_ _ | refine blk_drew ?_ | refine blk_alloc ?_ _)); exact BK152.out⟩, ⟨by repeat (first | (with_reducible first | exact HB.out | apply below_alloc | apply pw_below_drewN | apply below_drew1 | refine below_set ?_ GE150.out | refine below_set ?_ GE152.out) | exact HB.out)⟩⟩
        ·rw [if_neg c18] at H
         have c18b0 : (((rd_T50 l0_2 a1).f3.f0) == 3) = false := beq_eq_false_iff_ne.mpr c18
         have c18b1 : (((rd_T50 l0_2 a1).f3.f0) != 3) = true := bne_iff_ne.mpr c18
         have H' := Aside0.mk H
         clear H
         have hnb21 := NB152_150.out
         have hnc21 := NB150_152.out
         have hcz22_0 : w12.cell? ⟨gb152, 0, none⟩ = some (.int .i64 0) := (blk_cell BK152.out 0).trans rfl
         have hcz22_1 : w12.cell? ⟨gb152, 1, none⟩ = some (.int .i64 0) := (blk_cell BK152.out 1).trans rfl
         have hcz22_2 : w12.cell? ⟨gb152, 2, none⟩ = some (.int .i64 0) := (blk_cell BK152.out 2).trans rfl
         have hcz22_3 : w12.cell? ⟨gb152, 3, none⟩ = some (.int .i64 0) := (blk_cell BK152.out 3).trans rfl
         have hcz22_4 : w12.cell? ⟨gb152, 4, none⟩ = some (.slice none 0 0) := (blk_cell BK152.out 4).trans rfl
         have hcz22_5 : w12.cell? ⟨gb152, 5, none⟩ = some (.int .i64 0) := (blk_cell BK152.out 5).trans rfl
         have hcz22_6 : w12.cell? ⟨gb152, 6, none⟩ = some (.int .i64 0) := (blk_cell BK152.out 6).trans rfl
         have hcz22_7 : w12.cell? ⟨gb152, 7, none⟩ = some (.int .i64 0) := (blk_cell BK152.out 7).trans rfl
         have hfz22_0 := blk_frozen BK152.out 0
         have hfz22_1 := blk_frozen BK152.out 1
         have hfz22_2 := blk_frozen BK152.out 2
         have hfz22_3 := blk_frozen BK152.out 3
         have hfz22_4 := blk_frozen BK152.out 4
         have hfz22_5 := blk_frozen BK152.out 5
         have hfz22_6 := blk_frozen BK152.out 6
         have hfz22_7 := blk_frozen BK152.out 7
         go_wp2
         repeat (go_quiet (fail); try go_wp2)
         go_meet
         case rel => exact ⟨_, ((((rd_T50 l0_2 a1).f3.f0) == 4)), (by first | rfl | (simp; done) | (simp [*]; done)), H', ⟨by have := HJ2.out; first | omega | exact Nat.le_refl _⟩, ⟨by first | exact Kd.R_nil _ _ _ _ _ | exact Kd.N_nil _ _ _ _ _ | exact Kd.V_nil _ _ _ _ _ | exact Kd.Q_nil _ _ _ _ _ | exact Kd.S_nil _ _ _ _ _⟩, ⟨by (with_reducible repeat (first | refine blk_drewN ?_ _ | refine blk_drew ?_ | refine blk_alloc ?_ _)); refine blk_far ?_ NB150_152.out _; (with_reducible repeat (first | refine blk_drewN ?_ _ | refine blk_drew ?_ | refine blk_alloc ?_ _)); refine blk_far ?_ NB150_152.out _; (with_reducible repeat (first | refine blk_drewN ?_ _ | refine blk_drew ?_ | refine blk_alloc ?_ _)); refine blk_far ?_ NB150_152.out _; (with_reducible repeat (first | refine blk_drewN ?_ _ | refine blk_drew ?_ | refine blk_alloc ?_ _)); refine blk_far ?_ NB150_152.out _; (with_reducible repeat (first | refine blk_drewN ?_ _ | refine blk_drew ?_ | refine blk_alloc ?_ _)); refine blk_far ?_ NB150_152.out _; (with_reducible repeat (first | refine blk_drewN ?_ _ | refine blk_drew ?_ | refine blk_alloc ?_ _)); refine blk_far ?_ NB150_152.out _; (with_reducible repeat (first | refine blk_drewN ?_ _ | refine blk_drew ?_ | refine blk_alloc ?_ _)); refine blk_far ?_ NB150_152.out _; (with_reducible repeat (first | refine blk_drewN ?_ _ | refine blk_drew ?_ | refine blk_alloc ?_ _)); refine blk_far ?_ NB150_152.out _; (with_reducible repeat (first | refine blk_drewN ?_ _ | refine blk_drew ?_ | refine blk_alloc ?_ _)); exact BK150.out⟩, ⟨by (with_reducible repeat (first | refine blk_drewN ?_ _ | refine blk_drew ?_ | refine blk_alloc ?_ _)); refine blk_put (cs := #[.int .i64 ((rd_T50 l0_2 a1).f3.f0), .int .i64 ((rd_T50 l0_2 a1).f3.f1), .int .i64 ((rd_T50 l0_2 a1).f3.f2), .int .i64 ((rd_T50 l0_2 a1).f3.f3), .slice A151_10 ((rd_T50 l0_2 a1).f3.f4).length c151_10, .int .i64 ((rd_T50 l0_2 a1).f3.f5), .int .i64 ((rd_T50 l0_2 a1).f3.f6), .int .i64 0]) ?_ 7 _ rfl; (with_reducible repeat (first | refine blk_drewN ?_ _ | refine blk_drew ?_ | refine blk_alloc ?_ _)); refine blk_put (cs := #[.int .i64 ((rd_T50 l0_2 a1).f3.f0), .int .i64 ((rd_T50 l0_2 a1).f3.f1), .int .i64 ((rd_T50 l0_2 a1).f3.f2), .int .i64 ((rd_T50 l0_2 a1).f3.f3), .slice A151_10 ((rd_T50 l0_2 a1).f3.f4).length c151_10, .int .i64 ((rd_T50 l0_2 a1).f3.f5), .int .i64 0, .int .i64 0]) ?_ 6 _ rfl; (with_reducible repeat (first | refine blk_drewN ?_ _ | refine blk_drew ?_ | refine blk_alloc ?_ _)); refine blk_put (cs := #[.int .i64 ((rd_T50 l0_2 a1).f3.f0), .int .i64 ((rd_T50 l0_2 a1).f3.f1), .int .i64 ((rd_T50 l0_2 a1).f3.f2), .int .i64 ((rd_T50 l0_2 a1).f3.f3), .slice A151_10 ((rd_T50 l0_2 a1).f3.f4).length c151_10, .int .i64 0, .int .i64 0, .int .i64 0]) ?_ 5 _ rfl; (with_reducible repeat (first | refine blk_drewN ?_ _ | refine blk_drew ?_ | refine blk_alloc ?_ _)); refine blk_put (cs := #[.int .i64 ((rd_T50 l0_2 a1).f3.f0), .int .i64 ((rd_T50 l0_2 a1).f3.f1), .int .i64 ((rd_T50 l0_2 a1).f3.f2), .int .i64 ((rd_T50 l0_2 a1).f3.f3), .slice none 0 0, .int .i64 0, .int .i64 0, .int .i64 0]) ?_ 4 _ rfl; (with_reducible repeat (first | refine blk_drewN ?_ _ | refine blk_drew ?_ | refine blk_alloc ?_ _)); refine blk_put (cs := #[.int .i64 ((rd_T50 l0_2 a1).f3.f0), .int .i64 ((rd_T50 l0_2 a1).f3.f1), .int .i64 ((rd_T50 l0_2 a1).f3.f2), .int .i64 0, .slice none 0 0, .int .i64 0, .int .i64 0, .int .i64 0]) ?_ 3 _ rfl; (with_reducible repeat (first | refine blk_drewN ?_ _ | refine blk_drew ?_ | refine blk_alloc ?_ _)); refine blk_put (cs := #[.int .i64 ((rd_T50 l0_2 a1).f3.f0), .int .i64 ((rd_T50 l0_2 a1).f3.f1), .int .i64 0, .int .i64 0, .slice none 0 0, .int .i64 0, .int .i64 0, .int .i64 0]) ?_ 2 _ rfl; (with_reducible repeat (first | refine blk_drewN ?_ _ | refine blk_drew ?_ | refine blk_alloc ?_ _)); refine blk_put (cs := #[.int .i64 ((rd_T50 l0_2 a1).f3.f0), .int .i64 0, .int .i64 0, .int .i64 0, .slice none 0 0, .int .i64 0, .int .i64 0, .int .i64 0]) ?_ 1 _ rfl; (with_reducible repeat (first | refine blk_drewN ?_ _ | refine blk_drew ?_ | refine blk_alloc ?_ _)); refine blk_put (cs := #[.int .i64 0, .int .i64 0, .int .i64 0, .int .i64 0, .slice none 0 0, .int .i64 0, .int .i64 0, .int .i64 0]) ?_ 0 _ rfl; (with_reducible repeat (first | refine blk_drewN ?_ _ | refine blk_drew ?_ | refine blk_alloc ?_ _)); exact BK152.out⟩, ⟨by repeat (first | (with_reducible first | exact HB.out | apply below_alloc | apply pw_below_drewN | apply below_drew1 | refine below_set ?_ GE150.out | refine below_set ?_ GE152.out) | exact HB.out)⟩⟩
      case rest =>
       clear HC10
       try clear c1
       try clear p1
       try clear q1
       try clear hx1
       try clear c2
       try clear p2
       try clear c3
       try clear c5
       try clear c5b0
       try clear c7
       try clear c8
       try clear c8b0
       try clear c9
       try clear c9b0
       try clear c13
       try clear c15
       try clear c15b0
       try clear c15b1
       try clear p15
       try clear q15
       try clear hx15
       try clear c16
       try clear c18
       try clear c18b0
       try clear c18b1
       try clear c19
       try clear c21
       try clear hcz11_0
       try clear hcz11_1
       try clear hcz11_2
       try clear hcz14_0
       try clear hcz14_1
       try clear hcz14_2
       try clear hcz14_3
       try clear hcz14_4
       try clear hcz14_5
       try clear hcz14_6
       try clear hcz14_7
       try clear hcz17_0
       try clear hcz17_1
       try clear hcz17_2
       try clear hcz17_3
       try clear hcz17_4
       try clear hcz17_5
       try clear hcz17_6
       try clear hcz17_7
       try clear hcz20_0
       try clear hcz20_1
       try clear hcz20_2
       try clear hcz20_3
       try clear hcz20_4
       try clear hcz20_5
       try clear hcz20_6
       try clear hcz20_7
       try clear hcz22_0
       try clear hcz22_1
       try clear hcz22_2
       try clear hcz22_3
       try clear hcz22_4
       try clear hcz22_5
       try clear hcz22_6
       try clear hcz22_7
       try clear hcz6_0
       try clear hcz6_1
       try clear hcz6_2
       try clear hfz11_0
       try clear hfz11_1
       try clear hfz11_2
       try clear hfz14_0
       try clear hfz14_1
       try clear hfz14_2
       try clear hfz14_3
       try clear hfz14_4
       try clear hfz14_5
       try clear hfz14_6
       try clear hfz14_7
       try clear hfz17_0
       try clear hfz17_1
       try clear hfz17_2
       try clear hfz17_3
       try clear hfz17_4
       try clear hfz17_5
       try clear hfz17_6
       try clear hfz17_7
       try clear hfz20_0
       try clear hfz20_1
       try clear hfz20_2
       try clear hfz20_3
       try clear hfz20_4
       try clear hfz20_5
       try clear hfz20_6
       try clear hfz20_7
       try clear hfz22_0
       try clear hfz22_1
       try clear hfz22_2
       try clear hfz22_3
       try clear hfz22_4
       try clear hfz22_5
       try clear hfz22_6
       try clear hfz22_7
       try clear hfz6_0
       try clear hfz6_1
       try clear hfz6_2
       try clear hx151_0
       try clear hx151_1
       try clear hx151_10
       try clear hx151_11
       try clear hx151_12
       try clear hx151_13
       try clear hx151_2
       try clear hx151_3
       try clear hx151_4
       try clear hx151_5
       try clear hx151_6
       try clear hx151_7
       try clear hx151_8
       try clear hx151_9
       try clear p151
       try clear p2
       try clear q151
       obtain ⟨kq, x36_9, rfl, HA, HJ9, HO_6, BK150, BK152, HB⟩ := hcut
       cases kq with
       | zero => exact absurd HA.out (by simp [davitref07_Next.j1])
       | succ kj9 =>
        have H := HA.out
        clear HA
        simp only [davitref07_Next.j1] at H
        have HC23 := Aside0.mk H
        clear H
        go_upto_if 36 with (fail)
        repeat (go_quiet (fail); go_upto_if 36 with (fail))
        go_cut [6] (fun v6 wc => ∃ (kq : Nat) (x6_22 : List Int), Aside0 (davitref07_Next.j2 kq x6_22 a0_0 a0_1 l0_2 ((rd_T50 l0_2 a1).f3.f0) ((rd_T50 l0_2 a1).f3.f1) ((rd_T50 l0_2 a1).f3.f2) ((rd_T50 l0_2 a1).f3.f3) ((rd_T50 l0_2 a1).f3.f4) ((rd_T50 l0_2 a1).f3.f5) ((rd_T50 l0_2 a1).f3.f6) ((rd_T50 l0_2 a1).f3.f7) = some r) ∧ Aside0 (kq ≤ kj9) ∧ Aside0 (Kd.R (Kd.int .i64) 3 wc w.heap.size (fun _ => True) v6 x6_22) ∧ Aside0 (wc.heap[gb150]? = some (.cells #[.int .i64 a0_0, .int .i64 a0_1, (.slice (some ad151) l0_2.length c0_2)] 24 (0, 0))) ∧ Aside0 (wc.heap[gb152]? = some (.cells #[.int .i64 ((rd_T50 l0_2 a1).f3.f0), .int .i64 ((rd_T50 l0_2 a1).f3.f1), .int .i64 ((rd_T50 l0_2 a1).f3.f2), .int .i64 ((rd_T50 l0_2 a1).f3.f3), (.slice A151_10 ((rd_T50 l0_2 a1).f3.f4).length c151_10), .int .i64 ((rd_T50 l0_2 a1).f3.f5), .int .i64 ((rd_T50 l0_2 a1).f3.f6), .int .i64 ((rd_T50 l0_2 a1).f3.f7)] 44 (0, 0))) ∧ Aside0 (Below w.heap.size w wc))
        case first =>
         have H := HC23.out
         clear HC23
         by_cases c24 : x36_9 = true
         ·subst c24
          have H1 : (if ([] : List Int).length < 17592186044416 then (davitref07_Next.j2 kj9 (([] : List Int) ++ [((rd_T50 l0_2 a1).f3.f5)]) a0_0 a0_1 l0_2 ((rd_T50 l0_2 a1).f3.f0) ((rd_T50 l0_2 a1).f3.f1) ((rd_T50 l0_2 a1).f3.f2) ((rd_T50 l0_2 a1).f3.f3) ((rd_T50 l0_2 a1).f3.f4) ((rd_T50 l0_2 a1).f3.f5) ((rd_T50 l0_2 a1).f3.f6) ((rd_T50 l0_2 a1).f3.f7)) else (none)) = some r := by rw [if_pos rfl] at H; exact H
          clear H
          have H := H1
          clear H1
          by_cases c25 : ([] : List Int).length < 17592186044416
          ·rw [if_pos c25] at H
           have LMc25 := Aside0.mk c25
           clear c25
           obtain ⟨y153, hy153⟩ : ∃ y_ : List Int, y_ = (([] : List Int) ++ [((rd_T50 l0_2 a1).f3.f5)]) := ⟨_, rfl⟩
           replace H : (davitref07_Next.j2 kj9 y153 a0_0 a0_1 l0_2 ((rd_T50 l0_2 a1).f3.f0) ((rd_T50 l0_2 a1).f3.f1) ((rd_T50 l0_2 a1).f3.f2) ((rd_T50 l0_2 a1).f3.f3) ((rd_T50 l0_2 a1).f3.f4) ((rd_T50 l0_2 a1).f3.f5) ((rd_T50 l0_2 a1).f3.f6) ((rd_T50 l0_2 a1).f3.f7)) = some r := by first | (rw [hy153]; with_reducible exact H) | (have H2_ := (Option.bind_some _ _).symm.trans H; rw [hy153]; with_reducible exact H2_) | (have H2_ := (Option.bind_some _ _).symm.trans H; with_reducible exact H2_) | with_reducible exact H | (rw [hy153]; exact H) | exact H
           have Ny153 := Aside0.mk hy153
           clear hy153
           have H' := Aside0.mk H
           clear H
           have hnb26 := NB152_150.out
           have hnc26 := NB150_152.out
           have hcz27_0 : wc.cell? ⟨gb152, 0, none⟩ = some (.int .i64 ((rd_T50 l0_2 a1).f3.f0)) := (blk_cell BK152.out 0).trans rfl
           have hcz27_1 : wc.cell? ⟨gb152, 1, none⟩ = some (.int .i64 ((rd_T50 l0_2 a1).f3.f1)) := (blk_cell BK152.out 1).trans rfl
           have hcz27_2 : wc.cell? ⟨gb152, 2, none⟩ = some (.int .i64 ((rd_T50 l0_2 a1).f3.f2)) := (blk_cell BK152.out 2).trans rfl
           have hcz27_3 : wc.cell? ⟨gb152, 3, none⟩ = some (.int .i64 ((rd_T50 l0_2 a1).f3.f3)) := (blk_cell BK152.out 3).trans rfl
           have hcz27_4 : wc.cell? ⟨gb152, 4, none⟩ = some (.slice A151_10 ((rd_T50 l0_2 a1).f3.f4).length c151_10) := (blk_cell BK152.out 4).trans rfl
           have hcz27_5 : wc.cell? ⟨gb152, 5, none⟩ = some (.int .i64 ((rd_T50 l0_2 a1).f3.f5)) := (blk_cell BK152.out 5).trans rfl
           have hcz27_6 : wc.cell? ⟨gb152, 6, none⟩ = some (.int .i64 ((rd_T50 l0_2 a1).f3.f6)) := (blk_cell BK152.out 6).trans rfl
           have hcz27_7 : wc.cell? ⟨gb152, 7, none⟩ = some (.int .i64 ((rd_T50 l0_2 a1).f3.f7)) := (blk_cell BK152.out 7).trans rfl
           have hfz27_0 := blk_frozen BK152.out 0
           have hfz27_1 := blk_frozen BK152.out 1
           have hfz27_2 := blk_frozen BK152.out 2
           have hfz27_3 := blk_frozen BK152.out 3
           have hfz27_4 := blk_frozen BK152.out 4
           have hfz27_5 := blk_frozen BK152.out 5
           have hfz27_6 := blk_frozen BK152.out 6
           have hfz27_7 := blk_frozen BK152.out 7
           go_wp2_with (first | ((with_reducible refine gate_builtin (b := .append) (xs := #[.tmp 37, .tmp 40]) rfl ?_); (try (refine gate_guard (by rfl) ?_; dsimp only)); at_builtin; refine Kd.R_append (Kd.int .i64) (w0 := w) w.heap.size rfl (.tmp 37) (.tmp 40) 27 3 (.int .i64 0) 8 rfl Try.underlying27 info3 rfl (by decide) (by omega) (.slice none 0 0) ([] : List Int) ((rd_T50 l0_2 a1).f3.f5) [.int .i64 ((rd_T50 l0_2 a1).f3.f5)] (fun _ => True) (fun _ => False) rfl rfl ?aP (fun _ hk => hk.elim) ?aF ?aO ?aB ?aS ?aL ?_; (case aP => exact rfl); (case aB => exact (by repeat (first | (with_reducible first | exact HB.out | apply below_alloc | apply pw_below_drewN | apply below_drew1 | refine below_set ?_ GE150.out | refine below_set ?_ GE152.out) | exact HB.out))); (case aF => exact (fun _ _ => trivial)); (case aO => exact (by (with_reducible repeat (first | apply Kd.R_alloc | apply Kd.R_drewN | apply Kd.R_drew)); exact HO_6.out)); (case aS => exact (below_size (by repeat (first | (with_reducible first | exact HB.out | apply below_alloc | apply pw_below_drewN | apply below_drew1 | refine below_set ?_ GE150.out | refine below_set ?_ GE152.out) | exact HB.out)))); (case aL => have := LMc25.out; omega); intro v154 w28 ho hb hg hat; rw [← Ny153.out] at ho; have n0_ := Aside0.mk (blk_grown (g := gb150) (o := .cells #[.int .i64 a0_0, .int .i64 a0_1, .slice (some ad151) l0_2.length c0_2] 24 (0, 0)) (by (with_reducible repeat (first | refine blk_drewN ?_ _ | refine blk_drew ?_ | refine blk_alloc ?_ _)); exact BK150.out) hg (Kd.R_ne HO_6.out BK150.out (by decide))); have n1_ := Aside0.mk (blk_grown (g := gb152) (o := .cells #[.int .i64 ((rd_T50 l0_2 a1).f3.f0), .int .i64 ((rd_T50 l0_2 a1).f3.f1), .int .i64 ((rd_T50 l0_2 a1).f3.f2), .int .i64 ((rd_T50 l0_2 a1).f3.f3), .slice A151_10 ((rd_T50 l0_2 a1).f3.f4).length c151_10, .int .i64 ((rd_T50 l0_2 a1).f3.f5), .int .i64 ((rd_T50 l0_2 a1).f3.f6), .int .i64 ((rd_T50 l0_2 a1).f3.f7)] 44 (0, 0)) (by (with_reducible repeat (first | refine blk_drewN ?_ _ | refine blk_drew ?_ | refine blk_alloc ?_ _)); exact BK152.out) hg (Kd.R_ne HO_6.out BK152.out (by decide))); have n2_ := Aside0.mk (hb); have n3_ := Aside0.mk (ho); clear BK150; clear BK152; clear HB; clear HO_6; have BK150 := n0_; have BK152 := n1_; have HB := n2_; have HO155 := n3_; clear n0_ n1_ n2_ n3_; clear ho hb hg hat))
           repeat (go_quiet (first | ((with_reducible refine gate_builtin (b := .append) (xs := #[.tmp 37, .tmp 40]) rfl ?_); (try (refine gate_guard (by rfl) ?_; dsimp only)); at_builtin; refine Kd.R_append (Kd.int .i64) (w0 := w) w.heap.size rfl (.tmp 37) (.tmp 40) 27 3 (.int .i64 0) 8 rfl Try.underlying27 info3 rfl (by decide) (by omega) (.slice none 0 0) ([] : List Int) ((rd_T50 l0_2 a1).f3.f5) [.int .i64 ((rd_T50 l0_2 a1).f3.f5)] (fun _ => True) (fun _ => False) rfl rfl ?aP (fun _ hk => hk.elim) ?aF ?aO ?aB ?aS ?aL ?_; (case aP => exact rfl); (case aB => exact (by repeat (first | (with_reducible first | exact HB.out | apply below_alloc | apply pw_below_drewN | apply below_drew1 | refine below_set ?_ GE150.out | refine below_set ?_ GE152.out) | exact HB.out))); (case aF => exact (fun _ _ => trivial)); (case aO => exact (by (with_reducible repeat (first | apply Kd.R_alloc | apply Kd.R_drewN | apply Kd.R_drew)); exact HO_6.out)); (case aS => exact (below_size (by repeat (first | (with_reducible first | exact HB.out | apply below_alloc | apply pw_below_drewN | apply below_drew1 | refine below_set ?_ GE150.out | refine below_set ?_ GE152.out) | exact HB.out)))); (case aL => have := LMc25.out; omega); intro v154 w28 ho hb hg hat; rw [← Ny153.out] at ho; have n0_ := Aside0.mk (blk_grown (g := gb150) (o := .cells #[.int .i64 a0_0, .int .i64 a0_1, .slice (some ad151) l0_2.length c0_2] 24 (0, 0)) (by (with_reducible repeat (first | refine blk_drewN ?_ _ | refine blk_drew ?_ | refine blk_alloc ?_ _)); exact BK150.out) hg (Kd.R_ne HO_6.out BK150.out (by decide))); have n1_ := Aside0.mk (blk_grown (g := gb152) (o := .cells #[.int .i64 ((rd_T50 l0_2 a1).f3.f0), .int .i64 ((rd_T50 l0_2 a1).f3.f1), .int .i64 ((rd_T50 l0_2 a1).f3.f2), .int .i64 ((rd_T50 l0_2 a1).f3.f3), .slice A151_10 ((rd_T50 l0_2 a1).f3.f4).length c151_10, .int .i64 ((rd_T50 l0_2 a1).f3.f5), .int .i64 ((rd_T50 l0_2 a1).f3.f6), .int .i64 ((rd_T50 l0_2 a1).f3.f7)] 44 (0, 0)) (by (with_reducible repeat (first | refine blk_drewN ?_ _ | refine blk_drew ?_ | refine blk_alloc ?_ _)); exact BK152.out) hg (Kd.R_ne HO_6.out BK152.out (by decide))); have n2_ := Aside0.mk (hb); have n3_ := Aside0.mk (ho); clear BK150; clear BK152; clear HB; clear HO_6; have BK150 := n0_; have BK152 := n1_; have HB := n2_; have HO155 := n3_; clear n0_ n1_ n2_ n3_; clear ho hb hg hat)); try go_wp2_with (first | ((with_reducible refine gate_builtin (b := .append) (xs := #[.tmp 37, .tmp 40]) rfl ?_); (try (refine gate_guard (by rfl) ?_; dsimp only)); at_builtin; refine Kd.R_append (Kd.int .i64) (w0 := w) w.heap.size rfl (.tmp 37) (.tmp 40) 27 3 (.int .i64 0) 8 rfl Try.underlying27 info3 rfl (by decide) (by omega) (.slice none 0 0) ([] : List Int) ((rd_T50 l0_2 a1).f3.f5) [.int .i64 ((rd_T50 l0_2 a1).f3.f5)] (fun _ => True) (fun _ => False) rfl rfl ?aP (fun _ hk => hk.elim) ?aF ?aO ?aB ?aS ?aL ?_; (case aP => exact rfl); (case aB => exact (by repeat (first | (with_reducible first | exact HB.out | apply below_alloc | apply pw_below_drewN | apply below_drew1 | refine below_set ?_ GE150.out | refine below_set ?_ GE152.out) | exact HB.out))); (case aF => exact (fun _ _ => trivial)); (case aO => exact (by (with_reducible repeat (first | apply Kd.R_alloc | apply Kd.R_drewN | apply Kd.R_drew)); exact HO_6.out)); (case aS => exact (below_size (by repeat (first | (with_reducible first | exact HB.out | apply below_alloc | apply pw_below_drewN | apply below_drew1 | refine below_set ?_ GE150.out | refine below_set ?_ GE152.out) | exact HB.out)))); (case aL => have := LMc25.out; omega); intro v154 w28 ho hb hg hat; rw [← Ny153.out] at ho; have n0_ := Aside0.mk (blk_grown (g := gb150) (o := .cells #[.int .i64 a0_0, .int .i64 a0_1, .slice (some ad151) l0_2.length c0_2] 24 (0, 0)) (by (with_reducible repeat (first | refine blk_drewN ?_ _ | refine blk_drew ?_ | refine blk_alloc ?_ _)); exact BK150.out) hg (Kd.R_ne HO_6.out BK150.out (by decide))); have n1_ := Aside0.mk (blk_grown (g := gb152) (o := .cells #[.int .i64 ((rd_T50 l0_2 a1).f3.f0), .int .i64 ((rd_T50 l0_2 a1).f3.f1), .int .i64 ((rd_T50 l0_2 a1).f3.f2), .int .i64 ((rd_T50 l0_2 a1).f3.f3), .slice A151_10 ((rd_T50 l0_2 a1).f3.f4).length c151_10, .int .i64 ((rd_T50 l0_2 a1).f3.f5), .int .i64 ((rd_T50 l0_2 a1).f3.f6), .int .i64 ((rd_T50 l0_2 a1).f3.f7)] 44 (0, 0)) (by (with_reducible repeat (first | refine blk_drewN ?_ _ | refine blk_drew ?_ | refine blk_alloc ?_ _)); exact BK152.out) hg (Kd.R_ne HO_6.out BK152.out (by decide))); have n2_ := Aside0.mk (hb); have n3_ := Aside0.mk (ho); clear BK150; clear BK152; clear HB; clear HO_6; have BK150 := n0_; have BK152 := n1_; have HB := n2_; have HO155 := n3_; clear n0_ n1_ n2_ n3_; clear ho hb hg hat)))
           go_meet
           case rel => exact ⟨_, (y153), H', ⟨by have := HJ2.out; have := HJ9.out; first | omega | exact Nat.le_refl _⟩, ⟨by (with_reducible repeat (first | apply Kd.R_alloc | apply Kd.R_drewN | apply Kd.R_drew)); exact HO155.out⟩, ⟨by (with_reducible repeat (first | refine blk_drewN ?_ _ | refine blk_drew ?_ | refine blk_alloc ?_ _)); exact BK150.out⟩, ⟨by (with_reducible repeat (first | refine blk_drewN ?_ _ | refine blk_drew ?_ | refine blk_alloc ?_ _)); exact BK152.out⟩, ⟨by repeat (first | (with_reducible first | exact HB.out | apply below_alloc | apply pw_below_drewN | apply below_drew1 | refine below_set ?_ GE150.out | refine below_set ?_ GE152.out) | exact HB.out)⟩⟩
          ·rw [if_neg c25] at H
           exact absurd H (by simp)
         ·replace c24 := Bool.eq_false_iff.mpr c24
          subst c24
          have H1 : (davitref07_Next.j2 kj9 ([] : List Int) a0_0 a0_1 l0_2 ((rd_T50 l0_2 a1).f3.f0) ((rd_T50 l0_2 a1).f3.f1) ((rd_T50 l0_2 a1).f3.f2) ((rd_T50 l0_2 a1).f3.f3) ((rd_T50 l0_2 a1).f3.f4) ((rd_T50 l0_2 a1).f3.f5) ((rd_T50 l0_2 a1).f3.f6) ((rd_T50 l0_2 a1).f3.f7)) = some r := by rw [if_neg (show ¬ (false = true) by decide)] at H; exact H
          clear H
          have H := H1
          clear H1
          have H' := Aside0.mk H
          clear H
          go_wp2
          repeat (go_quiet (fail); try go_wp2)
          go_meet
          case rel => exact ⟨_, (([] : List Int)), H', ⟨by have := HJ2.out; have := HJ9.out; first | omega | exact Nat.le_refl _⟩, ⟨by (with_reducible repeat (first | apply Kd.R_alloc | apply Kd.R_drewN | apply Kd.R_drew)); exact HO_6.out⟩, ⟨by (with_reducible repeat (first | refine blk_drewN ?_ _ | refine blk_drew ?_ | refine blk_alloc ?_ _)); exact BK150.out⟩, ⟨by (with_reducible repeat (first | refine blk_drewN ?_ _ | refine blk_drew ?_ | refine blk_alloc ?_ _)); exact BK152.out⟩, ⟨by repeat (first | (with_reducible first | exact HB.out | apply below_alloc | apply pw_below_drewN | apply below_drew1 | refine below_set ?_ GE150.out | refine below_set ?_ GE152.out) | exact HB.out)⟩⟩
        case rest =>
         clear HC23
         try clear c1
         try clear p1
         try clear q1
         try clear hx1
         try clear c2
         try clear p2
         try clear c3
         try clear c5
         try clear c5b0
         try clear c7
         try clear c8
         try clear c8b0
         try clear c9
         try clear c9b0
         try clear c13
         try clear c15
         try clear c15b0
         try clear c15b1
         try clear p15
         try clear q15
         try clear hx15
         try clear c16
         try clear c18
         try clear c18b0
         try clear c18b1
         try clear c19
         try clear c21
         try clear c24
         try clear c25
         try clear c26
         try clear hcz11_0
         try clear hcz11_1
         try clear hcz11_2
         try clear hcz14_0
         try clear hcz14_1
         try clear hcz14_2
         try clear hcz14_3
         try clear hcz14_4
         try clear hcz14_5
         try clear hcz14_6
         try clear hcz14_7
         try clear hcz17_0
         try clear hcz17_1
         try clear hcz17_2
         try clear hcz17_3
         try clear hcz17_4
         try clear hcz17_5
         try clear hcz17_6
         try clear hcz17_7
         try clear hcz20_0
         try clear hcz20_1
         try clear hcz20_2
         try clear hcz20_3
         try clear hcz20_4
         try clear hcz20_5
         try clear hcz20_6
         try clear hcz20_7
         try clear hcz22_0
         try clear hcz22_1
         try clear hcz22_2
         try clear hcz22_3
         try clear hcz22_4
         try clear hcz22_5
         try clear hcz22_6
         try clear hcz22_7
         try clear hcz27_0
         try clear hcz27_1
         try clear hcz27_2
         try clear hcz27_3
         try clear hcz27_4
         try clear hcz27_5
         try clear hcz27_6
         try clear hcz27_7
         try clear hcz6_0
         try clear hcz6_1
         try clear hcz6_2
         try clear hfz11_0
         try clear hfz11_1
         try clear hfz11_2
         try clear hfz14_0
         try clear hfz14_1
         try clear hfz14_2
         try clear hfz14_3
         try clear hfz14_4
         try clear hfz14_5
         try clear hfz14_6
         try clear hfz14_7
         try clear hfz17_0
         try clear hfz17_1
         try clear hfz17_2
         try clear hfz17_3
         try clear hfz17_4
         try clear hfz17_5
         try clear hfz17_6
         try clear hfz17_7
         try clear hfz20_0
         try clear hfz20_1
         try clear hfz20_2
         try clear hfz20_3
         try clear hfz20_4
         try clear hfz20_5
         try clear hfz20_6
         try clear hfz20_7
         try clear hfz22_0
         try clear hfz22_1
         try clear hfz22_2
         try clear hfz22_3
         try clear hfz22_4
         try clear hfz22_5
         try clear hfz22_6
         try clear hfz22_7
         try clear hfz27_0
         try clear hfz27_1
         try clear hfz27_2
         try clear hfz27_3
         try clear hfz27_4
         try clear hfz27_5
         try clear hfz27_6
         try clear hfz27_7
         try clear hfz6_0
         try clear hfz6_1
         try clear hfz6_2
         try clear hx151_0
         try clear hx151_1
         try clear hx151_10
         try clear hx151_11
         try clear hx151_12
         try clear hx151_13
         try clear hx151_2
         try clear hx151_3
         try clear hx151_4
         try clear hx151_5
         try clear hx151_6
         try clear hx151_7
         try clear hx151_8
         try clear hx151_9
         try clear p1
         try clear p15
         try clear p151
         try clear p2
         try clear q1
         try clear q15
         try clear q151
         obtain ⟨kq, x6_22, HA, HJ22, HO_6, BK150, BK152, HB⟩ := hcut
         cases kq with
         | zero => exact absurd HA.out (by simp [davitref07_Next.j2])
         | succ kj22 =>
          have H := HA.out
          clear HA
          simp only [davitref07_Next.j2] at H
          have HC29 := Aside0.mk H
          clear H
          have hnb30 := NB152_150.out
          have hnc30 := NB150_152.out
          have hcz31_0 : wc.cell? ⟨gb152, 0, none⟩ = some (.int .i64 ((rd_T50 l0_2 a1).f3.f0)) := (blk_cell BK152.out 0).trans rfl
          have hcz31_1 : wc.cell? ⟨gb152, 1, none⟩ = some (.int .i64 ((rd_T50 l0_2 a1).f3.f1)) := (blk_cell BK152.out 1).trans rfl
          have hcz31_2 : wc.cell? ⟨gb152, 2, none⟩ = some (.int .i64 ((rd_T50 l0_2 a1).f3.f2)) := (blk_cell BK152.out 2).trans rfl
          have hcz31_3 : wc.cell? ⟨gb152, 3, none⟩ = some (.int .i64 ((rd_T50 l0_2 a1).f3.f3)) := (blk_cell BK152.out 3).trans rfl
          have hcz31_4 : wc.cell? ⟨gb152, 4, none⟩ = some (.slice A151_10 ((rd_T50 l0_2 a1).f3.f4).length c151_10) := (blk_cell BK152.out 4).trans rfl
          have hcz31_5 : wc.cell? ⟨gb152, 5, none⟩ = some (.int .i64 ((rd_T50 l0_2 a1).f3.f5)) := (blk_cell BK152.out 5).trans rfl
          have hcz31_6 : wc.cell? ⟨gb152, 6, none⟩ = some (.int .i64 ((rd_T50 l0_2 a1).f3.f6)) := (blk_cell BK152.out 6).trans rfl
          have hcz31_7 : wc.cell? ⟨gb152, 7, none⟩ = some (.int .i64 ((rd_T50 l0_2 a1).f3.f7)) := (blk_cell BK152.out 7).trans rfl
          have hfz31_0 := blk_frozen BK152.out 0
          have hfz31_1 := blk_frozen BK152.out 1
          have hfz31_2 := blk_frozen BK152.out 2
          have hfz31_3 := blk_frozen BK152.out 3
          have hfz31_4 := blk_frozen BK152.out 4
          have hfz31_5 := blk_frozen BK152.out 5
          have hfz31_6 := blk_frozen BK152.out 6
          have hfz31_7 := blk_frozen BK152.out 7
          go_upto_if 44 with (fail)
          repeat (go_quiet (fail); go_upto_if 44 with (fail))
          go_cut [6] (fun v6 wc => ∃ (kq : Nat) (x6_28 : List Int), Aside0 (davitref07_Next.j3 kq x6_28 a0_0 a0_1 l0_2 ((rd_T50 l0_2 a1).f3.f0) ((rd_T50 l0_2 a1).f3.f1) ((rd_T50 l0_2 a1).f3.f2) ((rd_T50 l0_2 a1).f3.f3) ((rd_T50 l0_2 a1).f3.f4) ((rd_T50 l0_2 a1).f3.f5) ((rd_T50 l0_2 a1).f3.f6) ((rd_T50 l0_2 a1).f3.f7) = some r) ∧ Aside0 (kq ≤ kj22) ∧ Aside0 (Kd.R (Kd.int .i64) 3 wc w.heap.size (fun _ => True) v6 x6_28) ∧ Aside0 (wc.heap[gb150]? = some (.cells #[.int .i64 a0_0, .int .i64 a0_1, (.slice (some ad151) l0_2.length c0_2)] 24 (0, 0))) ∧ Aside0 (wc.heap[gb152]? = some (.cells #[.int .i64 ((rd_T50 l0_2 a1).f3.f0), .int .i64 ((rd_T50 l0_2 a1).f3.f1), .int .i64 ((rd_T50 l0_2 a1).f3.f2), .int .i64 ((rd_T50 l0_2 a1).f3.f3), (.slice A151_10 ((rd_T50 l0_2 a1).f3.f4).length c151_10), .int .i64 ((rd_T50 l0_2 a1).f3.f5), .int .i64 ((rd_T50 l0_2 a1).f3.f6), .int .i64 ((rd_T50 l0_2 a1).f3.f7)] 44 (0, 0))) ∧ Aside0 (Below w.heap.size w wc))
          case first =>
           have H := HC29.out
           clear HC29
           by_cases c32 : ((rd_T50 l0_2 a1).f3.f0) = 3
           ·rw [if_pos c32] at H
            have c32b0 : (((rd_T50 l0_2 a1).f3.f0) == 3) = true := beq_iff_eq.mpr c32
            have c32b1 : (((rd_T50 l0_2 a1).f3.f0) != 3) = false := bne_eq_false_iff_eq.mpr c32
            clear c32
            (first | rw [c32b0] | (simp only [i64_w, i32_w]; rw [c32b0]) | skip)
            by_cases c33 : x6_22.length < 17592186044416
            ·rw [if_pos c33] at H
             have LMc33 := Aside0.mk c33
             clear c33
             obtain ⟨y156, hy156⟩ : ∃ y_ : List Int, y_ = (x6_22 ++ [((rd_T50 l0_2 a1).f3.f6)]) := ⟨_, rfl⟩
             replace H : (davitref07_Next.j3 kj22 y156 a0_0 a0_1 l0_2 ((rd_T50 l0_2 a1).f3.f0) ((rd_T50 l0_2 a1).f3.f1) ((rd_T50 l0_2 a1).f3.f2) ((rd_T50 l0_2 a1).f3.f3) ((rd_T50 l0_2 a1).f3.f4) ((rd_T50 l0_2 a1).f3.f5) ((rd_T50 l0_2 a1).f3.f6) ((rd_T50 l0_2 a1).f3.f7)) = some r := by first | (rw [hy156]; with_reducible exact H) | (have H2_ := (Option.bind_some _ _).symm.trans H; rw [hy156]; with_reducible exact H2_) | (have H2_ := (Option.bind_some _ _).symm.trans H; with_reducible exact H2_) | with_reducible exact H | (rw [hy156]; exact H) | exact H
             have Ny156 := Aside0.mk hy156
             clear hy156
             have H' := Aside0.mk H
             clear H
             have hnb34 := NB152_150.out
             have hnc34 := NB150_152.out
             have hcz35_0 : wc.cell? ⟨gb152, 0, none⟩ = some (.int .i64 ((rd_T50 l0_2 a1).f3.f0)) := (blk_cell BK152.out 0).trans rfl
             have hcz35_1 : wc.cell? ⟨gb152, 1, none⟩ = some (.int .i64 ((rd_T50 l0_2 a1).f3.f1)) := (blk_cell BK152.out 1).trans rfl
             have hcz35_2 : wc.cell? ⟨gb152, 2, none⟩ = some (.int .i64 ((rd_T50 l0_2 a1).f3.f2)) := (blk_cell BK152.out 2).trans rfl
             have hcz35_3 : wc.cell? ⟨gb152, 3, none⟩ = some (.int .i64 ((rd_T50 l0_2 a1).f3.f3)) := (blk_cell BK152.out 3).trans rfl
             have hcz35_4 : wc.cell? ⟨gb152, 4, none⟩ = some (.slice A151_10 ((rd_T50 l0_2 a1).f3.f4).length c151_10) := (blk_cell BK152.out 4).trans rfl
             have hcz35_5 : wc.cell? ⟨gb152, 5, none⟩ = some (.int .i64 ((rd_T50 l0_2 a1).f3.f5)) := (blk_cell BK152.out 5).trans rfl
             have hcz35_6 : wc.cell? ⟨gb152, 6, none⟩ = some (.int .i64 ((rd_T50 l0_2 a1).f3.f6)) := (blk_cell BK152.out 6).trans rfl
             have hcz35_7 : wc.cell? ⟨gb152, 7, none⟩ = some (.int .i64 ((rd_T50 l0_2 a1).f3.f7)) := (blk_cell BK152.out 7).trans rfl
             have hfz35_0 := blk_frozen BK152.out 0
             have hfz35_1 := blk_frozen BK152.out 1
             have hfz35_2 := blk_frozen BK152.out 2
             have hfz35_3 := blk_frozen BK152.out 3
             have hfz35_4 := blk_frozen BK152.out 4
             have hfz35_5 := blk_frozen BK152.out 5
             have hfz35_6 := blk_frozen BK152.out 6
             have hfz35_7 := blk_frozen BK152.out 7
             go_wp2_with (first | ((with_reducible refine gate_builtin (b := .append) (xs := #[.tmp 45, .tmp 48]) rfl ?_); (try (refine gate_guard (by rfl) ?_; dsimp only)); at_builtin; refine Kd.R_append (Kd.int .i64) (w0 := w) w.heap.size rfl (.tmp 45) (.tmp 48) 27 3 (.int .i64 0) 8 rfl Try.underlying27 info3 rfl (by decide) (by omega) u6 x6_22 ((rd_T50 l0_2 a1).f3.f6) [.int .i64 ((rd_T50 l0_2 a1).f3.f6)] (fun _ => True) (fun _ => False) rfl rfl ?aP (fun _ hk => hk.elim) ?aF ?aO ?aB ?aS ?aL ?_; (case aP => exact rfl); (case aB => exact (by repeat (first | (with_reducible first | exact HB.out | apply below_alloc | apply pw_below_drewN | apply below_drew1 | refine below_set ?_ GE150.out | refine below_set ?_ GE152.out) | exact HB.out))); (case aF => exact (fun _ _ => trivial)); (case aO => exact (by (with_reducible repeat (first | apply Kd.R_alloc | apply Kd.R_drewN | apply Kd.R_drew)); exact HO_6.out)); (case aS => exact (below_size (by repeat (first | (with_reducible first | exact HB.out | apply below_alloc | apply pw_below_drewN | apply below_drew1 | refine below_set ?_ GE150.out | refine below_set ?_ GE152.out) | exact HB.out)))); (case aL => have := LMc33.out; omega); intro v157 w36 ho hb hg hat; rw [← Ny156.out] at ho; have n0_ := Aside0.mk (blk_grown (g := gb150) (o := .cells #[.int .i64 a0_0, .int .i64 a0_1, .slice (some ad151) l0_2.length c0_2] 24 (0, 0)) (by (with_reducible repeat (first | refine blk_drewN ?_ _ | refine blk_drew ?_ | refine blk_alloc ?_ _)); exact BK150.out) hg (Kd.R_ne HO_6.out BK150.out (by decide))); have n1_ := Aside0.mk (blk_grown (g := gb152) (o := .cells #[.int .i64 ((rd_T50 l0_2 a1).f3.f0), .int .i64 ((rd_T50 l0_2 a1).f3.f1), .int .i64 ((rd_T50 l0_2 a1).f3.f2), .int .i64 ((rd_T50 l0_2 a1).f3.f3), .slice A151_10 ((rd_T50 l0_2 a1).f3.f4).length c151_10, .int .i64 ((rd_T50 l0_2 a1).f3.f5), .int .i64 ((rd_T50 l0_2 a1).f3.f6), .int .i64 ((rd_T50 l0_2 a1).f3.f7)] 44 (0, 0)) (by (with_reducible repeat (first | refine blk_drewN ?_ _ | refine blk_drew ?_ | refine blk_alloc ?_ _)); exact BK152.out) hg (Kd.R_ne HO_6.out BK152.out (by decide))); have n2_ := Aside0.mk (hb); have n3_ := Aside0.mk (ho); clear BK150; clear BK152; clear HB; clear HO_6; have BK150 := n0_; have BK152 := n1_; have HB := n2_; have HO158 := n3_; clear n0_ n1_ n2_ n3_; clear ho hb hg hat))
             repeat (go_quiet (first | ((with_reducible refine gate_builtin (b := .append) (xs := #[.tmp 45, .tmp 48]) rfl ?_); (try (refine gate_guard (by rfl) ?_; dsimp only)); at_builtin; refine Kd.R_append (Kd.int .i64) (w0 := w) w.heap.size rfl (.tmp 45) (.tmp 48) 27 3 (.int .i64 0) 8 rfl Try.underlying27 info3 rfl (by decide) (by omega) u6 x6_22 ((rd_T50 l0_2 a1).f3.f6) [.int .i64 ((rd_T50 l0_2 a1).f3.f6)] (fun _ => True) (fun _ => False) rfl rfl ?aP (fun _ hk => hk.elim) ?aF ?aO ?aB ?aS ?aL ?_; (case aP => exact rfl); (case aB => exact (by repeat (first | (with_reducible first | exact HB.out | apply below_alloc | apply pw_below_drewN | apply below_drew1 | refine below_set ?_ GE150.out | refine below_set ?_ GE152.out) | exact HB.out))); (case aF => exact (fun _ _ => trivial)); (case aO => exact (by (with_reducible repeat (first | apply Kd.R_alloc | apply Kd.R_drewN | apply Kd.R_drew)); exact HO_6.out)); (case aS => exact (below_size (by repeat (first | (with_reducible first | exact HB.out | apply below_alloc | apply pw_below_drewN | apply below_drew1 | refine below_set ?_ GE150.out | refine below_set ?_ GE152.out) | exact HB.out)))); (case aL => have := LMc33.out; omega); intro v157 w36 ho hb hg hat; rw [← Ny156.out] at ho; have n0_ := Aside0.mk (blk_grown (g := gb150) (o := .cells #[.int .i64 a0_0, .int .i64 a0_1, .slice (some ad151) l0_2.length c0_2] 24 (0, 0)) (by (with_reducible repeat (first | refine blk_drewN ?_ _ | refine blk_drew ?_ | refine blk_alloc ?_ _)); exact BK150.out) hg (Kd.R_ne HO_6.out BK150.out (by decide))); have n1_ := Aside0.mk (blk_grown (g := gb152) (o := .cells #[.int .i64 ((rd_T50 l0_2 a1).f3.f0), .int .i64 ((rd_T50 l0_2 a1).f3.f1), .int .i64 ((rd_T50 l0_2 a1).f3.f2), .int .i64 ((rd_T50 l0_2 a1).f3.f3), .slice A151_10 ((rd_T50 l0_2 a1).f3.f4).length c151_10, .int .i64 ((rd_T50 l0_2 a1).f3.f5), .int .i64 ((rd_T50 l0_2 a1).f3.f6), .int .i64 ((rd_T50 l0_2 a1).f3.f7)] 44 (0, 0)) (by (with_reducible repeat (first | refine blk_drewN ?_ _ | refine blk_drew ?_ | refine blk_alloc ?_ _)); exact BK152.out) hg (Kd.R_ne HO_6.out BK152.out (by decide))); have n2_ := Aside0.mk (hb); have n3_ := Aside0.mk (ho); clear BK150; clear BK152; clear HB; clear HO_6; have BK150 := n0_; have BK152 := n1_; have HB := n2_; have HO158 := n3_; clear n0_ n1_ n2_ n3_; clear ho hb hg hat)); try go_wp2_with (first | ((with_reducible refine gate_builtin (b := .append) (xs := #[.tmp 45, .tmp 48]) rfl ?_); (try (refine gate_guard (by rfl) ?_; dsimp only)); at_builtin; refine Kd.R_append (Kd.int .i64) (w0 := w) w.heap.size rfl (.tmp 45) (.tmp 48) 27 3 (.int .i64 0) 8 rfl Try.underlying27 info3 rfl (by decide) (by omega) u6 x6_22 ((rd_T50 l0_2 a1).f3.f6) [.int .i64 ((rd_T50 l0_2 a1).f3.f6)] (fun _ => True) (fun _ => False) rfl rfl ?aP (fun _ hk => hk.elim) ?aF ?aO ?aB ?aS ?aL ?_; (case aP => exact rfl); (case aB => exact (by repeat (first | (with_reducible first | exact HB.out | apply below_alloc | apply pw_below_drewN | apply below_drew1 | refine below_set ?_ GE150.out | refine below_set ?_ GE152.out) | exact HB.out))); (case aF => exact (fun _ _ => trivial)); (case aO => exact (by (with_reducible repeat (first | apply Kd.R_alloc | apply Kd.R_drewN | apply Kd.R_drew)); exact HO_6.out)); (case aS => exact (below_size (by repeat (first | (with_reducible first | exact HB.out | apply below_alloc | apply pw_below_drewN | apply below_drew1 | refine below_set ?_ GE150.out | refine below_set ?_ GE152.out) | exact HB.out)))); (case aL => have := LMc33.out; omega); intro v157 w36 ho hb hg hat; rw [← Ny156.out] at ho; have n0_ := Aside0.mk (blk_grown (g := gb150) (o := .cells #[.int .i64 a0_0, .int .i64 a0_1, .slice (some ad151) l0_2.length c0_2] 24 (0, 0)) (by (with_reducible repeat (first | refine blk_drewN ?_ _ | refine blk_drew ?_ | refine blk_alloc ?_ _)); exact BK150.out) hg (Kd.R_ne HO_6.out BK150.out (by decide))); have n1_ := Aside0.mk (blk_grown (g := gb152) (o := .cells #[.int .i64 ((rd_T50 l0_2 a1).f3.f0), .int .i64 ((rd_T50 l0_2 a1).f3.f1), .int .i64 ((rd_T50 l0_2 a1).f3.f2), .int .i64 ((rd_T50 l0_2 a1).f3.f3), .slice A151_10 ((rd_T50 l0_2 a1).f3.f4).length c151_10, .int .i64 ((rd_T50 l0_2 a1).f3.f5), .int .i64 ((rd_T50 l0_2 a1).f3.f6), .int .i64 ((rd_T50 l0_2 a1).f3.f7)] 44 (0, 0)) (by (with_reducible repeat (first | refine blk_drewN ?_ _ | refine blk_drew ?_ | refine blk_alloc ?_ _)); exact BK152.out) hg (Kd.R_ne HO_6.out BK152.out (by decide))); have n2_ := Aside0.mk (hb); have n3_ := Aside0.mk (ho); clear BK150; clear BK152; clear HB; clear HO_6; have BK150 := n0_; have BK152 := n1_; have HB := n2_; have HO158 := n3_; clear n0_ n1_ n2_ n3_; clear ho hb hg hat)))
             go_meet
             case rel => exact ⟨_, (y156), H', ⟨by have := HJ2.out; have := HJ9.out; have := HJ22.out; first | omega | exact Nat.le_refl _⟩, ⟨by (with_reducible repeat (first | apply Kd.R_alloc | apply Kd.R_drewN | apply Kd.R_drew)); exact HO158.out⟩, ⟨by (with_reducible repeat (first | refine blk_drewN ?_ _ | refine blk_drew ?_ | refine blk_alloc ?_ _)); exact BK150.out⟩, ⟨by (with_reducible repeat (first | refine blk_drewN ?_ _ | refine blk_drew ?_ | refine blk_alloc ?_ _)); exact BK152.out⟩, ⟨by repeat (first | (with_reducible first | exact HB.out | apply below_alloc | apply pw_below_drewN | apply below_drew1 | refine below_set ?_ GE150.out | refine below_set ?_ GE152.out) | exact HB.out)⟩⟩
            ·rw [if_neg c33] at H
             exact absurd H (by simp)
           ·rw [if_neg c32] at H
            have c32b0 : (((rd_T50 l0_2 a1).f3.f0) == 3) = false := beq_eq_false_iff_ne.mpr c32
            have c32b1 : (((rd_T50 l0_2 a1).f3.f0) != 3) = true := bne_iff_ne.mpr c32
            (first | rw [c32b0] | (simp only [i64_w, i32_w]; rw [c32b0]) | skip)
            have H' := Aside0.mk H
            clear H
            go_wp2
            repeat (go_quiet (fail); try go_wp2)
            go_meet
            case rel => exact ⟨_, (x6_22), H', ⟨by have := HJ2.out; have := HJ9.out; have := HJ22.out; first | omega | exact Nat.le_refl _⟩, ⟨by (with_reducible repeat (first | apply Kd.R_alloc | apply Kd.R_drewN | apply Kd.R_drew)); exact HO_6.out⟩, ⟨by (with_reducible repeat (first | refine blk_drewN ?_ _ | refine blk_drew ?_ | refine blk_alloc ?_ _)); exact BK150.out⟩, ⟨by (with_reducible repeat (first | refine blk_drewN ?_ _ | refine blk_drew ?_ | refine blk_alloc ?_ _)); exact BK152.out⟩, ⟨by repeat (first | (with_reducible first | exact HB.out | apply below_alloc | apply pw_below_drewN | apply below_drew1 | refine below_set ?_ GE150.out | refine below_set ?_ GE152.out) | exact HB.out)⟩⟩
          case rest =>
           clear HC29
           try clear c1
           try clear p1
           try clear q1
           try clear hx1
           try clear c2
           try clear p2
           try clear c3
           try clear c5
           try clear c5b0
           try clear c7
           try clear c8
           try clear c8b0
           try clear c9
           try clear c9b0
           try clear c13
           try clear c15
           try clear c15b0
           try clear c15b1
           try clear p15
           try clear q15
           try clear hx15
           try clear c16
           try clear c18
           try clear c18b0
           try clear c18b1
           try clear c19
           try clear c21
           try clear c24
           try clear c25
           try clear c26
           try clear c30
           try clear c32
           try clear c32b0
           try clear c32b1
           try clear c33
           try clear c34
           try clear hcz11_0
           try clear hcz11_1
           try clear hcz11_2
           try clear hcz14_0
           try clear hcz14_1
           try clear hcz14_2
           try clear hcz14_3
           try clear hcz14_4
           try clear hcz14_5
           try clear hcz14_6
           try clear hcz14_7
           try clear hcz17_0
           try clear hcz17_1
           try clear hcz17_2
           try clear hcz17_3
           try clear hcz17_4
           try clear hcz17_5
           try clear hcz17_6
           try clear hcz17_7
           try clear hcz20_0
           try clear hcz20_1
           try clear hcz20_2
           try clear hcz20_3
           try clear hcz20_4
           try clear hcz20_5
           try clear hcz20_6
           try clear hcz20_7
           try clear hcz22_0
           try clear hcz22_1
           try clear hcz22_2
           try clear hcz22_3
           try clear hcz22_4
           try clear hcz22_5
           try clear hcz22_6
           try clear hcz22_7
           try clear hcz27_0
           try clear hcz27_1
           try clear hcz27_2
           try clear hcz27_3
           try clear hcz27_4
           try clear hcz27_5
           try clear hcz27_6
           try clear hcz27_7
           try clear hcz31_0
           try clear hcz31_1
           try clear hcz31_2
           try clear hcz31_3
           try clear hcz31_4
           try clear hcz31_5
           try clear hcz31_6
           try clear hcz31_7
           try clear hcz35_0
           try clear hcz35_1
           try clear hcz35_2
           try clear hcz35_3
           try clear hcz35_4
           try clear hcz35_5
           try clear hcz35_6
           try clear hcz35_7
           try clear hcz6_0
           try clear hcz6_1
           try clear hcz6_2
           try clear hfz11_0
           try clear hfz11_1
           try clear hfz11_2
           try clear hfz14_0
           try clear hfz14_1
           try clear hfz14_2
           try clear hfz14_3
           try clear hfz14_4
           try clear hfz14_5
           try clear hfz14_6
           try clear hfz14_7
           try clear hfz17_0
           try clear hfz17_1
           try clear hfz17_2
           try clear hfz17_3
           try clear hfz17_4
           try clear hfz17_5
           try clear hfz17_6
           try clear hfz17_7
           try clear hfz20_0
           try clear hfz20_1
           try clear hfz20_2
           try clear hfz20_3
           try clear hfz20_4
           try clear hfz20_5
           try clear hfz20_6
           try clear hfz20_7
           try clear hfz22_0
           try clear hfz22_1
           try clear hfz22_2
           try clear hfz22_3
           try clear hfz22_4
           try clear hfz22_5
           try clear hfz22_6
           try clear hfz22_7
           try clear hfz27_0
           try clear hfz27_1
           try clear hfz27_2
           try clear hfz27_3
           try clear hfz27_4
           try clear hfz27_5
           try clear hfz27_6
           try clear hfz27_7
           try clear hfz31_0
           try clear hfz31_1
           try clear hfz31_2
           try clear hfz31_3
           try clear hfz31_4
           try clear hfz31_5
           try clear hfz31_6
           try clear hfz31_7
           try clear hfz35_0
           try clear hfz35_1
           try clear hfz35_2
           try clear hfz35_3
           try clear hfz35_4
           try clear hfz35_5
           try clear hfz35_6
           try clear hfz35_7
           try clear hfz6_0
           try clear hfz6_1
           try clear hfz6_2
           try clear hx151_0
           try clear hx151_1
           try clear hx151_10
           try clear hx151_11
           try clear hx151_12
           try clear hx151_13
           try clear hx151_2
           try clear hx151_3
           try clear hx151_4
           try clear hx151_5
           try clear hx151_6
           try clear hx151_7
           try clear hx151_8
           try clear hx151_9
           try clear p1
           try clear p15
           try clear p151
           try clear p2
           try clear q1
           try clear q15
           try clear q151
           obtain ⟨kq, x6_28, HA, HJ28, HO_6, BK150, BK152, HB⟩ := hcut
           cases kq with
           | zero => exact absurd HA.out (by simp [davitref07_Next.j3])
           | succ kj28 =>
            have H := HA.out
            clear HA
            simp only [davitref07_Next.j3] at H
            have HC37 := Aside0.mk H
            clear H
            have hnb38 := NB152_150.out
            have hnc38 := NB150_152.out
            have hcz39_0 : wc.cell? ⟨gb152, 0, none⟩ = some (.int .i64 ((rd_T50 l0_2 a1).f3.f0)) := (blk_cell BK152.out 0).trans rfl
            have hcz39_1 : wc.cell? ⟨gb152, 1, none⟩ = some (.int .i64 ((rd_T50 l0_2 a1).f3.f1)) := (blk_cell BK152.out 1).trans rfl
            have hcz39_2 : wc.cell? ⟨gb152, 2, none⟩ = some (.int .i64 ((rd_T50 l0_2 a1).f3.f2)) := (blk_cell BK152.out 2).trans rfl
            have hcz39_3 : wc.cell? ⟨gb152, 3, none⟩ = some (.int .i64 ((rd_T50 l0_2 a1).f3.f3)) := (blk_cell BK152.out 3).trans rfl
            have hcz39_4 : wc.cell? ⟨gb152, 4, none⟩ = some (.slice A151_10 ((rd_T50 l0_2 a1).f3.f4).length c151_10) := (blk_cell BK152.out 4).trans rfl
            have hcz39_5 : wc.cell? ⟨gb152, 5, none⟩ = some (.int .i64 ((rd_T50 l0_2 a1).f3.f5)) := (blk_cell BK152.out 5).trans rfl
            have hcz39_6 : wc.cell? ⟨gb152, 6, none⟩ = some (.int .i64 ((rd_T50 l0_2 a1).f3.f6)) := (blk_cell BK152.out 6).trans rfl
            have hcz39_7 : wc.cell? ⟨gb152, 7, none⟩ = some (.int .i64 ((rd_T50 l0_2 a1).f3.f7)) := (blk_cell BK152.out 7).trans rfl
            have hfz39_0 := blk_frozen BK152.out 0
            have hfz39_1 := blk_frozen BK152.out 1
            have hfz39_2 := blk_frozen BK152.out 2
            have hfz39_3 := blk_frozen BK152.out 3
            have hfz39_4 := blk_frozen BK152.out 4
            have hfz39_5 := blk_frozen BK152.out 5
            have hfz39_6 := blk_frozen BK152.out 6
            have hfz39_7 := blk_frozen BK152.out 7
            go_upto_if 52 with (fail)
            repeat (go_quiet (fail); go_upto_if 52 with (fail))
            go_cut [6] (fun v6 wc => ∃ (kq : Nat) (x6_36 : List Int), Aside0 (davitref07_Next.j4 kq x6_36 a0_0 a0_1 l0_2 = some r) ∧ Aside0 (kq ≤ kj28) ∧ Aside0 (Kd.R (Kd.int .i64) 3 wc w.heap.size (fun _ => True) v6 x6_36) ∧ Aside0 (wc.heap[gb150]? = some (.cells #[.int .i64 a0_0, .int .i64 a0_1, (.slice (some ad151) l0_2.length c0_2)] 24 (0, 0))) ∧ Aside0 (wc.heap[gb152]? = some (.cells #[.int .i64 ((rd_T50 l0_2 a1).f3.f0), .int .i64 ((rd_T50 l0_2 a1).f3.f1), .int .i64 ((rd_T50 l0_2 a1).f3.f2), .int .i64 ((rd_T50 l0_2 a1).f3.f3), (.slice A151_10 ((rd_T50 l0_2 a1).f3.f4).length c151_10), .int .i64 ((rd_T50 l0_2 a1).f3.f5), .int .i64 ((rd_T50 l0_2 a1).f3.f6), .int .i64 ((rd_T50 l0_2 a1).f3.f7)] 44 (0, 0))) ∧ Aside0 (Below w.heap.size w wc))
            case first =>
             have H := HC37.out
             clear HC37
             by_cases c40 : ((rd_T50 l0_2 a1).f3.f0) = 4
             ·rw [if_pos c40] at H
              have c40b0 : (((rd_T50 l0_2 a1).f3.f0) == 4) = true := beq_iff_eq.mpr c40
              have c40b1 : (((rd_T50 l0_2 a1).f3.f0) != 4) = false := bne_eq_false_iff_eq.mpr c40
              clear c40
              (first | rw [c40b0] | (simp only [i64_w, i32_w]; rw [c40b0]) | skip)
              by_cases c41 : x6_28.length < 17592186044416
              ·rw [if_pos c41] at H
               have LMc41 := Aside0.mk c41
               clear c41
               obtain ⟨y159, hy159⟩ : ∃ y_ : List Int, y_ = (x6_28 ++ [((rd_T50 l0_2 a1).f3.f7)]) := ⟨_, rfl⟩
               replace H : (davitref07_Next.j4 kj28 y159 a0_0 a0_1 l0_2) = some r := by first | (rw [hy159]; with_reducible exact H) | (have H2_ := (Option.bind_some _ _).symm.trans H; rw [hy159]; with_reducible exact H2_) | (have H2_ := (Option.bind_some _ _).symm.trans H; with_reducible exact H2_) | with_reducible exact H | (rw [hy159]; exact H) | exact H
               have Ny159 := Aside0.mk hy159
               clear hy159
               have H' := Aside0.mk H
               clear H
               have hnb42 := NB152_150.out
               have hnc42 := NB150_152.out
               have hcz43_0 : wc.cell? ⟨gb152, 0, none⟩ = some (.int .i64 ((rd_T50 l0_2 a1).f3.f0)) := (blk_cell BK152.out 0).trans rfl
               have hcz43_1 : wc.cell? ⟨gb152, 1, none⟩ = some (.int .i64 ((rd_T50 l0_2 a1).f3.f1)) := (blk_cell BK152.out 1).trans rfl
               have hcz43_2 : wc.cell? ⟨gb152, 2, none⟩ = some (.int .i64 ((rd_T50 l0_2 a1).f3.f2)) := (blk_cell BK152.out 2).trans rfl
               have hcz43_3 : wc.cell? ⟨gb152, 3, none⟩ = some (.int .i64 ((rd_T50 l0_2 a1).f3.f3)) := (blk_cell BK152.out 3).trans rfl
               have hcz43_4 : wc.cell? ⟨gb152, 4, none⟩ = some (.slice A151_10 ((rd_T50 l0_2 a1).f3.f4).length c151_10) := (blk_cell BK152.out 4).trans rfl
               have hcz43_5 : wc.cell? ⟨gb152, 5, none⟩ = some (.int .i64 ((rd_T50 l0_2 a1).f3.f5)) := (blk_cell BK152.out 5).trans rfl
               have hcz43_6 : wc.cell? ⟨gb152, 6, none⟩ = some (.int .i64 ((rd_T50 l0_2 a1).f3.f6)) := (blk_cell BK152.out 6).trans rfl
               have hcz43_7 : wc.cell? ⟨gb152, 7, none⟩ = some (.int .i64 ((rd_T50 l0_2 a1).f3.f7)) := (blk_cell BK152.out 7).trans rfl
               have hfz43_0 := blk_frozen BK152.out 0
               have hfz43_1 := blk_frozen BK152.out 1
               have hfz43_2 := blk_frozen BK152.out 2
               have hfz43_3 := blk_frozen BK152.out 3
               have hfz43_4 := blk_frozen BK152.out 4
               have hfz43_5 := blk_frozen BK152.out 5
               have hfz43_6 := blk_frozen BK152.out 6
               have hfz43_7 := blk_frozen BK152.out 7
               go_wp2_with (first | ((with_reducible refine gate_builtin (b := .append) (xs := #[.tmp 53, .tmp 56]) rfl ?_); (try (refine gate_guard (by rfl) ?_; dsimp only)); at_builtin; refine Kd.R_append (Kd.int .i64) (w0 := w) w.heap.size rfl (.tmp 53) (.tmp 56) 27 3 (.int .i64 0) 8 rfl Try.underlying27 info3 rfl (by decide) (by omega) u6 x6_28 ((rd_T50 l0_2 a1).f3.f7) [.int .i64 ((rd_T50 l0_2 a1).f3.f7)] (fun _ => True) (fun _ => False) rfl rfl ?aP (fun _ hk => hk.elim) ?aF ?aO ?aB ?aS ?aL ?_; (case aP => exact rfl); (case aB => exact (by repeat (first | (with_reducible first | exact HB.out | apply below_alloc | apply pw_below_drewN | apply below_drew1 | refine below_set ?_ GE150.out | refine below_set ?_ GE152.out) | exact HB.out))); (case aF => exact (fun _ _ => trivial)); (case aO => exact (by (with_reducible repeat (first | apply Kd.R_alloc | apply Kd.R_drewN | apply Kd.R_drew)); exact HO_6.out)); (case aS => exact (below_size (by repeat (first | (with_reducible first | exact HB.out | apply below_alloc | apply pw_below_drewN | apply below_drew1 | refine below_set ?_ GE150.out | refine below_set ?_ GE152.out) | exact HB.out)))); (case aL => have := LMc41.out; omega); intro v160 w44 ho hb hg hat; rw [← Ny159.out] at ho; have n0_ := Aside0.mk (blk_grown (g := gb150) (o := .cells #[.int .i64 a0_0, .int .i64 a0_1, .slice (some ad151) l0_2.length c0_2] 24 (0, 0)) (by (with_reducible repeat (first | refine blk_drewN ?_ _ | refine blk_drew ?_ | refine blk_alloc ?_ _)); exact BK150.out) hg (Kd.R_ne HO_6.out BK150.out (by decide))); have n1_ := Aside0.mk (blk_grown (g := gb152) (o := .cells #[.int .i64 ((rd_T50 l0_2 a1).f3.f0), .int .i64 ((rd_T50 l0_2 a1).f3.f1), .int .i64 ((rd_T50 l0_2 a1).f3.f2), .int .i64 ((rd_T50 l0_2 a1).f3.f3), .slice A151_10 ((rd_T50 l0_2 a1).f3.f4).length c151_10, .int .i64 ((rd_T50 l0_2 a1).f3.f5), .int .i64 ((rd_T50 l0_2 a1).f3.f6), .int .i64 ((rd_T50 l0_2 a1).f3.f7)] 44 (0, 0)) (by (with_reducible repeat (first | refine blk_drewN ?_ _ | refine blk_drew ?_ | refine blk_alloc ?_ _)); exact BK152.out) hg (Kd.R_ne HO_6.out BK152.out (by decide))); have n2_ := Aside0.mk (hb); have n3_ := Aside0.mk (ho); clear BK150; clear BK152; clear HB; clear HO_6; have BK150 := n0_; have BK152 := n1_; have HB := n2_; have HO161 := n3_; clear n0_ n1_ n2_ n3_; clear ho hb hg hat))
               repeat (go_quiet (first | ((with_reducible refine gate_builtin (b := .append) (xs := #[.tmp 53, .tmp 56]) rfl ?_); (try (refine gate_guard (by rfl) ?_; dsimp only)); at_builtin; refine Kd.R_append (Kd.int .i64) (w0 := w) w.heap.size rfl (.tmp 53) (.tmp 56) 27 3 (.int .i64 0) 8 rfl Try.underlying27 info3 rfl (by decide) (by omega) u6 x6_28 ((rd_T50 l0_2 a1).f3.f7) [.int .i64 ((rd_T50 l0_2 a1).f3.f7)] (fun _ => True) (fun _ => False) rfl rfl ?aP (fun _ hk => hk.elim) ?aF ?aO ?aB ?aS ?aL ?_; (case aP => exact rfl); (case aB => exact (by repeat (first | (with_reducible first | exact HB.out | apply below_alloc | apply pw_below_drewN | apply below_drew1 | refine below_set ?_ GE150.out | refine below_set ?_ GE152.out) | exact HB.out))); (case aF => exact (fun _ _ => trivial)); (case aO => exact (by (with_reducible repeat (first | apply Kd.R_alloc | apply Kd.R_drewN | apply Kd.R_drew)); exact HO_6.out)); (case aS => exact (below_size (by repeat (first | (with_reducible first | exact HB.out | apply below_alloc | apply pw_below_drewN | apply below_drew1 | refine below_set ?_ GE150.out | refine below_set ?_ GE152.out) | exact HB.out)))); (case aL => have := LMc41.out; omega); intro v160 w44 ho hb hg hat; rw [← Ny159.out] at ho; have n0_ := Aside0.mk (blk_grown (g := gb150) (o := .cells #[.int .i64 a0_0, .int .i64 a0_1, .slice (some ad151) l0_2.length c0_2] 24 (0, 0)) (by (with_reducible repeat (first | refine blk_drewN ?_ _ | refine blk_drew ?_ | refine blk_alloc ?_ _)); exact BK150.out) hg (Kd.R_ne HO_6.out BK150.out (by decide))); have n1_ := Aside0.mk (blk_grown (g := gb152) (o := .cells #[.int .i64 ((rd_T50 l0_2 a1).f3.f0), .int .i64 ((rd_T50 l0_2 a1).f3.f1), .int .i64 ((rd_T50 l0_2 a1).f3.f2), .int .i64 ((rd_T50 l0_2 a1).f3.f3), .slice A151_10 ((rd_T50 l0_2 a1).f3.f4).length c151_10, .int .i64 ((rd_T50 l0_2 a1).f3.f5), .int .i64 ((rd_T50 l0_2 a1).f3.f6), .int .i64 ((rd_T50 l0_2 a1).f3.f7)] 44 (0, 0)) (by (with_reducible repeat (first | refine blk_drewN ?_ _ | refine blk_drew ?_ | refine blk_alloc ?_ _)); exact BK152.out) hg (Kd.R_ne HO_6.out BK152.out (by decide))); have n2_ := Aside0.mk (hb); have n3_ := Aside0.mk (ho); clear BK150; clear BK152; clear HB; clear HO_6; have BK150 := n0_; have BK152 := n1_; have HB := n2_; have HO161 := n3_; clear n0_ n1_ n2_ n3_; clear ho hb hg hat)); try go_wp2_with (first | ((with_reducible refine gate_builtin (b := .append) (xs := #[.tmp 53, .tmp 56]) rfl ?_); (try (refine gate_guard (by rfl) ?_; dsimp only)); at_builtin; refine Kd.R_append (Kd.int .i64) (w0 := w) w.heap.size rfl (.tmp 53) (.tmp 56) 27 3 (.int .i64 0) 8 rfl Try.underlying27 info3 rfl (by decide) (by omega) u6 x6_28 ((rd_T50 l0_2 a1).f3.f7) [.int .i64 ((rd_T50 l0_2 a1).f3.f7)] (fun _ => True) (fun _ => False) rfl rfl ?aP (fun _ hk => hk.elim) ?aF ?aO ?aB ?aS ?aL ?_; (case aP => exact rfl); (case aB => exact (by repeat (first | (with_reducible first | exact HB.out | apply below_alloc | apply pw_below_drewN | apply below_drew1 | refine below_set ?_ GE150.out | refine below_set ?_ GE152.out) | exact HB.out))); (case aF => exact (fun _ _ => trivial)); (case aO => exact (by (with_reducible repeat (first | apply Kd.R_alloc | apply Kd.R_drewN | apply Kd.R_drew)); exact HO_6.out)); (case aS => exact (below_size (by repeat (first | (with_reducible first | exact HB.out | apply below_alloc | apply pw_below_drewN | apply below_drew1 | refine below_set ?_ GE150.out | refine below_set ?_ GE152.out) | exact HB.out)))); (case aL => have := LMc41.out; omega); intro v160 w44 ho hb hg hat; rw [← Ny159.out] at ho; have n0_ := Aside0.mk (blk_grown (g := gb150) (o := .cells #[.int .i64 a0_0, .int .i64 a0_1, .slice (some ad151) l0_2.length c0_2] 24 (0, 0)) (by (with_reducible repeat (first | refine blk_drewN ?_ _ | refine blk_drew ?_ | refine blk_alloc ?_ _)); exact BK150.out) hg (Kd.R_ne HO_6.out BK150.out (by decide))); have n1_ := Aside0.mk (blk_grown (g := gb152) (o := .cells #[.int .i64 ((rd_T50 l0_2 a1).f3.f0), .int .i64 ((rd_T50 l0_2 a1).f3.f1), .int .i64 ((rd_T50 l0_2 a1).f3.f2), .int .i64 ((rd_T50 l0_2 a1).f3.f3), .slice A151_10 ((rd_T50 l0_2 a1).f3.f4).length c151_10, .int .i64 ((rd_T50 l0_2 a1).f3.f5), .int .i64 ((rd_T50 l0_2 a1).f3.f6), .int .i64 ((rd_T50 l0_2 a1).f3.f7)] 44 (0, 0)) (by (with_reducible repeat (first | refine blk_drewN ?_ _ | refine blk_drew ?_ | refine blk_alloc ?_ _)); exact BK152.out) hg (Kd.R_ne HO_6.out BK152.out (by decide))); have n2_ := Aside0.mk (hb); have n3_ := Aside0.mk (ho); clear BK150; clear BK152; clear HB; clear HO_6; have BK150 := n0_; have BK152 := n1_; have HB := n2_; have HO161 := n3_; clear n0_ n1_ n2_ n3_; clear ho hb hg hat)))
               go_meet
               case rel => exact ⟨_, (y159), H', ⟨by have := HJ2.out; have := HJ9.out; have := HJ22.out; have := HJ28.out; first | omega | exact Nat.le_refl _⟩, ⟨by (with_reducible repeat (first | apply Kd.R_alloc | apply Kd.R_drewN | apply Kd.R_drew)); exact HO161.out⟩, ⟨by (with_reducible repeat (first | refine blk_drewN ?_ _ | refine blk_drew ?_ | refine blk_alloc ?_ _)); exact BK150.out⟩, ⟨by (with_reducible repeat (first | refine blk_drewN ?_ _ | refine blk_drew ?_ | refine blk_alloc ?_ _)); exact BK152.out⟩, ⟨by repeat (first | (with_reducible first | exact HB.out | apply below_alloc | apply pw_below_drewN | apply below_drew1 | refine below_set ?_ GE150.out | refine below_set ?_ GE152.out) | exact HB.out)⟩⟩
              ·rw [if_neg c41] at H
               exact absurd H (by simp)
             ·rw [if_neg c40] at H
              have c40b0 : (((rd_T50 l0_2 a1).f3.f0) == 4) = false := beq_eq_false_iff_ne.mpr c40
              have c40b1 : (((rd_T50 l0_2 a1).f3.f0) != 4) = true := bne_iff_ne.mpr c40
              (first | rw [c40b0] | (simp only [i64_w, i32_w]; rw [c40b0]) | skip)
              have H' := Aside0.mk H
              clear H
              go_wp2
              repeat (go_quiet (fail); try go_wp2)
              go_meet
              case rel => exact ⟨_, (x6_28), H', ⟨by have := HJ2.out; have := HJ9.out; have := HJ22.out; have := HJ28.out; first | omega | exact Nat.le_refl _⟩, ⟨by (with_reducible repeat (first | apply Kd.R_alloc | apply Kd.R_drewN | apply Kd.R_drew)); exact HO_6.out⟩, ⟨by (with_reducible repeat (first | refine blk_drewN ?_ _ | refine blk_drew ?_ | refine blk_alloc ?_ _)); exact BK150.out⟩, ⟨by (with_reducible repeat (first | refine blk_drewN ?_ _ | refine blk_drew ?_ | refine blk_alloc ?_ _)); exact BK152.out⟩, ⟨by repeat (first | (with_reducible first | exact HB.out | apply below_alloc | apply pw_below_drewN | apply below_drew1 | refine below_set ?_ GE150.out | refine below_set ?_ GE152.out) | exact HB.out)⟩⟩
            case rest =>
             clear HC37
             try clear c1
             try clear p1
             try clear q1
             try clear hx1
             try clear c2
             try clear p2
             try clear c3
             try clear c4
             try clear c5
             try clear c5b0
             try clear c7
             try clear c8
             try clear c8b0
             try clear c9
             try clear c9b0
             try clear c13
             try clear c15
             try clear c15b0
             try clear c15b1
             try clear p15
             try clear q15
             try clear hx15
             try clear c16
             try clear c18
             try clear c18b0
             try clear c18b1
             try clear c19
             try clear c21
             try clear c24
             try clear c25
             try clear c26
             try clear c30
             try clear c32
             try clear c32b0
             try clear c32b1
             try clear c33
             try clear c34
             try clear c38
             try clear c40
             try clear c40b0
             try clear c40b1
             try clear c41
             try clear c42
             try clear hcz11_0
             try clear hcz11_1
             try clear hcz11_2
             try clear hcz14_0
             try clear hcz14_1
             try clear hcz14_2
             try clear hcz14_3
             try clear hcz14_4
             try clear hcz14_5
             try clear hcz14_6
             try clear hcz14_7
             try clear hcz17_0
             try clear hcz17_1
             try clear hcz17_2
             try clear hcz17_3
             try clear hcz17_4
             try clear hcz17_5
             try clear hcz17_6
             try clear hcz17_7
             try clear hcz20_0
             try clear hcz20_1
             try clear hcz20_2
             try clear hcz20_3
             try clear hcz20_4
             try clear hcz20_5
             try clear hcz20_6
             try clear hcz20_7
             try clear hcz22_0
             try clear hcz22_1
             try clear hcz22_2
             try clear hcz22_3
             try clear hcz22_4
             try clear hcz22_5
             try clear hcz22_6
             try clear hcz22_7
             try clear hcz27_0
             try clear hcz27_1
             try clear hcz27_2
             try clear hcz27_3
             try clear hcz27_4
             try clear hcz27_5
             try clear hcz27_6
             try clear hcz27_7
             try clear hcz31_0
             try clear hcz31_1
             try clear hcz31_2
             try clear hcz31_3
             try clear hcz31_4
             try clear hcz31_5
             try clear hcz31_6
             try clear hcz31_7
             try clear hcz35_0
             try clear hcz35_1
             try clear hcz35_2
             try clear hcz35_3
             try clear hcz35_4
             try clear hcz35_5
             try clear hcz35_6
             try clear hcz35_7
             try clear hcz39_0
             try clear hcz39_1
             try clear hcz39_2
             try clear hcz39_3
             try clear hcz39_4
             try clear hcz39_5
             try clear hcz39_6
             try clear hcz39_7
             try clear hcz43_0
             try clear hcz43_1
             try clear hcz43_2
             try clear hcz43_3
             try clear hcz43_4
             try clear hcz43_5
             try clear hcz43_6
             try clear hcz43_7
             try clear hcz6_0
             try clear hcz6_1
             try clear hcz6_2
             try clear hfz11_0
             try clear hfz11_1
             try clear hfz11_2
             try clear hfz14_0
             try clear hfz14_1
             try clear hfz14_2
             try clear hfz14_3
             try clear hfz14_4
             try clear hfz14_5
             try clear hfz14_6
             try clear hfz14_7
             try clear hfz17_0
             try clear hfz17_1
             try clear hfz17_2
             try clear hfz17_3
             try clear hfz17_4
             try clear hfz17_5
             try clear hfz17_6
             try clear hfz17_7
             try clear hfz20_0
             try clear hfz20_1
             try clear hfz20_2
             try clear hfz20_3
             try clear hfz20_4
             try clear hfz20_5
             try clear hfz20_6
             try clear hfz20_7
             try clear hfz22_0
             try clear hfz22_1
             try clear hfz22_2
             try clear hfz22_3
             try clear hfz22_4
             try clear hfz22_5
             try clear hfz22_6
             try clear hfz22_7
             try clear hfz27_0
             try clear hfz27_1
             try clear hfz27_2
             try clear hfz27_3
             try clear hfz27_4
             try clear hfz27_5
             try clear hfz27_6
             try clear hfz27_7
             try clear hfz31_0
             try clear hfz31_1
             try clear hfz31_2
             try clear hfz31_3
             try clear hfz31_4
             try clear hfz31_5
             try clear hfz31_6
             try clear hfz31_7
             try clear hfz35_0
             try clear hfz35_1
             try clear hfz35_2
             try clear hfz35_3
             try clear hfz35_4
             try clear hfz35_5
             try clear hfz35_6
             try clear hfz35_7
             try clear hfz39_0
             try clear hfz39_1
             try clear hfz39_2
             try clear hfz39_3
             try clear hfz39_4
             try clear hfz39_5
             try clear hfz39_6
             try clear hfz39_7
             try clear hfz43_0
             try clear hfz43_1
             try clear hfz43_2
             try clear hfz43_3
             try clear hfz43_4
             try clear hfz43_5
             try clear hfz43_6
             try clear hfz43_7
             try clear hfz6_0
             try clear hfz6_1
             try clear hfz6_2
             try clear hx151_0
             try clear hx151_1
             try clear hx151_10
             try clear hx151_11
             try clear hx151_12
             try clear hx151_13
             try clear hx151_2
             try clear hx151_3
             try clear hx151_4
             try clear hx151_5
             try clear hx151_6
             try clear hx151_7
             try clear hx151_8
             try clear hx151_9
             try clear p1
             try clear p15
             try clear p151
             try clear p2
             try clear q1
             try clear q15
             try clear q151
             obtain ⟨kq, x6_36, HA, HJ36, HO_6, BK150, BK152, HB⟩ := hcut
             cases kq with
             | zero => exact absurd HA.out (by simp [davitref07_Next.j4])
             | succ kj36 =>
              have H := HA.out
              clear HA
              simp only [davitref07_Next.j4] at H
              have H' := Aside0.mk H
              clear H
              go_wp2
              repeat (go_quiet (fail); try go_wp2)
              go_loopg [7, 8] kj36 (fun kq v7 v8 w' => ∃ (x7_6 : List Int) (x8_6 : Int), v8 = .int .i64 x8_6 ∧ Aside0 (davitref07_Next.l0 kq x6_36 x7_6 x8_6 a0_0 a0_1 l0_2 = some r) ∧ Aside0 (kq ≤ kj36) ∧ Aside0 (Kd.R (Kd.int .i64) 3 w' w.heap.size (fun k_ => some k_ ≠ (v7 : Value).ownBlock) u6 x6_36) ∧ Aside0 (Kd.R (Kd.int .i64) 3 w' w.heap.size (fun k_ => some k_ ≠ (u6 : Value).ownBlock) v7 x7_6) ∧ Aside0 (w'.heap[gb150]? = some (.cells #[.int .i64 a0_0, .int .i64 a0_1, (.slice (some ad151) l0_2.length c0_2)] 24 (0, 0))) ∧ Aside0 (w'.heap[gb152]? = some (.cells #[.int .i64 ((rd_T50 l0_2 a1).f3.f0), .int .i64 ((rd_T50 l0_2 a1).f3.f1), .int .i64 ((rd_T50 l0_2 a1).f3.f2), .int .i64 ((rd_T50 l0_2 a1).f3.f3), (.slice A151_10 ((rd_T50 l0_2 a1).f3.f4).length c151_10), .int .i64 ((rd_T50 l0_2 a1).f3.f5), .int .i64 ((rd_T50 l0_2 a1).f3.f6), .int .i64 ((rd_T50 l0_2 a1).f3.f7)] 44 (0, 0))) ∧ Aside0 (Below w.heap.size w w'))
              case atStart => exact ⟨(([] : List Int)), (0), (by first | rfl | (simp; done) | (simp [*]; done)), H', ⟨Nat.le_refl _⟩, ⟨by (with_reducible repeat (first | apply Kd.R_alloc | apply Kd.R_drewN | apply Kd.R_drew)); exact Kd.R_mono HO_6.out (fun _ hk => (by simp [Value.ownBlock]))⟩, ⟨by first | exact Kd.R_nil _ _ _ _ _ | exact Kd.N_nil _ _ _ _ _ | exact Kd.V_nil _ _ _ _ _ | exact Kd.Q_nil _ _ _ _ _ | exact Kd.S_nil _ _ _ _ _⟩, ⟨by (with_reducible repeat (first | refine blk_drewN ?_ _ | refine blk_drew ?_ | refine blk_alloc ?_ _)); exact BK150.out⟩, ⟨by (with_reducible repeat (first | refine blk_drewN ?_ _ | refine blk_drew ?_ | refine blk_alloc ?_ _)); exact BK152.out⟩, ⟨by repeat (first | (with_reducible first | exact HB.out | apply below_alloc | apply pw_below_drewN | apply below_drew1 | refine below_set ?_ GE150.out | refine below_set ?_ GE152.out) | exact HB.out)⟩⟩
              case round =>
               clear H'
               try clear c1
               try clear p1
               try clear q1
               try clear hx1
               try clear c2
               try clear p2
               try clear c3
               try clear c4
               try clear c5
               try clear c5b0
               try clear c7
               try clear c8
               try clear c8b0
               try clear c9
               try clear c9b0
               try clear c13
               try clear c15
               try clear c15b0
               try clear c15b1
               try clear p15
               try clear q15
               try clear hx15
               try clear c16
               try clear c18
               try clear c18b0
               try clear c18b1
               try clear c19
               try clear c21
               try clear c24
               try clear c25
               try clear c26
               try clear c30
               try clear c32
               try clear c32b0
               try clear c32b1
               try clear c33
               try clear c34
               try clear c38
               try clear c40
               try clear c40b0
               try clear c40b1
               try clear c41
               try clear c42
               try clear hcz11_0
               try clear hcz11_1
               try clear hcz11_2
               try clear hcz14_0
               try clear hcz14_1
               try clear hcz14_2
               try clear hcz14_3
               try clear hcz14_4
               try clear hcz14_5
               try clear hcz14_6
               try clear hcz14_7
               try clear hcz17_0
               try clear hcz17_1
               try clear hcz17_2
               try clear hcz17_3
               try clear hcz17_4
               try clear hcz17_5
               try clear hcz17_6
               try clear hcz17_7
               try clear hcz20_0
               try clear hcz20_1
               try clear hcz20_2
               try clear hcz20_3
               try clear hcz20_4
               try clear hcz20_5
               try clear hcz20_6
               try clear hcz20_7
               try clear hcz22_0
               try clear hcz22_1
               try clear hcz22_2
               try clear hcz22_3
               try clear hcz22_4
               try clear hcz22_5
               try clear hcz22_6
               try clear hcz22_7
               try clear hcz27_0
               try clear hcz27_1
               try clear hcz27_2
               try clear hcz27_3
               try clear hcz27_4
               try clear hcz27_5
               try clear hcz27_6
               try clear hcz27_7
               try clear hcz31_0
               try clear hcz31_1
               try clear hcz31_2
               try clear hcz31_3
               try clear hcz31_4
               try clear hcz31_5
               try clear hcz31_6
               try clear hcz31_7
               try clear hcz35_0
               try clear hcz35_1
               try clear hcz35_2
               try clear hcz35_3
               try clear hcz35_4
               try clear hcz35_5
               try clear hcz35_6
               try clear hcz35_7
               try clear hcz39_0
               try clear hcz39_1
               try clear hcz39_2
               try clear hcz39_3
               try clear hcz39_4
               try clear hcz39_5
               try clear hcz39_6
               try clear hcz39_7
               try clear hcz43_0
               try clear hcz43_1
               try clear hcz43_2
               try clear hcz43_3
               try clear hcz43_4
               try clear hcz43_5
               try clear hcz43_6
               try clear hcz43_7
               try clear hcz6_0
               try clear hcz6_1
               try clear hcz6_2
               try clear hfz11_0
               try clear hfz11_1
               try clear hfz11_2
               try clear hfz14_0
               try clear hfz14_1
               try clear hfz14_2
               try clear hfz14_3
               try clear hfz14_4
               try clear hfz14_5
               try clear hfz14_6
               try clear hfz14_7
               try clear hfz17_0
               try clear hfz17_1
               try clear hfz17_2
               try clear hfz17_3
               try clear hfz17_4
               try clear hfz17_5
               try clear hfz17_6
               try clear hfz17_7
               try clear hfz20_0
               try clear hfz20_1
               try clear hfz20_2
               try clear hfz20_3
               try clear hfz20_4
               try clear hfz20_5
               try clear hfz20_6
               try clear hfz20_7
               try clear hfz22_0
               try clear hfz22_1
               try clear hfz22_2
               try clear hfz22_3
               try clear hfz22_4
               try clear hfz22_5
               try clear hfz22_6
               try clear hfz22_7
               try clear hfz27_0
               try clear hfz27_1
               try clear hfz27_2
               try clear hfz27_3
               try clear hfz27_4
               try clear hfz27_5
               try clear hfz27_6
               try clear hfz27_7
               try clear hfz31_0
               try clear hfz31_1
               try clear hfz31_2
               try clear hfz31_3
               try clear hfz31_4
               try clear hfz31_5
               try clear hfz31_6
               try clear hfz31_7
               try clear hfz35_0
               try clear hfz35_1
               try clear hfz35_2
               try clear hfz35_3
               try clear hfz35_4
               try clear hfz35_5
               try clear hfz35_6
               try clear hfz35_7
               try clear hfz39_0
               try clear hfz39_1
               try clear hfz39_2
               try clear hfz39_3
               try clear hfz39_4
               try clear hfz39_5
               try clear hfz39_6
               try clear hfz39_7
               try clear hfz43_0
               try clear hfz43_1
               try clear hfz43_2
               try clear hfz43_3
               try clear hfz43_4
               try clear hfz43_5
               try clear hfz43_6
               try clear hfz43_7
               try clear hfz6_0
               try clear hfz6_1
               try clear hfz6_2
               try clear hx151_0
               try clear hx151_1
               try clear hx151_10
               try clear hx151_11
               try clear hx151_12
               try clear hx151_13
               try clear hx151_2
               try clear hx151_3
               try clear hx151_4
               try clear hx151_5
               try clear hx151_6
               try clear hx151_7
               try clear hx151_8
               try clear hx151_9
               try clear p1
               try clear p15
               try clear p151
               try clear p2
               try clear q1
               try clear q15
               try clear q151
               obtain ⟨x7_6, x8_6, rfl, HA, HK6, HO_6, HO_7, BK150, BK152, HB⟩ := hrel
               cases gk with
               | zero => exact absurd HA.out (by simp [davitref07_Next.l0])
               | succ k6 =>
                have H := HA.out
                clear HA
                simp only [davitref07_Next.l0] at H
                by_cases c45 : x8_6 < (x6_36.length : Int)
                ·rw [if_pos c45] at H
                 have c45b0 : decide (x8_6 < (x6_36.length : Int)) = true := decide_eq_true c45
                 clear c45
                 by_cases c46 : 0 ≤ x8_6
                 ·rw [if_pos c46] at H
                  have c46b0 : decide (0 ≤ x8_6) = true := decide_eq_true c46
                  clear c46
                  by_cases c47 : (rd x6_36 x8_6) ≥ 0
                  ·rw [if_pos c47] at H
                   have c47b0 : decide (0 ≤ (rd x6_36 x8_6)) = true := decide_eq_true c47
                   clear c47
                   by_cases c48 : (rd x6_36 x8_6) < (l0_2.length : Int)
                   ·rw [if_pos c48] at H
                    have c48b0 : decide ((rd x6_36 x8_6) < (l0_2.length : Int)) = true := decide_eq_true c48
                    clear c48
                    by_cases c49 : x7_6.length < 17592186044416
                    ·rw [if_pos c49] at H
                     have LMc49 := Aside0.mk c49
                     clear c49
                     obtain ⟨y165, hy165⟩ : ∃ y_ : List Int, y_ = (x7_6 ++ [rd x6_36 x8_6]) := ⟨_, rfl⟩
                     replace H : (davitref07_Next.l0 k6 x6_36 y165 (wrap64 (x8_6 + 1)) a0_0 a0_1 l0_2) = some r := by first | (rw [hy165]; with_reducible exact H) | (have H2_ := (Option.bind_some _ _).symm.trans H; rw [hy165]; with_reducible exact H2_) | (have H2_ := (Option.bind_some _ _).symm.trans H; with_reducible exact H2_) | with_reducible exact H | (rw [hy165]; exact H) | exact H
                     have Ny165 := Aside0.mk hy165
                     clear hy165
                     have H' := Aside0.mk H
                     clear H
                     obtain ⟨Ao50, co50, eo50⟩ := Kd.R_slice HO_6.out
                     subst eo50
                     have p162 : 0 ≤ (x8_6 : Int) := of_decide_eq_true (by first | (with_reducible assumption) | assumption)
                     have q162 : x8_6 < (x6_36.length : Int) := of_decide_eq_true (by first | (with_reducible assumption) | assumption)
                     obtain ⟨ad162, e162, hx162_0⟩ := Kd.at_int (Kd.R_reads' HO_6.out).2.2 x8_6 p162 q162
                     cases e162
                     replace p162 := eq_true p162
                     replace q162 := eq_true q162
                     have p163 : 0 ≤ (x8_6 : Int) := of_decide_eq_true (by first | (with_reducible assumption) | assumption)
                     have q163 : x8_6 < (x6_36.length : Int) := of_decide_eq_true (by first | (with_reducible assumption) | assumption)
                     obtain ⟨ad163, e163, hx163_0⟩ := Kd.at_int (Kd.R_reads' HO_6.out).2.2 x8_6 p163 q163
                     obtain rfl : ad162 = ad163 := (by injection e163)
                     replace p163 := eq_true p163
                     replace q163 := eq_true q163
                     have hnb51 := NB150_152.out
                     have hnc51 := NB152_150.out
                     have hcz52_0 : wr.cell? ⟨gb150, 0, none⟩ = some (.int .i64 a0_0) := (blk_cell BK150.out 0).trans rfl
                     have hcz52_1 : wr.cell? ⟨gb150, 1, none⟩ = some (.int .i64 a0_1) := (blk_cell BK150.out 1).trans rfl
                     have hcz52_2 : wr.cell? ⟨gb150, 2, none⟩ = some (.slice (some ad151) l0_2.length c0_2) := (blk_cell BK150.out 2).trans rfl
                     have hfz52_0 := blk_frozen BK150.out 0
                     have hfz52_1 := blk_frozen BK150.out 1
                     have hfz52_2 := blk_frozen BK150.out 2
                     have p164 : 0 ≤ (x8_6 : Int) := of_decide_eq_true (by first | (with_reducible assumption) | assumption)
                     have q164 : x8_6 < (x6_36.length : Int) := of_decide_eq_true (by first | (with_reducible assumption) | assumption)
                     obtain ⟨ad164, e164, hx164_0⟩ := Kd.at_int (Kd.R_reads' HO_6.out).2.2 x8_6 p164 q164
                     obtain rfl : ad162 = ad164 := (by injection e164)
                     replace p164 := eq_true p164
                     replace q164 := eq_true q164
                     go_wp2_with (first | ((with_reducible refine gate_builtin (b := .append) (xs := #[.tmp 79, .tmp 84]) rfl ?_); (try (refine gate_guard (by rfl) ?_; dsimp only)); at_builtin; refine Kd.R_append (Kd.int .i64) (w0 := w) w.heap.size rfl (.tmp 79) (.tmp 84) 27 3 (.int .i64 0) 8 rfl Try.underlying27 info3 rfl (by decide) (by omega) u7 x7_6 (rd x6_36 x8_6) [.int .i64 (rd x6_36 x8_6)] (fun k_ => some k_ ≠ (.slice (some ad162) x6_36.length co50 : Value).ownBlock) (fun _ => False) rfl rfl ?aP (fun _ hk => hk.elim) ?aF ?aO ?aB ?aS ?aL ?_; (case aP => exact rfl); (case aB => exact (by repeat (first | (with_reducible first | exact HB.out | apply below_alloc | apply pw_below_drewN | apply below_drew1 | refine below_set ?_ GE150.out | refine below_set ?_ GE152.out) | exact HB.out))); (case aF => exact (fun k_ hk => Kd.fresh' (Kd.R_lt (by (with_reducible repeat (first | apply Kd.R_alloc | apply Kd.R_drewN | apply Kd.R_drew)); exact HO_6.out)) k_ hk)); (case aO => exact (by (with_reducible repeat (first | apply Kd.R_alloc | apply Kd.R_drewN | apply Kd.R_drew)); exact HO_7.out)); (case aS => exact (below_size (by repeat (first | (with_reducible first | exact HB.out | apply below_alloc | apply pw_below_drewN | apply below_drew1 | refine below_set ?_ GE150.out | refine below_set ?_ GE152.out) | exact HB.out)))); (case aL => have := LMc49.out; omega); intro v166 w53 ho hb hg hat; rw [← Ny165.out] at ho; have n0_ := Aside0.mk (Kd.R_after (ok := (fun _ => True)) (by (with_reducible repeat (first | apply Kd.R_alloc | apply Kd.R_drewN | apply Kd.R_drew)); exact Kd.R_mono HO_6.out (fun _ hk => ⟨trivial, hk⟩)) hg hat); have n1_ := Aside0.mk (blk_grown (g := gb150) (o := .cells #[.int .i64 a0_0, .int .i64 a0_1, .slice (some ad151) l0_2.length c0_2] 24 (0, 0)) (by (with_reducible repeat (first | refine blk_drewN ?_ _ | refine blk_drew ?_ | refine blk_alloc ?_ _)); exact BK150.out) hg (Kd.R_ne HO_7.out BK150.out (by decide))); have n2_ := Aside0.mk (blk_grown (g := gb152) (o := .cells #[.int .i64 ((rd_T50 l0_2 a1).f3.f0), .int .i64 ((rd_T50 l0_2 a1).f3.f1), .int .i64 ((rd_T50 l0_2 a1).f3.f2), .int .i64 ((rd_T50 l0_2 a1).f3.f3), .slice A151_10 ((rd_T50 l0_2 a1).f3.f4).length c151_10, .int .i64 ((rd_T50 l0_2 a1).f3.f5), .int .i64 ((rd_T50 l0_2 a1).f3.f6), .int .i64 ((rd_T50 l0_2 a1).f3.f7)] 44 (0, 0)) (by (with_reducible repeat (first | refine blk_drewN ?_ _ | refine blk_drew ?_ | refine blk_alloc ?_ _)); exact BK152.out) hg (Kd.R_ne HO_7.out BK152.out (by decide))); have n3_ := Aside0.mk (hb); have n4_ := Aside0.mk (ho); clear HO_6; clear BK150; clear BK152; clear HB; clear HO_7; have HO_6 := n0_; have BK150 := n1_; have BK152 := n2_; have HB := n3_; have HO167 := n4_; clear n0_ n1_ n2_ n3_ n4_; clear ho hb hg hat))
                     repeat (go_quiet (first | ((with_reducible refine gate_builtin (b := .append) (xs := #[.tmp 79, .tmp 84]) rfl ?_); (try (refine gate_guard (by rfl) ?_; dsimp only)); at_builtin; refine Kd.R_append (Kd.int .i64) (w0 := w) w.heap.size rfl (.tmp 79) (.tmp 84) 27 3 (.int .i64 0) 8 rfl Try.underlying27 info3 rfl (by decide) (by omega) u7 x7_6 (rd x6_36 x8_6) [.int .i64 (rd x6_36 x8_6)] (fun k_ => some k_ ≠ (.slice (some ad162) x6_36.length co50 : Value).ownBlock) (fun _ => False) rfl rfl ?aP (fun _ hk => hk.elim) ?aF ?aO ?aB ?aS ?aL ?_; (case aP => exact rfl); (case aB => exact (by repeat (first | (with_reducible first | exact HB.out | apply below_alloc | apply pw_below_drewN | apply below_drew1 | refine below_set ?_ GE150.out | refine below_set ?_ GE152.out) | exact HB.out))); (case aF => exact (fun k_ hk => Kd.fresh' (Kd.R_lt (by (with_reducible repeat (first | apply Kd.R_alloc | apply Kd.R_drewN | apply Kd.R_drew)); exact HO_6.out)) k_ hk)); (case aO => exact (by (with_reducible repeat (first | apply Kd.R_alloc | apply Kd.R_drewN | apply Kd.R_drew)); exact HO_7.out)); (case aS => exact (below_size (by repeat (first | (with_reducible first | exact HB.out | apply below_alloc | apply pw_below_drewN | apply below_drew1 | refine below_set ?_ GE150.out | refine below_set ?_ GE152.out) | exact HB.out)))); (case aL => have := LMc49.out; omega); intro v166 w53 ho hb hg hat; rw [← Ny165.out] at ho; have n0_ := Aside0.mk (Kd.R_after (ok := (fun _ => True)) (by (with_reducible repeat (first | apply Kd.R_alloc | apply Kd.R_drewN | apply Kd.R_drew)); exact Kd.R_mono HO_6.out (fun _ hk => ⟨trivial, hk⟩)) hg hat); have n1_ := Aside0.mk (blk_grown (g := gb150) (o := .cells #[.int .i64 a0_0, .int .i64 a0_1, .slice (some ad151) l0_2.length c0_2] 24 (0, 0)) (by (with_reducible repeat (first | refine blk_drewN ?_ _ | refine blk_drew ?_ | refine blk_alloc ?_ _)); exact BK150.out) hg (Kd.R_ne HO_7.out BK150.out (by decide))); have n2_ := Aside0.mk (blk_grown (g := gb152) (o := .cells #[.int .i64 ((rd_T50 l0_2 a1).f3.f0), .int .i64 ((rd_T50 l0_2 a1).f3.f1), .int .i64 ((rd_T50 l0_2 a1).f3.f2), .int .i64 ((rd_T50 l0_2 a1).f3.f3), .slice A151_10 ((rd_T50 l0_2 a1).f3.f4).length c151_10, .int .i64 ((rd_T50 l0_2 a1).f3.f5), .int .i64 ((rd_T50 l0_2 a1).f3.f6), .int .i64 ((rd_T50 l0_2 a1).f3.f7)] 44 (0, 0)) (by (with_reducible repeat (first | refine blk_drewN ?_ _ | refine blk_drew ?_ | refine blk_alloc ?_ _)); exact BK152.out) hg (Kd.R_ne HO_7.out BK152.out (by decide))); have n3_ := Aside0.mk (hb); have n4_ := Aside0.mk (ho); clear HO_6; clear BK150; clear BK152; clear HB; clear HO_7; have HO_6 := n0_; have BK150 := n1_; have BK152 := n2_; have HB := n3_; have HO167 := n4_; clear n0_ n1_ n2_ n3_ n4_; clear ho hb hg hat)); try go_wp2_with (first | ((with_reducible refine gate_builtin (b := .append) (xs := #[.tmp 79, .tmp 84]) rfl ?_); (try (refine gate_guard (by rfl) ?_; dsimp only)); at_builtin; refine Kd.R_append (Kd.int .i64) (w0 := w) w.heap.size rfl (.tmp 79) (.tmp 84) 27 3 (.int .i64 0) 8 rfl Try.underlying27 info3 rfl (by decide) (by omega) u7 x7_6 (rd x6_36 x8_6) [.int .i64 (rd x6_36 x8_6)] (fun k_ => some k_ ≠ (.slice (some ad162) x6_36.length co50 : Value).ownBlock) (fun _ => False) rfl rfl ?aP (fun _ hk => hk.elim) ?aF ?aO ?aB ?aS ?aL ?_; (case aP => exact rfl); (case aB => exact (by repeat (first | (with_reducible first | exact HB.out | apply below_alloc | apply pw_below_drewN | apply below_drew1 | refine below_set ?_ GE150.out | refine below_set ?_ GE152.out) | exact HB.out))); (case aF => exact (fun k_ hk => Kd.fresh' (Kd.R_lt (by (with_reducible repeat (first | apply Kd.R_alloc | apply Kd.R_drewN | apply Kd.R_drew)); exact HO_6.out)) k_ hk)); (case aO => exact (by (with_reducible repeat (first | apply Kd.R_alloc | apply Kd.R_drewN | apply Kd.R_drew)); exact HO_7.out)); (case aS => exact (below_size (by repeat (first | (with_reducible first | exact HB.out | apply below_alloc | apply pw_below_drewN | apply below_drew1 | refine below_set ?_ GE150.out | refine below_set ?_ GE152.out) | exact HB.out)))); (case aL => have := LMc49.out; omega); intro v166 w53 ho hb hg hat; rw [← Ny165.out] at ho; have n0_ := Aside0.mk (Kd.R_after (ok := (fun _ => True)) (by (with_reducible repeat (first | apply Kd.R_alloc | apply Kd.R_drewN | apply Kd.R_drew)); exact Kd.R_mono HO_6.out (fun _ hk => ⟨trivial, hk⟩)) hg hat); have n1_ := Aside0.mk (blk_grown (g := gb150) (o := .cells #[.int .i64 a0_0, .int .i64 a0_1, .slice (some ad151) l0_2.length c0_2] 24 (0, 0)) (by (with_reducible repeat (first | refine blk_drewN ?_ _ | refine blk_drew ?_ | refine blk_alloc ?_ _)); exact BK150.out) hg (Kd.R_ne HO_7.out BK150.out (by decide))); have n2_ := Aside0.mk (blk_grown (g := gb152) (o := .cells #[.int .i64 ((rd_T50 l0_2 a1).f3.f0), .int .i64 ((rd_T50 l0_2 a1).f3.f1), .int .i64 ((rd_T50 l0_2 a1).f3.f2), .int .i64 ((rd_T50 l0_2 a1).f3.f3), .slice A151_10 ((rd_T50 l0_2 a1).f3.f4).length c151_10, .int .i64 ((rd_T50 l0_2 a1).f3.f5), .int .i64 ((rd_T50 l0_2 a1).f3.f6), .int .i64 ((rd_T50 l0_2 a1).f3.f7)] 44 (0, 0)) (by (with_reducible repeat (first | refine blk_drewN ?_ _ | refine blk_drew ?_ | refine blk_alloc ?_ _)); exact BK152.out) hg (Kd.R_ne HO_7.out BK152.out (by decide))); have n3_ := Aside0.mk (hb); have n4_ := Aside0.mk (ho); clear HO_6; clear BK150; clear BK152; clear HB; clear HO_7; have HO_6 := n0_; have BK150 := n1_; have BK152 := n2_; have HB := n3_; have HO167 := n4_; clear n0_ n1_ n2_ n3_ n4_; clear ho hb hg hat)))
                     go_roundg k6
                     case measure => have := HJ2.out; have := HJ9.out; have := HJ22.out; have := HJ28.out; have := HJ36.out; have := HK6.out; omega
                     case rel => exact ⟨(y165), (wrap64 (x8_6 + 1)), (by first | rfl | (simp; done) | (simp [*]; done)), H', ⟨by have := HJ2.out; have := HJ9.out; have := HJ22.out; have := HJ28.out; have := HJ36.out; have := HK6.out; omega⟩, ⟨by (with_reducible repeat (first | apply Kd.R_alloc | apply Kd.R_drewN | apply Kd.R_drew)); exact Kd.R_mono HO_6.out (fun _ hk => hk.2)⟩, ⟨by (with_reducible repeat (first | apply Kd.R_alloc | apply Kd.R_drewN | apply Kd.R_drew)); exact HO167.out⟩, ⟨by (with_reducible repeat (first | refine blk_drewN ?_ _ | refine blk_drew ?_ | refine blk_alloc ?_ _)); exact BK150.out⟩, ⟨by (with_reducible repeat (first | refine blk_drewN ?_ _ | refine blk_drew ?_ | refine blk_alloc ?_ _)); exact BK152.out⟩, ⟨by repeat (first | (with_reducible first | exact HB.out | apply below_alloc | apply pw_below_drewN | apply below_drew1 | refine below_set ?_ GE150.out | refine below_set ?_ GE152.out) | exact HB.out)⟩⟩
                    ·rw [if_neg c49] at H
                     exact absurd H (by simp)
                   ·rw [if_neg c48] at H
                    have c48b0 : decide ((rd x6_36 x8_6) < (l0_2.length : Int)) = false := decide_eq_false c48
                    clear c48
                    have H' := Aside0.mk H
                    clear H
                    obtain ⟨Ao54, co54, eo54⟩ := Kd.R_slice HO_6.out
                    subst eo54
                    have p162 : 0 ≤ (x8_6 : Int) := of_decide_eq_true (by first | (with_reducible assumption) | assumption)
                    have q162 : x8_6 < (x6_36.length : Int) := of_decide_eq_true (by first | (with_reducible assumption) | assumption)
                    obtain ⟨ad162, e162, hx162_0⟩ := Kd.at_int (Kd.R_reads' HO_6.out).2.2 x8_6 p162 q162
                    cases e162
                    replace p162 := eq_true p162
                    replace q162 := eq_true q162
                    have p163 : 0 ≤ (x8_6 : Int) := of_decide_eq_true (by first | (with_reducible assumption) | assumption)
                    have q163 : x8_6 < (x6_36.length : Int) := of_decide_eq_true (by first | (with_reducible assumption) | assumption)
                    obtain ⟨ad163, e163, hx163_0⟩ := Kd.at_int (Kd.R_reads' HO_6.out).2.2 x8_6 p163 q163
                    obtain rfl : ad162 = ad163 := (by injection e163)
                    replace p163 := eq_true p163
                    replace q163 := eq_true q163
                    have hnb55 := NB150_152.out
                    have hnc55 := NB152_150.out
                    have hcz56_0 : wr.cell? ⟨gb150, 0, none⟩ = some (.int .i64 a0_0) := (blk_cell BK150.out 0).trans rfl
                    have hcz56_1 : wr.cell? ⟨gb150, 1, none⟩ = some (.int .i64 a0_1) := (blk_cell BK150.out 1).trans rfl
                    have hcz56_2 : wr.cell? ⟨gb150, 2, none⟩ = some (.slice (some ad151) l0_2.length c0_2) := (blk_cell BK150.out 2).trans rfl
                    have hfz56_0 := blk_frozen BK150.out 0
                    have hfz56_1 := blk_frozen BK150.out 1
                    have hfz56_2 := blk_frozen BK150.out 2
                    go_wp2
                    repeat (go_quiet (fail); try go_wp2)
                    go_roundg k6
                    case measure => have := HJ2.out; have := HJ9.out; have := HJ22.out; have := HJ28.out; have := HJ36.out; have := HK6.out; omega
                    case rel => exact ⟨(x7_6), (wrap64 (x8_6 + 1)), (by first | rfl | (simp; done) | (simp [*]; done)), H', ⟨by have := HJ2.out; have := HJ9.out; have := HJ22.out; have := HJ28.out; have := HJ36.out; have := HK6.out; omega⟩, ⟨by (with_reducible repeat (first | apply Kd.R_alloc | apply Kd.R_drewN | apply Kd.R_drew)); exact HO_6.out⟩, ⟨by (with_reducible repeat (first | apply Kd.R_alloc | apply Kd.R_drewN | apply Kd.R_drew)); exact HO_7.out⟩, ⟨by (with_reducible repeat (first | refine blk_drewN ?_ _ | refine blk_drew ?_ | refine blk_alloc ?_ _)); exact BK150.out⟩, ⟨by (with_reducible repeat (first | refine blk_drewN ?_ _ | refine blk_drew ?_ | refine blk_alloc ?_ _)); exact BK152.out⟩, ⟨by repeat (first | (with_reducible first | exact HB.out | apply below_alloc | apply pw_below_drewN | apply below_drew1 | refine below_set ?_ GE150.out | refine below_set ?_ GE152.out) | exact HB.out)⟩⟩
                  ·rw [if_neg c47] at H
                   have c47b0 : decide (0 ≤ (rd x6_36 x8_6)) = false := decide_eq_false c47
                   clear c47
                   have H' := Aside0.mk H
                   clear H
                   obtain ⟨Ao57, co57, eo57⟩ := Kd.R_slice HO_6.out
                   subst eo57
                   have p162 : 0 ≤ (x8_6 : Int) := of_decide_eq_true (by first | (with_reducible assumption) | assumption)
                   have q162 : x8_6 < (x6_36.length : Int) := of_decide_eq_true (by first | (with_reducible assumption) | assumption)
                   obtain ⟨ad162, e162, hx162_0⟩ := Kd.at_int (Kd.R_reads' HO_6.out).2.2 x8_6 p162 q162
                   cases e162
                   replace p162 := eq_true p162
                   replace q162 := eq_true q162
                   go_wp2
                   repeat (go_quiet (fail); try go_wp2)
                   go_roundg k6
                   case measure => have := HJ2.out; have := HJ9.out; have := HJ22.out; have := HJ28.out; have := HJ36.out; have := HK6.out; omega
                   case rel => exact ⟨(x7_6), (wrap64 (x8_6 + 1)), (by first | rfl | (simp; done) | (simp [*]; done)), H', ⟨by have := HJ2.out; have := HJ9.out; have := HJ22.out; have := HJ28.out; have := HJ36.out; have := HK6.out; omega⟩, ⟨by (with_reducible repeat (first | apply Kd.R_alloc | apply Kd.R_drewN | apply Kd.R_drew)); exact HO_6.out⟩, ⟨by (with_reducible repeat (first | apply Kd.R_alloc | apply Kd.R_drewN | apply Kd.R_drew)); exact HO_7.out⟩, ⟨by (with_reducible repeat (first | refine blk_drewN ?_ _ | refine blk_drew ?_ | refine blk_alloc ?_ _)); exact BK150.out⟩, ⟨by (with_reducible repeat (first | refine blk_drewN ?_ _ | refine blk_drew ?_ | refine blk_alloc ?_ _)); exact BK152.out⟩, ⟨by repeat (first | (with_reducible first | exact HB.out | apply below_alloc | apply pw_below_drewN | apply below_drew1 | refine below_set ?_ GE150.out | refine below_set ?_ GE152.out) | exact HB.out)⟩⟩
                 ·rw [if_neg c46] at H
                  exact absurd H (by simp)
                ·rw [if_neg c45] at H
                 have c45b0 : decide (x8_6 < (x6_36.length : Int)) = false := decide_eq_false c45
                 clear c45
                 obtain rfl := Option.some.inj H
                 obtain ⟨Ao58, co58, eo58⟩ := Kd.R_slice HO_6.out
                 subst eo58
                 go_wp2
                 repeat (go_quiet (fail); try go_wp2)
                 go_ret
                 exact ⟨_, by first | rfl | (simp [errW_none, errW_some] <;> rfl) | (simp [*, errW_none, errW_some] <;> rfl), by (with_reducible repeat (first | apply Kd.R_alloc | apply Kd.R_drewN | apply Kd.R_drew)); exact Kd.R_mono HO_7.out (fun _ hk => trivial), by repeat (first | (with_reducible first | exact HB.out | apply below_alloc | apply pw_below_drewN | apply below_drew1 | refine below_set ?_ GE150.out | refine below_set ?_ GE152.out) | exact HB.out)⟩
     ·rw [if_neg c9] at H
      exact absurd H (by simp)
    ·rw [if_neg c8] at H
     exact absurd H (by simp)
end
end Go.Proofs.Ytilopoegoddggaa.X
namespace Go.Proofs.Ytilopoegoddggaa.X
open Go.RowKit Go.Proofs.YtilopoegoddggaaW.PrintWords Go.Proofs.YtilopoegoddggaaW.PrintLast Go.Proofs.YtilopoegoddggaaW.PrintMore
open Go.Proofs.Ytilopoegoddggaa.G
set_option linter.all false
theorem rd_get {l : List Int} {i : Int} (h0 : 0 ≤ i) (h1 : i < (l.length : Int)) : l.drop i.toNat = rd l i :: l.drop (i + 1).toNat := by
 have h : i.toNat < l.length := by omega
 rw [List.drop_eq_getElem_cons h]
 congr 1
 ·simp [rd, List.getD_eq_getElem?_getD, List.getElem?_eq_getElem h]
 ·congr 1; omega
theorem rd_mem {l : List Int} {i : Int} (h0 : 0 ≤ i) (h1 : i < (l.length : Int)) : rd l i ∈ l := by
 have h : i.toNat < l.length := by omega
 simp [rd, List.getD_eq_getElem?_getD, List.getElem?_eq_getElem h]
theorem index_l0 (l : List Int) (x : Int) (hl : l.length ≤ 1000000) : ∀ (d : Nat) (i : Int), 0 ≤ i → i + d = l.length → ∃ r, Evt (fun k => slices_Index_int_int.l0 k l x l.length i) r ∧ (0 ≤ r ↔ x ∈ l.drop i.toNat)
 | 0, i, h0, h1 => by
  refine ⟨-1, Evt.succ ?_, ?_⟩
  ·simp only [slices_Index_int_int.l0, if_neg (show ¬ i < (l.length : Int) by omega)]
   exact Evt.pure _
  ·rw [List.drop_eq_nil_of_le (by omega)]; simp
 | d + 1, i, h0, h1 => by
  have hlt : i < (l.length : Int) := by omega
  rw [rd_get h0 hlt]
  by_cases e : x = rd l i
  ·refine ⟨i, Evt.succ ?_, ?_⟩
   ·simp only [slices_Index_int_int.l0, if_pos hlt, if_pos h0, if_pos e]
    exact Evt.pure _
   ·exact ⟨fun _ => e ▸ List.mem_cons_self .., fun _ => h0⟩
  ·obtain ⟨r, hr, hx⟩ := index_l0 l x hl d (i + 1) (by omega) (by omega)
   refine ⟨r, Evt.succ ?_, ?_⟩
   ·simp only [slices_Index_int_int.l0, if_pos hlt, if_pos h0, if_neg e, wrap64_small (i + 1) (by omega) (by omega)]
    exact hr
   ·rw [hx]; simp [e]
theorem contains_ev (l : List Int) (x : Int) (hl : l.length ≤ 1000000) : Evt (fun k => slices_Contains_int_int.f k l x) (decide (x ∈ l)) := by
 obtain ⟨r, hr, hx⟩ := index_l0 l x hl l.length 0 (by omega) (by omega)
 unfold slices_Contains_int_int.f slices_Index_int_int.f
 refine Evt.bind hr ?_
 rw [show decide (x ∈ l) = decide (r ≥ 0) from decide_eq_decide.2 (by simpa using hx.symm)]
 exact Evt.pure _
theorem has_l0 (l : List Int) (x : Int) (hl : l.length ≤ 1000000) : ∀ (d : Nat) (i : Int), 0 ≤ i → i + d = l.length → Evt (fun k => davitref07_Has.l0 k l x i) (decide (x ∈ l.drop i.toNat))
 | 0, i, h0, h1 => by
  refine Evt.succ ?_
  simp only [davitref07_Has.l0, if_neg (show ¬ i < (l.length : Int) by omega)]
  rw [List.drop_eq_nil_of_le (by omega)]
  exact Evt.pure _
 | d + 1, i, h0, h1 => by
  have hlt : i < (l.length : Int) := by omega
  rw [rd_get h0 hlt]
  refine Evt.succ ?_
  by_cases e : rd l i = x
  ·simp only [davitref07_Has.l0, if_pos hlt, if_pos h0, if_pos e]
   rw [decide_eq_true (by rw [e]; exact List.mem_cons_self ..)]
   exact Evt.pure _
  ·simp only [davitref07_Has.l0, if_pos hlt, if_pos h0, if_neg e, wrap64_small (i + 1) (by omega) (by omega)]
   rw [decide_eq_decide.2 (show x ∈ rd l i :: l.drop (i + 1).toNat ↔ x ∈ l.drop (i + 1).toNat by rw [List.mem_cons]; exact ⟨fun h => h.resolve_left (fun h => e h.symm), .inr⟩)]
   exact has_l0 l x hl d (i + 1) (by omega) (by omega)
theorem has_ev (l : List Int) (x : Int) (hl : l.length ≤ 1000000) : Evt (fun k => davitref07_Has.f k l x) (decide (x ∈ l)) := has_l0 l x hl l.length 0 (by omega) (by omega)
theorem ints_l0 (a b : List Int) (hl : a.length ≤ 1000000) (he : a.length = b.length) : ∀ (d : Nat) (i : Int), 0 ≤ i → i + d = a.length → Evt (fun k => davitref02_Ints.l0 k a b i) (decide (a.drop i.toNat = b.drop i.toNat))
 | 0, i, h0, h1 => by
  refine Evt.succ ?_
  simp only [davitref02_Ints.l0, if_neg (show ¬ i < (a.length : Int) by omega)]
  rw [List.drop_eq_nil_of_le (by omega), List.drop_eq_nil_of_le (by omega)]
  exact Evt.pure _
 | d + 1, i, h0, h1 => by
  have hlt : i < (a.length : Int) := by omega
  rw [rd_get h0 hlt, rd_get h0 (show i < (b.length : Int) by omega)]
  refine Evt.succ ?_
  by_cases e : rd a i = rd b i
  ·simp only [davitref02_Ints.l0, if_pos hlt, if_pos h0, if_pos (show i < (b.length : Int) by omega), if_pos e, wrap64_small (i + 1) (by omega) (by omega)]
   rw [decide_eq_decide.2 (show rd a i :: a.drop (i + 1).toNat = rd b i :: b.drop (i + 1).toNat ↔ a.drop (i + 1).toNat = b.drop (i + 1).toNat by simp [e])]
   exact ints_l0 a b hl he d (i + 1) (by omega) (by omega)
  ·simp only [davitref02_Ints.l0, if_pos hlt, if_pos h0, if_pos (show i < (b.length : Int) by omega), if_neg e]
   rw [decide_eq_false (by simp [e])]
   exact Evt.pure _
theorem ints_ev (a b : List Int) (hl : a.length ≤ 1000000) : Evt (fun k => davitref02_Ints.f k a b) (decide (a = b)) := by
 unfold davitref02_Ints.f
 by_cases he : a.length = b.length
 ·simp only [if_pos (show (a.length : Int) = b.length by omega)]
  exact ints_l0 a b hl he a.length 0 (by omega) (by omega)
 ·simp only [if_neg (show ¬ (a.length : Int) = b.length by omega)]
  rw [decide_eq_false (fun h => he (by rw [h]))]
  exact Evt.pure _
theorem isB_iff (n : Nat) (k : Int) : isB n k = true ↔ 0 ≤ k ∧ k < n := by simp [isB]
theorem next_edges (bs : List S50) : Edges bs.length (nextL bs) := by
 intro a b h
 unfold nextL at h
 split at h
 ·rename_i ha
  obtain ⟨_, hb⟩ := List.mem_filter.1 h
  exact ⟨(isB_iff _ _).1 ha, (isB_iff _ _).1 hb⟩
 ·cases h
theorem allL_len (b : S50) : (allL b).length ≤ 3 := by
 have := goals_len b
 unfold allL; split <;> simp <;> omega
theorem next_len (bs : List S50) (n : Int) : (nextL bs n).length ≤ 3 := by
 unfold nextL; split
 ·exact Nat.le_trans (List.length_filter_le _ _) (allL_len _)
 ·simp
def upTo (n : Nat) : List Int := (List.range n).map fun (j : Nat) => (j : Int)
theorem upTo_succ (n : Nat) : upTo (n + 1) = upTo n ++ [(n : Int)] := by simp [upTo, List.range_succ]
theorem mem_upTo {n : Nat} {x : Int} : x ∈ upTo n ↔ 0 ≤ x ∧ x < n := by
 simp only [upTo, List.mem_map, List.mem_range]
 constructor
 ·rintro ⟨j, h, rfl⟩; omega
 ·rintro ⟨h0, h1⟩; exact ⟨x.toNat, by omega, by omega⟩
theorem upTo_len (n : Nat) : (upTo n).length = n := by simp [upTo]
def predsL (bs : List S50) (n : Int) : List Int := (upTo bs.length).filter fun k => decide (n ∈ nextL bs k)
theorem mem_preds {bs : List S50} {n p : Int} : p ∈ predsL bs n ↔ n ∈ nextL bs p := by
 unfold predsL
 rw [List.mem_filter, mem_upTo, decide_eq_true_eq]
 exact ⟨fun h => h.2, fun h => ⟨(next_edges bs _ _ h).1, h⟩⟩
theorem preds_len (bs : List S50) (n : Int) : (predsL bs n).length ≤ bs.length := by
 unfold predsL
 exact Nat.le_trans (List.length_filter_le _ _) (by rw [upTo_len]; exact Nat.le_refl _)
theorem upTo_cut (n : Nat) (i : Int) (h0 : 0 ≤ i) (h1 : i < n) : (upTo n).drop i.toNat = i :: (upTo n).drop (i + 1).toNat := by
 have h : i.toNat < (upTo n).length := by rw [upTo_len]; omega
 rw [List.drop_eq_getElem_cons h]
 congr 1
 ·simp [upTo]; omega
 ·congr 1; omega
theorem before_l0 (a0 a1 : Int) (bs : List S50) (n : Int) (hl : bs.length ≤ 1000000) : ∀ (d : Nat) (i : Int) (out : List Int), 0 ≤ i → i + d = bs.length → out.length ≤ i.toNat →
  Evt (fun k => flow_Before.l0 k n out bs.length i a0 a1 bs) (out ++ ((upTo bs.length).drop i.toNat).filter fun k => decide (n ∈ nextL bs k))
 | 0, i, out, h0, h1, h2 => by
  refine Evt.succ ?_
  simp only [flow_Before.l0, if_neg (show ¬ i < (bs.length : Int) by omega)]
  rw [List.drop_eq_nil_of_le (by rw [upTo_len]; omega), List.filter_nil, List.append_nil]
  exact Evt.pure _
 | d + 1, i, out, h0, h1, h2 => by
  have hlt : i < (bs.length : Int) := by omega
  rw [upTo_cut _ _ h0 hlt]
  refine Evt.succ ?_
  simp only [flow_Before.l0, if_pos hlt, flow_Next.f, Option.bind_some, wrap64_small (i + 1) (by omega) (by omega), if_pos (show out.length < 17592186044416 by omega)]
  refine Evt.bind (contains_ev _ _ (by have := next_len bs i; omega)) ?_
  by_cases e : n ∈ nextL bs i
  ·simp only [decide_eq_true e, if_pos]
   have := before_l0 a0 a1 bs n hl d (i + 1) (out ++ [i]) (by omega) (by omega) (by simp; omega)
   rw [List.filter_cons, if_pos (decide_eq_true e)]
   rw [List.append_assoc] at this
   exact this
  ·simp only [decide_eq_false e, if_neg Bool.false_ne_true]
   have := before_l0 a0 a1 bs n hl d (i + 1) out (by omega) (by omega) (by omega)
   rw [List.filter_cons, if_neg (by simp [e])]
   exact this
theorem before_ev (a0 a1 : Int) (bs : List S50) (n : Int) (hl : bs.length ≤ 1000000) : Evt (fun k => flow_Before.f k a0 a1 bs n) (predsL bs n) := before_l0 a0 a1 bs n hl bs.length 0 [] (by omega) (by omega) (by simp)
end Go.Proofs.Ytilopoegoddggaa.X
