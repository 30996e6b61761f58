/- Part 17 of the proof of the statement PadsCatch: the words of the walks, the walks through the functions that it reaches, and the plain laws of what they compute. -/
import Derived.Test.YtbfialebaoeicaaMPadsCatch15
import Derived.RegionTactic
import Derived.ChangeAlike
import Derived.Deep.QuietTactic
import Derived.BigQuiet
namespace Go.Proofs.Ytbfialebaoeicaa.X
open Go.RowKit Go.Proofs.YtbfialebaoeicaaW.PrintWords Go.Proofs.YtbfialebaoeicaaW.PrintLast Go.Proofs.YtbfialebaoeicaaW.PrintMore
attribute [local go_sem] max2_int min2_int max_two min_two max_three min_three max_four min_four
set_option linter.all false
noncomputable section
mutual
def davitref02_SamePad.j0 : Nat → Bool → Int → List Int → Bool → Bool → Int → List Int → Bool → Bool → Option (Bool)
 | 0, _, _, _, _, _, _, _, _, _ => none
 | k + 1, x33, x225000, x225001, x225002, x225003, x226000, x226001, x226002, x226003 => if x33 = true then (some false) else (davitref02_SamePad.l0 k 0 x225000 x225001 x225002 x225003 x226000 x226001 x226002 x226003)
def davitref02_SamePad.l0 : Nat → Int → Int → List Int → Bool → Bool → Int → List Int → Bool → Bool → Option (Bool)
 | 0, _, _, _, _, _, _, _, _, _ => none
 | k + 1, x5, x225000, x225001, x225002, x225003, x226000, x226001, x226002, x226003 => if x5 < (x225001.length : Int) then (if 0 ≤ x5 then (if x5 < (x226001.length : Int) then (if (rd x225001 x5) = (rd x226001 x5) then (davitref02_SamePad.l0 k (wrap64 (x5 + 1)) x225000 x225001 x225002 x225003 x226000 x226001 x226002 x226003) else (some false)) else (none)) else (none)) else (some true)
end
def davitref02_SamePad.f (k : Nat) (a0_0 : Int) (l0_1 : List Int) (a0_2 : Bool) (a0_3 : Bool) (a1_0 : Int) (l1_1 : List Int) (a1_2 : Bool) (a1_3 : Bool) : Option (Bool) := if a0_0 = a1_0 then (if (a0_2 != a1_2) = true then (davitref02_SamePad.j0 k true a0_0 l0_1 a0_2 a0_3 a1_0 l1_1 a1_2 a1_3) else (if (a0_3 != a1_3) = true then (davitref02_SamePad.j0 k true a0_0 l0_1 a0_2 a0_3 a1_0 l1_1 a1_2 a1_3) else (davitref02_SamePad.j0 k ((l0_1.length : Int) != (l1_1.length : Int)) a0_0 l0_1 a0_2 a0_3 a1_0 l1_1 a1_2 a1_3))) else (davitref02_SamePad.j0 k true a0_0 l0_1 a0_2 a0_3 a1_0 l1_1 a1_2 a1_3)
theorem davitref02_SamePad.mono_l : ∀ k, (∀ y0 y1 y2 y3 y4 y5 y6 y7 y8, LeO (davitref02_SamePad.j0 k y0 y1 y2 y3 y4 y5 y6 y7 y8) (davitref02_SamePad.j0 (k + 1) y0 y1 y2 y3 y4 y5 y6 y7 y8)) ∧ (∀ y0 y1 y2 y3 y4 y5 y6 y7 y8, LeO (davitref02_SamePad.l0 k y0 y1 y2 y3 y4 y5 y6 y7 y8) (davitref02_SamePad.l0 (k + 1) y0 y1 y2 y3 y4 y5 y6 y7 y8))
 | 0 => ⟨fun _ _ _ _ _ _ _ _ _ r h => by simp [davitref02_SamePad.j0] at h, fun _ _ _ _ _ _ _ _ _ r h => by simp [davitref02_SamePad.l0] at h⟩
 | k + 1 => by
  obtain ⟨ih0, ih1⟩ := davitref02_SamePad.mono_l k
  refine ⟨?_, ?_⟩
  ·intro y0 y1 y2 y3 y4 y5 y6 y7 y8
   unfold davitref02_SamePad.j0
   repeat' first
   | (with_reducible exact ih0 _ _ _ _ _ _ _ _ _)
   | (with_reducible exact ih1 _ _ _ _ _ _ _ _ _)
   | (with_reducible exact LeO.refl _)
   | (with_reducible exact LeO.none _)
   | (with_reducible refine LeO.ite ?_ ?_)
   | (with_reducible refine LeO.bind ?_ (fun _ => ?_))
   | exact ih0 _ _ _ _ _ _ _ _ _
   | exact ih1 _ _ _ _ _ _ _ _ _
   | exact LeO.none _
   | refine LeO.ite ?_ ?_
   | refine LeO.bind ?_ (fun _ => ?_)
  ·intro y0 y1 y2 y3 y4 y5 y6 y7 y8
   unfold davitref02_SamePad.l0
   repeat' first
   | (with_reducible exact ih0 _ _ _ _ _ _ _ _ _)
   | (with_reducible exact ih1 _ _ _ _ _ _ _ _ _)
   | (with_reducible exact LeO.refl _)
   | (with_reducible exact LeO.none _)
   | (with_reducible refine LeO.ite ?_ ?_)
   | (with_reducible refine LeO.bind ?_ (fun _ => ?_))
   | exact ih0 _ _ _ _ _ _ _ _ _
   | exact ih1 _ _ _ _ _ _ _ _ _
   | exact LeO.none _
   | refine LeO.ite ?_ ?_
   | refine LeO.bind ?_ (fun _ => ?_)
theorem davitref02_SamePad.mono : ∀ a0 a1 a2 a3 a4 a5 a6 a7 k, LeO (davitref02_SamePad.f k a0 a1 a2 a3 a4 a5 a6 a7) (davitref02_SamePad.f (k + 1) a0 a1 a2 a3 a4 a5 a6 a7) := by
 intro a0 a1 a2 a3 a4 a5 a6 a7 k
 obtain ⟨ih0, ih1⟩ := davitref02_SamePad.mono_l k
 unfold davitref02_SamePad.f
 repeat' first
   | (with_reducible exact ih0 _ _ _ _ _ _ _ _ _)
   | (with_reducible exact ih1 _ _ _ _ _ _ _ _ _)
   | (with_reducible exact LeO.refl _)
   | (with_reducible exact LeO.none _)
   | (with_reducible refine LeO.ite ?_ ?_)
   | (with_reducible refine LeO.bind ?_ (fun _ => ?_))
   | exact ih0 _ _ _ _ _ _ _ _ _
   | exact ih1 _ _ _ _ _ _ _ _ _
   | exact LeO.none _
   | refine LeO.ite ?_ ?_
   | refine LeO.bind ?_ (fun _ => ?_)
set_option maxHeartbeats 8000000 in
set_option maxRecDepth 100000 in
theorem davitref02_SamePad.calls (k : Nat) (a0_0 : Int) (A0_1 : Option Addr) (c0_1 : Nat) (l0_1 : List Int) (a0_2 : Bool) (a0_3 : Bool) (a1_0 : Int) (A1_1 : Option Addr) (c1_1 : Nat) (l1_1 : List Int) (a1_2 : Bool) (a1_3 : Bool) (r : Bool) (w : World) (hr0_1 : Kd.C (Kd.int .u16) w A0_1 l0_1.length l0_1) (hc0_1 : l0_1.length ≤ c0_1) (hr1_1 : Kd.C (Kd.int .u16) w A1_1 l1_1.length l1_1) (hc1_1 : l1_1.length ≤ c1_1) (h : davitref02_SamePad.f k a0_0 l0_1 a0_2 a0_3 a1_0 l1_1 a1_2 a1_3 = some r) :
  Calls Try.prog 44 #[.agg #[.int .i64 a0_0, .slice A0_1 l0_1.length c0_1, .bool a0_2, .bool a0_3], .agg #[.int .i64 a1_0, .slice A1_1 l1_1.length c1_1, .bool a1_2, .bool a1_3]] w fun e w' => e = .returned (.bool r) ∧ Below w.heap.size w w' := by
 have hu35 := Try.underlying35
 have HR0_1 := Aside0.mk hr0_1
 have HC0_1 := Aside0.mk hc0_1
 clear hr0_1 hc0_1
 have HR1_1 := Aside0.mk hr1_1
 have HC1_1 := Aside0.mk hc1_1
 clear hr1_1 hc1_1
 have HB := Aside0.mk (Below.refl w.heap.size w)
 have H : (if a0_0 = a1_0 then (if (a0_2 != a1_2) = true then (davitref02_SamePad.j0 k true a0_0 l0_1 a0_2 a0_3 a1_0 l1_1 a1_2 a1_3) else (if (a0_3 != a1_3) = true then (davitref02_SamePad.j0 k true a0_0 l0_1 a0_2 a0_3 a1_0 l1_1 a1_2 a1_3) else (davitref02_SamePad.j0 k ((l0_1.length : Int) != (l1_1.length : Int)) a0_0 l0_1 a0_2 a0_3 a1_0 l1_1 a1_2 a1_3))) else (davitref02_SamePad.j0 k true a0_0 l0_1 a0_2 a0_3 a1_0 l1_1 a1_2 a1_3)) = some r := h
 clear h
 have HC3 := Aside0.mk H
 clear H
 go_enter Try.func44, Try.ntmps44
 go_upto_region 1 with (first | ((with_reducible refine gate_dst (N := 2) rfl ?_); (try (refine gate_guard (by rfl) ?_; dsimp only)); refine box_event ?hg (N := 2) ?hd (cs := #[.int .i64 a0_0, .slice A0_1 l0_1.length c0_1, .bool a0_2, .bool a0_3]) (t := 35) ?hr ?_; (case hd => rfl); (case hg => rfl); (case hr => first | (go_simp; done) | (go_simp; rfl)); intro gb224 hg w4 hbox hb; have n0_ := Aside0.mk (below_step (by repeat (first | (with_reducible first | exact HB.out | apply below_alloc | apply pw_below_drewN | apply below_drew1) | exact HB.out)) hb); have n1_ := Aside0.mk (hbox); have n2_ := Aside0.mk ((by rw [hg]; exact (below_size (by repeat (first | (with_reducible first | exact HB.out | apply below_alloc | apply pw_below_drewN | apply below_drew1) | exact HB.out))) : w.heap.size ≤ gb224)); have n3_ := Aside0.mk ((by rw [hg]; exact (below_size (by repeat (first | (with_reducible first | exact HB.out | apply below_alloc | apply pw_below_drewN | apply below_drew1) | exact HB.out))) : w.heap.size ≤ gb224)); clear HB; have HB := n0_; have BK224 := n1_; have GW224 := n2_; have GE224 := n3_; clear n0_ n1_ n2_ n3_; clear hb hbox hg) | ((with_reducible refine gate_dst (N := 3) rfl ?_); (try (refine gate_guard (by rfl) ?_; dsimp only)); refine box_event ?hg (N := 3) ?hd (cs := #[.int .i64 a1_0, .slice A1_1 l1_1.length c1_1, .bool a1_2, .bool a1_3]) (t := 35) ?hr ?_; (case hd => rfl); (case hg => rfl); (case hr => first | (go_simp; done) | (go_simp; rfl)); intro gb225 hg w5 hbox hb; have n0_ := Aside0.mk (blk_below (g := gb224) (o := .cells #[.int .i64 a0_0, .slice A0_1 l0_1.length c0_1, .bool a0_2, .bool a0_3] 35 (0, 0)) (by (with_reducible repeat (first | refine blk_drewN ?_ _ | refine blk_drew ?_ | refine blk_alloc ?_ _)); exact BK224.out) hb); have n1_ := Aside0.mk (below_step (by repeat (first | (with_reducible first | exact HB.out | apply below_alloc | apply pw_below_drewN | apply below_drew1 | refine below_set ?_ GE224.out) | exact HB.out)) hb); have n2_ := Aside0.mk (hbox); have n3_ := Aside0.mk ((by rw [hg]; exact (below_size (by repeat (first | (with_reducible first | exact HB.out | apply below_alloc | apply pw_below_drewN | apply below_drew1 | refine below_set ?_ GE224.out) | exact HB.out))) : w.heap.size ≤ gb225)); have n4_ := Aside0.mk ((by rw [hg]; exact (below_size (by repeat (first | (with_reducible first | exact HB.out | apply below_alloc | apply pw_below_drewN | apply below_drew1 | refine below_set ?_ GE224.out) | exact HB.out))) : w.heap.size ≤ gb225)); have n5_ := Aside0.mk ((by rw [hg]; exact Nat.ne_of_lt (blk_lt (g := gb224) (o := .cells #[.int .i64 a0_0, .slice A0_1 l0_1.length c0_1, .bool a0_2, .bool a0_3] 35 (0, 0)) (by (with_reducible repeat (first | refine blk_drewN ?_ _ | refine blk_drew ?_ | refine blk_alloc ?_ _)); exact BK224.out)) : gb224 ≠ gb225)); have n6_ := Aside0.mk ((by rw [hg]; exact Nat.ne_of_gt (blk_lt (g := gb224) (o := .cells #[.int .i64 a0_0, .slice A0_1 l0_1.length c0_1, .bool a0_2, .bool a0_3] 35 (0, 0)) (by (with_reducible repeat (first | refine blk_drewN ?_ _ | refine blk_drew ?_ | refine blk_alloc ?_ _)); exact BK224.out)) : gb225 ≠ gb224)); clear BK224; clear HB; have BK224 := n0_; have HB := n1_; have BK225 := n2_; have GW225 := n3_; have GE225 := n4_; have NB224_225 := n5_; have NB225_224 := n6_; clear n0_ n1_ n2_ n3_ n4_ n5_ n6_; clear hb hbox hg))
 repeat (go_quiet (first | ((with_reducible refine gate_dst (N := 2) rfl ?_); (try (refine gate_guard (by rfl) ?_; dsimp only)); refine box_event ?hg (N := 2) ?hd (cs := #[.int .i64 a0_0, .slice A0_1 l0_1.length c0_1, .bool a0_2, .bool a0_3]) (t := 35) ?hr ?_; (case hd => rfl); (case hg => rfl); (case hr => first | (go_simp; done) | (go_simp; rfl)); intro gb224 hg w4 hbox hb; have n0_ := Aside0.mk (below_step (by repeat (first | (with_reducible first | exact HB.out | apply below_alloc | apply pw_below_drewN | apply below_drew1) | exact HB.out)) hb); have n1_ := Aside0.mk (hbox); have n2_ := Aside0.mk ((by rw [hg]; exact (below_size (by repeat (first | (with_reducible first | exact HB.out | apply below_alloc | apply pw_below_drewN | apply below_drew1) | exact HB.out))) : w.heap.size ≤ gb224)); have n3_ := Aside0.mk ((by rw [hg]; exact (below_size (by repeat (first | (with_reducible first | exact HB.out | apply below_alloc | apply pw_below_drewN | apply below_drew1) | exact HB.out))) : w.heap.size ≤ gb224)); clear HB; have HB := n0_; have BK224 := n1_; have GW224 := n2_; have GE224 := n3_; clear n0_ n1_ n2_ n3_; clear hb hbox hg) | ((with_reducible refine gate_dst (N := 3) rfl ?_); (try (refine gate_guard (by rfl) ?_; dsimp only)); refine box_event ?hg (N := 3) ?hd (cs := #[.int .i64 a1_0, .slice A1_1 l1_1.length c1_1, .bool a1_2, .bool a1_3]) (t := 35) ?hr ?_; (case hd => rfl); (case hg => rfl); (case hr => first | (go_simp; done) | (go_simp; rfl)); intro gb225 hg w5 hbox hb; have n0_ := Aside0.mk (blk_below (g := gb224) (o := .cells #[.int .i64 a0_0, .slice A0_1 l0_1.length c0_1, .bool a0_2, .bool a0_3] 35 (0, 0)) (by (with_reducible repeat (first | refine blk_drewN ?_ _ | refine blk_drew ?_ | refine blk_alloc ?_ _)); exact BK224.out) hb); have n1_ := Aside0.mk (below_step (by repeat (first | (with_reducible first | exact HB.out | apply below_alloc | apply pw_below_drewN | apply below_drew1 | refine below_set ?_ GE224.out) | exact HB.out)) hb); have n2_ := Aside0.mk (hbox); have n3_ := Aside0.mk ((by rw [hg]; exact (below_size (by repeat (first | (with_reducible first | exact HB.out | apply below_alloc | apply pw_below_drewN | apply below_drew1 | refine below_set ?_ GE224.out) | exact HB.out))) : w.heap.size ≤ gb225)); have n4_ := Aside0.mk ((by rw [hg]; exact (below_size (by repeat (first | (with_reducible first | exact HB.out | apply below_alloc | apply pw_below_drewN | apply below_drew1 | refine below_set ?_ GE224.out) | exact HB.out))) : w.heap.size ≤ gb225)); have n5_ := Aside0.mk ((by rw [hg]; exact Nat.ne_of_lt (blk_lt (g := gb224) (o := .cells #[.int .i64 a0_0, .slice A0_1 l0_1.length c0_1, .bool a0_2, .bool a0_3] 35 (0, 0)) (by (with_reducible repeat (first | refine blk_drewN ?_ _ | refine blk_drew ?_ | refine blk_alloc ?_ _)); exact BK224.out)) : gb224 ≠ gb225)); have n6_ := Aside0.mk ((by rw [hg]; exact Nat.ne_of_gt (blk_lt (g := gb224) (o := .cells #[.int .i64 a0_0, .slice A0_1 l0_1.length c0_1, .bool a0_2, .bool a0_3] 35 (0, 0)) (by (with_reducible repeat (first | refine blk_drewN ?_ _ | refine blk_drew ?_ | refine blk_alloc ?_ _)); exact BK224.out)) : gb225 ≠ gb224)); clear BK224; clear HB; have BK224 := n0_; have HB := n1_; have BK225 := n2_; have GW225 := n3_; have GE225 := n4_; have NB224_225 := n5_; have NB225_224 := n6_; clear n0_ n1_ n2_ n3_ n4_ n5_ n6_; clear hb hbox hg)); go_upto_region 1 with (first | ((with_reducible refine gate_dst (N := 2) rfl ?_); (try (refine gate_guard (by rfl) ?_; dsimp only)); refine box_event ?hg (N := 2) ?hd (cs := #[.int .i64 a0_0, .slice A0_1 l0_1.length c0_1, .bool a0_2, .bool a0_3]) (t := 35) ?hr ?_; (case hd => rfl); (case hg => rfl); (case hr => first | (go_simp; done) | (go_simp; rfl)); intro gb224 hg w4 hbox hb; have n0_ := Aside0.mk (below_step (by repeat (first | (with_reducible first | exact HB.out | apply below_alloc | apply pw_below_drewN | apply below_drew1) | exact HB.out)) hb); have n1_ := Aside0.mk (hbox); have n2_ := Aside0.mk ((by rw [hg]; exact (below_size (by repeat (first | (with_reducible first | exact HB.out | apply below_alloc | apply pw_below_drewN | apply below_drew1) | exact HB.out))) : w.heap.size ≤ gb224)); have n3_ := Aside0.mk ((by rw [hg]; exact (below_size (by repeat (first | (with_reducible first | exact HB.out | apply below_alloc | apply pw_below_drewN | apply below_drew1) | exact HB.out))) : w.heap.size ≤ gb224)); clear HB; have HB := n0_; have BK224 := n1_; have GW224 := n2_; have GE224 := n3_; clear n0_ n1_ n2_ n3_; clear hb hbox hg) | ((with_reducible refine gate_dst (N := 3) rfl ?_); (try (refine gate_guard (by rfl) ?_; dsimp only)); refine box_event ?hg (N := 3) ?hd (cs := #[.int .i64 a1_0, .slice A1_1 l1_1.length c1_1, .bool a1_2, .bool a1_3]) (t := 35) ?hr ?_; (case hd => rfl); (case hg => rfl); (case hr => first | (go_simp; done) | (go_simp; rfl)); intro gb225 hg w5 hbox hb; have n0_ := Aside0.mk (blk_below (g := gb224) (o := .cells #[.int .i64 a0_0, .slice A0_1 l0_1.length c0_1, .bool a0_2, .bool a0_3] 35 (0, 0)) (by (with_reducible repeat (first | refine blk_drewN ?_ _ | refine blk_drew ?_ | refine blk_alloc ?_ _)); exact BK224.out) hb); have n1_ := Aside0.mk (below_step (by repeat (first | (with_reducible first | exact HB.out | apply below_alloc | apply pw_below_drewN | apply below_drew1 | refine below_set ?_ GE224.out) | exact HB.out)) hb); have n2_ := Aside0.mk (hbox); have n3_ := Aside0.mk ((by rw [hg]; exact (below_size (by repeat (first | (with_reducible first | exact HB.out | apply below_alloc | apply pw_below_drewN | apply below_drew1 | refine below_set ?_ GE224.out) | exact HB.out))) : w.heap.size ≤ gb225)); have n4_ := Aside0.mk ((by rw [hg]; exact (below_size (by repeat (first | (with_reducible first | exact HB.out | apply below_alloc | apply pw_below_drewN | apply below_drew1 | refine below_set ?_ GE224.out) | exact HB.out))) : w.heap.size ≤ gb225)); have n5_ := Aside0.mk ((by rw [hg]; exact Nat.ne_of_lt (blk_lt (g := gb224) (o := .cells #[.int .i64 a0_0, .slice A0_1 l0_1.length c0_1, .bool a0_2, .bool a0_3] 35 (0, 0)) (by (with_reducible repeat (first | refine blk_drewN ?_ _ | refine blk_drew ?_ | refine blk_alloc ?_ _)); exact BK224.out)) : gb224 ≠ gb225)); have n6_ := Aside0.mk ((by rw [hg]; exact Nat.ne_of_gt (blk_lt (g := gb224) (o := .cells #[.int .i64 a0_0, .slice A0_1 l0_1.length c0_1, .bool a0_2, .bool a0_3] 35 (0, 0)) (by (with_reducible repeat (first | refine blk_drewN ?_ _ | refine blk_drew ?_ | refine blk_alloc ?_ _)); exact BK224.out)) : gb225 ≠ gb224)); clear BK224; clear HB; have BK224 := n0_; have HB := n1_; have BK225 := n2_; have GW225 := n3_; have GE225 := n4_; have NB224_225 := n5_; have NB225_224 := n6_; clear n0_ n1_ n2_ n3_ n4_ n5_ n6_; clear hb hbox hg)))
 (try simp only [Act.put, List.setIfInBounds_toArray, List.set_cons_zero, List.set_cons_succ])
 go_cut [33] (fun v33 wc => ∃ (kq : Nat) (x33_2 : Bool), v33 = .bool x33_2 ∧ Aside0 (davitref02_SamePad.j0 kq x33_2 a0_0 l0_1 a0_2 a0_3 a1_0 l1_1 a1_2 a1_3 = some r) ∧ Aside0 (kq ≤ k) ∧ Aside0 (wc.heap[gb224]? = some (.cells #[.int .i64 a0_0, (.slice A0_1 l0_1.length c0_1), .bool a0_2, .bool a0_3] 35 (0, 0))) ∧ Aside0 (wc.heap[gb225]? = some (.cells #[.int .i64 a1_0, (.slice A1_1 l1_1.length c1_1), .bool a1_2, .bool a1_3] 35 (0, 0))) ∧ Aside0 (Below w.heap.size w wc))
 case first =>
  have H := HC3.out
  clear HC3
  by_cases c6 : a0_0 = a1_0
  ·rw [if_pos c6] at H
   have c6b0 : (a0_0 == a1_0) = true := beq_iff_eq.mpr c6
   have c6b1 : (a0_0 != a1_0) = false := bne_eq_false_iff_eq.mpr c6
   clear c6
   (first | rw [c6b0] | (simp only [i64_w, i32_w]; rw [c6b0]) | skip)
   by_cases c7 : (a0_2 != a1_2) = true
   ·rw [if_pos c7] at H
    have c7b0 : (a0_2 != a1_2) = true := c7
    (try (have c7b1 : decide (a0_2 = a1_2) = false := by simpa using c7))
    (try (have c7b2 : (a0_2 == a1_2) = false := by simpa using c7))
    (try (have c7b3 : ¬ (a0_2 = a1_2) := by simpa using c7))
    clear c7
    have H' := Aside0.mk H
    clear H
    have hnb8 := NB224_225.out
    have hnc8 := NB225_224.out
    have hcz9_0 : w5.cell? ⟨gb224, 0, none⟩ = some (.int .i64 a0_0) := (blk_cell BK224.out 0).trans rfl
    have hcz9_1 : w5.cell? ⟨gb224, 1, none⟩ = some (.slice A0_1 l0_1.length c0_1) := (blk_cell BK224.out 1).trans rfl
    have hcz9_2 : w5.cell? ⟨gb224, 2, none⟩ = some (.bool a0_2) := (blk_cell BK224.out 2).trans rfl
    have hcz9_3 : w5.cell? ⟨gb224, 3, none⟩ = some (.bool a0_3) := (blk_cell BK224.out 3).trans rfl
    have hfz9_0 := blk_frozen BK224.out 0
    have hfz9_1 := blk_frozen BK224.out 1
    have hfz9_2 := blk_frozen BK224.out 2
    have hfz9_3 := blk_frozen BK224.out 3
    have hcz10_0 : w5.cell? ⟨gb225, 0, none⟩ = some (.int .i64 a1_0) := (blk_cell BK225.out 0).trans rfl
    have hcz10_1 : w5.cell? ⟨gb225, 1, none⟩ = some (.slice A1_1 l1_1.length c1_1) := (blk_cell BK225.out 1).trans rfl
    have hcz10_2 : w5.cell? ⟨gb225, 2, none⟩ = some (.bool a1_2) := (blk_cell BK225.out 2).trans rfl
    have hcz10_3 : w5.cell? ⟨gb225, 3, none⟩ = some (.bool a1_3) := (blk_cell BK225.out 3).trans rfl
    have hfz10_0 := blk_frozen BK225.out 0
    have hfz10_1 := blk_frozen BK225.out 1
    have hfz10_2 := blk_frozen BK225.out 2
    have hfz10_3 := blk_frozen BK225.out 3
    go_wp2
    repeat (go_quiet (fail); try go_wp2)
    go_meet
    case rel => exact ⟨_, (true), (by first | rfl | (simp; done) | (simp [*]; done)), H', ⟨by first | omega | exact Nat.le_refl _⟩, ⟨by (with_reducible repeat (first | refine blk_drewN ?_ _ | refine blk_drew ?_ | refine blk_alloc ?_ _)); exact BK224.out⟩, ⟨by (with_reducible repeat (first | refine blk_drewN ?_ _ | refine blk_drew ?_ | refine blk_alloc ?_ _)); exact BK225.out⟩, ⟨by repeat (first | (with_reducible first | exact HB.out | apply below_alloc | apply pw_below_drewN | apply below_drew1 | refine below_set ?_ GE224.out | refine below_set ?_ GE225.out) | exact HB.out)⟩⟩
   ·rw [if_neg c7] at H
    have c7b0 : (a0_2 != a1_2) = false := by simpa using c7
    (try (have c7b1 : decide (a0_2 = a1_2) = true := by simpa using c7))
    (try (have c7b2 : (a0_2 == a1_2) = true := by simpa using c7))
    clear c7
    by_cases c11 : (a0_3 != a1_3) = true
    ·rw [if_pos c11] at H
     have c11b0 : (a0_3 != a1_3) = true := c11
     (try (have c11b1 : decide (a0_3 = a1_3) = false := by simpa using c11))
     (try (have c11b2 : (a0_3 == a1_3) = false := by simpa using c11))
     (try (have c11b3 : ¬ (a0_3 = a1_3) := by simpa using c11))
     clear c11
     have H' := Aside0.mk H
     clear H
     have hnb12 := NB224_225.out
     have hnc12 := NB225_224.out
     have hcz13_0 : w5.cell? ⟨gb224, 0, none⟩ = some (.int .i64 a0_0) := (blk_cell BK224.out 0).trans rfl
     have hcz13_1 : w5.cell? ⟨gb224, 1, none⟩ = some (.slice A0_1 l0_1.length c0_1) := (blk_cell BK224.out 1).trans rfl
     have hcz13_2 : w5.cell? ⟨gb224, 2, none⟩ = some (.bool a0_2) := (blk_cell BK224.out 2).trans rfl
     have hcz13_3 : w5.cell? ⟨gb224, 3, none⟩ = some (.bool a0_3) := (blk_cell BK224.out 3).trans rfl
     have hfz13_0 := blk_frozen BK224.out 0
     have hfz13_1 := blk_frozen BK224.out 1
     have hfz13_2 := blk_frozen BK224.out 2
     have hfz13_3 := blk_frozen BK224.out 3
     have hcz14_0 : w5.cell? ⟨gb225, 0, none⟩ = some (.int .i64 a1_0) := (blk_cell BK225.out 0).trans rfl
     have hcz14_1 : w5.cell? ⟨gb225, 1, none⟩ = some (.slice A1_1 l1_1.length c1_1) := (blk_cell BK225.out 1).trans rfl
     have hcz14_2 : w5.cell? ⟨gb225, 2, none⟩ = some (.bool a1_2) := (blk_cell BK225.out 2).trans rfl
     have hcz14_3 : w5.cell? ⟨gb225, 3, none⟩ = some (.bool a1_3) := (blk_cell BK225.out 3).trans rfl
     have hfz14_0 := blk_frozen BK225.out 0
     have hfz14_1 := blk_frozen BK225.out 1
     have hfz14_2 := blk_frozen BK225.out 2
     have hfz14_3 := blk_frozen BK225.out 3
     go_wp2
     repeat (go_quiet (fail); try go_wp2)
     go_meet
     case rel => exact ⟨_, (true), (by first | rfl | (simp; done) | (simp [*]; done)), H', ⟨by first | omega | exact Nat.le_refl _⟩, ⟨by (with_reducible repeat (first | refine blk_drewN ?_ _ | refine blk_drew ?_ | refine blk_alloc ?_ _)); exact BK224.out⟩, ⟨by (with_reducible repeat (first | refine blk_drewN ?_ _ | refine blk_drew ?_ | refine blk_alloc ?_ _)); exact BK225.out⟩, ⟨by repeat (first | (with_reducible first | exact HB.out | apply below_alloc | apply pw_below_drewN | apply below_drew1 | refine below_set ?_ GE224.out | refine below_set ?_ GE225.out) | exact HB.out)⟩⟩
    ·rw [if_neg c11] at H
     have c11b0 : (a0_3 != a1_3) = false := by simpa using c11
     (try (have c11b1 : decide (a0_3 = a1_3) = true := by simpa using c11))
     (try (have c11b2 : (a0_3 == a1_3) = true := by simpa using c11))
     clear c11
     have H' := Aside0.mk H
     clear H
     have hnb15 := NB224_225.out
     have hnc15 := NB225_224.out
     have hcz16_0 : w5.cell? ⟨gb224, 0, none⟩ = some (.int .i64 a0_0) := (blk_cell BK224.out 0).trans rfl
     have hcz16_1 : w5.cell? ⟨gb224, 1, none⟩ = some (.slice A0_1 l0_1.length c0_1) := (blk_cell BK224.out 1).trans rfl
     have hcz16_2 : w5.cell? ⟨gb224, 2, none⟩ = some (.bool a0_2) := (blk_cell BK224.out 2).trans rfl
     have hcz16_3 : w5.cell? ⟨gb224, 3, none⟩ = some (.bool a0_3) := (blk_cell BK224.out 3).trans rfl
     have hfz16_0 := blk_frozen BK224.out 0
     have hfz16_1 := blk_frozen BK224.out 1
     have hfz16_2 := blk_frozen BK224.out 2
     have hfz16_3 := blk_frozen BK224.out 3
     have hcz17_0 : w5.cell? ⟨gb225, 0, none⟩ = some (.int .i64 a1_0) := (blk_cell BK225.out 0).trans rfl
     have hcz17_1 : w5.cell? ⟨gb225, 1, none⟩ = some (.slice A1_1 l1_1.length c1_1) := (blk_cell BK225.out 1).trans rfl
     have hcz17_2 : w5.cell? ⟨gb225, 2, none⟩ = some (.bool a1_2) := (blk_cell BK225.out 2).trans rfl
     have hcz17_3 : w5.cell? ⟨gb225, 3, none⟩ = some (.bool a1_3) := (blk_cell BK225.out 3).trans rfl
     have hfz17_0 := blk_frozen BK225.out 0
     have hfz17_1 := blk_frozen BK225.out 1
     have hfz17_2 := blk_frozen BK225.out 2
     have hfz17_3 := blk_frozen BK225.out 3
     go_wp2
     repeat (go_quiet (fail); try go_wp2)
     go_meet
     case rel => exact ⟨_, (((l0_1.length : Int) != (l1_1.length : Int))), (by first | rfl | (simp; done) | (simp [*]; done)), H', ⟨by first | omega | exact Nat.le_refl _⟩, ⟨by (with_reducible repeat (first | refine blk_drewN ?_ _ | refine blk_drew ?_ | refine blk_alloc ?_ _)); exact BK224.out⟩, ⟨by (with_reducible repeat (first | refine blk_drewN ?_ _ | refine blk_drew ?_ | refine blk_alloc ?_ _)); exact BK225.out⟩, ⟨by repeat (first | (with_reducible first | exact HB.out | apply below_alloc | apply pw_below_drewN | apply below_drew1 | refine below_set ?_ GE224.out | refine below_set ?_ GE225.out) | exact HB.out)⟩⟩
  ·rw [if_neg c6] at H
   have c6b0 : (a0_0 == a1_0) = false := beq_eq_false_iff_ne.mpr c6
   have c6b1 : (a0_0 != a1_0) = true := bne_iff_ne.mpr c6
   (first | rw [c6b0] | (simp only [i64_w, i32_w]; rw [c6b0]) | skip)
   have H' := Aside0.mk H
   clear H
   have hnb18 := NB224_225.out
   have hnc18 := NB225_224.out
   have hcz19_0 : w5.cell? ⟨gb224, 0, none⟩ = some (.int .i64 a0_0) := (blk_cell BK224.out 0).trans rfl
   have hcz19_1 : w5.cell? ⟨gb224, 1, none⟩ = some (.slice A0_1 l0_1.length c0_1) := (blk_cell BK224.out 1).trans rfl
   have hcz19_2 : w5.cell? ⟨gb224, 2, none⟩ = some (.bool a0_2) := (blk_cell BK224.out 2).trans rfl
   have hcz19_3 : w5.cell? ⟨gb224, 3, none⟩ = some (.bool a0_3) := (blk_cell BK224.out 3).trans rfl
   have hfz19_0 := blk_frozen BK224.out 0
   have hfz19_1 := blk_frozen BK224.out 1
   have hfz19_2 := blk_frozen BK224.out 2
   have hfz19_3 := blk_frozen BK224.out 3
   have hcz20_0 : w5.cell? ⟨gb225, 0, none⟩ = some (.int .i64 a1_0) := (blk_cell BK225.out 0).trans rfl
   have hcz20_1 : w5.cell? ⟨gb225, 1, none⟩ = some (.slice A1_1 l1_1.length c1_1) := (blk_cell BK225.out 1).trans rfl
   have hcz20_2 : w5.cell? ⟨gb225, 2, none⟩ = some (.bool a1_2) := (blk_cell BK225.out 2).trans rfl
   have hcz20_3 : w5.cell? ⟨gb225, 3, none⟩ = some (.bool a1_3) := (blk_cell BK225.out 3).trans rfl
   have hfz20_0 := blk_frozen BK225.out 0
   have hfz20_1 := blk_frozen BK225.out 1
   have hfz20_2 := blk_frozen BK225.out 2
   have hfz20_3 := blk_frozen BK225.out 3
   go_wp2
   repeat (go_quiet (fail); try go_wp2)
   go_meet
   case rel => exact ⟨_, (true), (by first | rfl | (simp; done) | (simp [*]; done)), H', ⟨by first | omega | exact Nat.le_refl _⟩, ⟨by (with_reducible repeat (first | refine blk_drewN ?_ _ | refine blk_drew ?_ | refine blk_alloc ?_ _)); exact BK224.out⟩, ⟨by (with_reducible repeat (first | refine blk_drewN ?_ _ | refine blk_drew ?_ | refine blk_alloc ?_ _)); exact BK225.out⟩, ⟨by repeat (first | (with_reducible first | exact HB.out | apply below_alloc | apply pw_below_drewN | apply below_drew1 | refine below_set ?_ GE224.out | refine below_set ?_ GE225.out) | exact HB.out)⟩⟩
 case rest =>
  clear HC3
  try clear c1
  try clear p2
  try clear c4
  try clear c6
  try clear c6b0
  try clear c6b1
  try clear c7
  try clear c7b0
  try clear c7b1
  try clear c7b2
  try clear c8
  try clear c11
  try clear c11b0
  try clear c11b1
  try clear c11b2
  try clear c12
  try clear c15
  try clear c18
  try clear hcz10_0
  try clear hcz10_1
  try clear hcz10_2
  try clear hcz10_3
  try clear hcz13_0
  try clear hcz13_1
  try clear hcz13_2
  try clear hcz13_3
  try clear hcz14_0
  try clear hcz14_1
  try clear hcz14_2
  try clear hcz14_3
  try clear hcz16_0
  try clear hcz16_1
  try clear hcz16_2
  try clear hcz16_3
  try clear hcz17_0
  try clear hcz17_1
  try clear hcz17_2
  try clear hcz17_3
  try clear hcz19_0
  try clear hcz19_1
  try clear hcz19_2
  try clear hcz19_3
  try clear hcz20_0
  try clear hcz20_1
  try clear hcz20_2
  try clear hcz20_3
  try clear hcz9_0
  try clear hcz9_1
  try clear hcz9_2
  try clear hcz9_3
  try clear hfz10_0
  try clear hfz10_1
  try clear hfz10_2
  try clear hfz10_3
  try clear hfz13_0
  try clear hfz13_1
  try clear hfz13_2
  try clear hfz13_3
  try clear hfz14_0
  try clear hfz14_1
  try clear hfz14_2
  try clear hfz14_3
  try clear hfz16_0
  try clear hfz16_1
  try clear hfz16_2
  try clear hfz16_3
  try clear hfz17_0
  try clear hfz17_1
  try clear hfz17_2
  try clear hfz17_3
  try clear hfz19_0
  try clear hfz19_1
  try clear hfz19_2
  try clear hfz19_3
  try clear hfz20_0
  try clear hfz20_1
  try clear hfz20_2
  try clear hfz20_3
  try clear hfz9_0
  try clear hfz9_1
  try clear hfz9_2
  try clear hfz9_3
  obtain ⟨kq, x33_2, rfl, HA, HJ2, BK224, BK225, HB⟩ := hcut
  cases kq with
  | zero => exact absurd HA.out (by simp [davitref02_SamePad.j0])
  | succ kj2 =>
   have H := HA.out
   clear HA
   simp only [davitref02_SamePad.j0] at H
   by_cases c21 : x33_2 = true
   ·subst c21
    have H1 : (some false) = some r := by rw [if_pos rfl] at H; exact H
    clear H
    have H := H1
    clear H1
    obtain rfl := Option.some.inj H
    go_wp2
    repeat (go_quiet (fail); try go_wp2)
    go_ret
    exact ⟨by first | rfl | (simp [errW_none, errW_some] <;> rfl) | (simp [*, errW_none, errW_some] <;> rfl), by repeat (first | (with_reducible first | exact HB.out | apply below_alloc | apply pw_below_drewN | apply below_drew1 | refine below_set ?_ GE224.out | refine below_set ?_ GE225.out) | exact HB.out)⟩
   ·replace c21 := Bool.eq_false_iff.mpr c21
    subst c21
    have H1 : (davitref02_SamePad.l0 kj2 0 a0_0 l0_1 a0_2 a0_3 a1_0 l1_1 a1_2 a1_3) = some r := by rw [if_neg (show ¬ (false = true) by decide)] at H; exact H
    clear H
    have H := H1
    clear H1
    have H' := Aside0.mk H
    clear H
    go_wp2
    repeat (go_quiet (fail); try go_wp2)
    go_loopg [5] kj2 (fun kq v5 w' => ∃ (x5_2 : Int), v5 = .int .i64 x5_2 ∧ Aside0 (davitref02_SamePad.l0 kq x5_2 a0_0 l0_1 a0_2 a0_3 a1_0 l1_1 a1_2 a1_3 = some r) ∧ Aside0 (kq ≤ kj2) ∧ Aside0 (w'.heap[gb224]? = some (.cells #[.int .i64 a0_0, (.slice A0_1 l0_1.length c0_1), .bool a0_2, .bool a0_3] 35 (0, 0))) ∧ Aside0 (w'.heap[gb225]? = some (.cells #[.int .i64 a1_0, (.slice A1_1 l1_1.length c1_1), .bool a1_2, .bool a1_3] 35 (0, 0))) ∧ Aside0 (Below w.heap.size w w'))
    case atStart => exact ⟨(0), (by first | rfl | (simp; done) | (simp [*]; done)), H', ⟨Nat.le_refl _⟩, ⟨by (with_reducible repeat (first | refine blk_drewN ?_ _ | refine blk_drew ?_ | refine blk_alloc ?_ _)); exact BK224.out⟩, ⟨by (with_reducible repeat (first | refine blk_drewN ?_ _ | refine blk_drew ?_ | refine blk_alloc ?_ _)); exact BK225.out⟩, ⟨by repeat (first | (with_reducible first | exact HB.out | apply below_alloc | apply pw_below_drewN | apply below_drew1 | refine below_set ?_ GE224.out | refine below_set ?_ GE225.out) | exact HB.out)⟩⟩
    case round =>
     clear H'
     try clear c1
     try clear c2
     try clear p2
     try clear c4
     try clear c6
     try clear c6b0
     try clear c6b1
     try clear c7
     try clear c7b0
     try clear c7b1
     try clear c7b2
     try clear c8
     try clear c11
     try clear c11b0
     try clear c11b1
     try clear c11b2
     try clear c12
     try clear c15
     try clear c18
     try clear c21
     try clear hcz10_0
     try clear hcz10_1
     try clear hcz10_2
     try clear hcz10_3
     try clear hcz13_0
     try clear hcz13_1
     try clear hcz13_2
     try clear hcz13_3
     try clear hcz14_0
     try clear hcz14_1
     try clear hcz14_2
     try clear hcz14_3
     try clear hcz16_0
     try clear hcz16_1
     try clear hcz16_2
     try clear hcz16_3
     try clear hcz17_0
     try clear hcz17_1
     try clear hcz17_2
     try clear hcz17_3
     try clear hcz19_0
     try clear hcz19_1
     try clear hcz19_2
     try clear hcz19_3
     try clear hcz20_0
     try clear hcz20_1
     try clear hcz20_2
     try clear hcz20_3
     try clear hcz9_0
     try clear hcz9_1
     try clear hcz9_2
     try clear hcz9_3
     try clear hfz10_0
     try clear hfz10_1
     try clear hfz10_2
     try clear hfz10_3
     try clear hfz13_0
     try clear hfz13_1
     try clear hfz13_2
     try clear hfz13_3
     try clear hfz14_0
     try clear hfz14_1
     try clear hfz14_2
     try clear hfz14_3
     try clear hfz16_0
     try clear hfz16_1
     try clear hfz16_2
     try clear hfz16_3
     try clear hfz17_0
     try clear hfz17_1
     try clear hfz17_2
     try clear hfz17_3
     try clear hfz19_0
     try clear hfz19_1
     try clear hfz19_2
     try clear hfz19_3
     try clear hfz20_0
     try clear hfz20_1
     try clear hfz20_2
     try clear hfz20_3
     try clear hfz9_0
     try clear hfz9_1
     try clear hfz9_2
     try clear hfz9_3
     try clear p2
     obtain ⟨x5_2, rfl, HA, HK2, BK224, BK225, HB⟩ := hrel
     cases gk with
     | zero => exact absurd HA.out (by simp [davitref02_SamePad.l0])
     | succ k2 =>
      have H := HA.out
      clear HA
      simp only [davitref02_SamePad.l0] at H
      by_cases c22 : x5_2 < (l0_1.length : Int)
      ·rw [if_pos c22] at H
       have c22b0 : decide (x5_2 < (l0_1.length : Int)) = true := decide_eq_true c22
       clear c22
       by_cases c23 : 0 ≤ x5_2
       ·rw [if_pos c23] at H
        have c23b0 : decide (0 ≤ x5_2) = true := decide_eq_true c23
        clear c23
        by_cases c24 : x5_2 < (l1_1.length : Int)
        ·rw [if_pos c24] at H
         have c24b0 : decide (x5_2 < (l1_1.length : Int)) = true := decide_eq_true c24
         clear c24
         by_cases c25 : (rd l0_1 x5_2) = (rd l1_1 x5_2)
         ·rw [if_pos c25] at H
          have c25b0 : ((rd l0_1 x5_2) == (rd l1_1 x5_2)) = true := beq_iff_eq.mpr c25
          have c25b1 : ((rd l0_1 x5_2) != (rd l1_1 x5_2)) = false := bne_eq_false_iff_eq.mpr c25
          clear c25
          have H' := Aside0.mk H
          clear H
          have hnb26 := NB224_225.out
          have hnc26 := NB225_224.out
          have hcz27_0 : wr.cell? ⟨gb224, 0, none⟩ = some (.int .i64 a0_0) := (blk_cell BK224.out 0).trans rfl
          have hcz27_1 : wr.cell? ⟨gb224, 1, none⟩ = some (.slice A0_1 l0_1.length c0_1) := (blk_cell BK224.out 1).trans rfl
          have hcz27_2 : wr.cell? ⟨gb224, 2, none⟩ = some (.bool a0_2) := (blk_cell BK224.out 2).trans rfl
          have hcz27_3 : wr.cell? ⟨gb224, 3, none⟩ = some (.bool a0_3) := (blk_cell BK224.out 3).trans rfl
          have hfz27_0 := blk_frozen BK224.out 0
          have hfz27_1 := blk_frozen BK224.out 1
          have hfz27_2 := blk_frozen BK224.out 2
          have hfz27_3 := blk_frozen BK224.out 3
          have p226 : 0 ≤ (x5_2 : Int) := of_decide_eq_true (by first | (with_reducible assumption) | assumption)
          have q226 : x5_2 < (l0_1.length : Int) := of_decide_eq_true (by first | (with_reducible assumption) | assumption)
          obtain ⟨ad226, e226, hx226_0⟩ := Kd.at_int HR0_1.out x5_2 p226 q226
          cases e226
          replace hx226_0 := (HB.out.cell (World.block_lt_of_cell? w _ hx226_0)).trans hx226_0
          replace p226 := eq_true p226
          replace q226 := eq_true q226
          have hcz28_0 : wr.cell? ⟨gb225, 0, none⟩ = some (.int .i64 a1_0) := (blk_cell BK225.out 0).trans rfl
          have hcz28_1 : wr.cell? ⟨gb225, 1, none⟩ = some (.slice A1_1 l1_1.length c1_1) := (blk_cell BK225.out 1).trans rfl
          have hcz28_2 : wr.cell? ⟨gb225, 2, none⟩ = some (.bool a1_2) := (blk_cell BK225.out 2).trans rfl
          have hcz28_3 : wr.cell? ⟨gb225, 3, none⟩ = some (.bool a1_3) := (blk_cell BK225.out 3).trans rfl
          have hfz28_0 := blk_frozen BK225.out 0
          have hfz28_1 := blk_frozen BK225.out 1
          have hfz28_2 := blk_frozen BK225.out 2
          have hfz28_3 := blk_frozen BK225.out 3
          have p227 : 0 ≤ (x5_2 : Int) := of_decide_eq_true (by first | (with_reducible assumption) | assumption)
          have q227 : x5_2 < (l1_1.length : Int) := of_decide_eq_true (by first | (with_reducible assumption) | assumption)
          obtain ⟨ad227, e227, hx227_0⟩ := Kd.at_int HR1_1.out x5_2 p227 q227
          cases e227
          replace hx227_0 := (HB.out.cell (World.block_lt_of_cell? w _ hx227_0)).trans hx227_0
          replace p227 := eq_true p227
          replace q227 := eq_true q227
          go_wp2
          repeat (go_quiet (fail); try go_wp2)
          go_roundg k2
          case measure => have := HJ2.out; have := HK2.out; omega
          case rel => exact ⟨(wrap64 (x5_2 + 1)), (by first | rfl | (simp; done) | (simp [*]; done)), H', ⟨by have := HJ2.out; have := HK2.out; omega⟩, ⟨by (with_reducible repeat (first | refine blk_drewN ?_ _ | refine blk_drew ?_ | refine blk_alloc ?_ _)); exact BK224.out⟩, ⟨by (with_reducible repeat (first | refine blk_drewN ?_ _ | refine blk_drew ?_ | refine blk_alloc ?_ _)); exact BK225.out⟩, ⟨by repeat (first | (with_reducible first | exact HB.out | apply below_alloc | apply pw_below_drewN | apply below_drew1 | refine below_set ?_ GE224.out | refine below_set ?_ GE225.out) | exact HB.out)⟩⟩
         ·rw [if_neg c25] at H
          have c25b0 : ((rd l0_1 x5_2) == (rd l1_1 x5_2)) = false := beq_eq_false_iff_ne.mpr c25
          have c25b1 : ((rd l0_1 x5_2) != (rd l1_1 x5_2)) = true := bne_iff_ne.mpr c25
          obtain rfl := Option.some.inj H
          have hnb29 := NB224_225.out
          have hnc29 := NB225_224.out
          have hcz30_0 : wr.cell? ⟨gb224, 0, none⟩ = some (.int .i64 a0_0) := (blk_cell BK224.out 0).trans rfl
          have hcz30_1 : wr.cell? ⟨gb224, 1, none⟩ = some (.slice A0_1 l0_1.length c0_1) := (blk_cell BK224.out 1).trans rfl
          have hcz30_2 : wr.cell? ⟨gb224, 2, none⟩ = some (.bool a0_2) := (blk_cell BK224.out 2).trans rfl
          have hcz30_3 : wr.cell? ⟨gb224, 3, none⟩ = some (.bool a0_3) := (blk_cell BK224.out 3).trans rfl
          have hfz30_0 := blk_frozen BK224.out 0
          have hfz30_1 := blk_frozen BK224.out 1
          have hfz30_2 := blk_frozen BK224.out 2
          have hfz30_3 := blk_frozen BK224.out 3
          have p226 : 0 ≤ (x5_2 : Int) := of_decide_eq_true (by first | (with_reducible assumption) | assumption)
          have q226 : x5_2 < (l0_1.length : Int) := of_decide_eq_true (by first | (with_reducible assumption) | assumption)
          obtain ⟨ad226, e226, hx226_0⟩ := Kd.at_int HR0_1.out x5_2 p226 q226
          cases e226
          replace hx226_0 := (HB.out.cell (World.block_lt_of_cell? w _ hx226_0)).trans hx226_0
          replace p226 := eq_true p226
          replace q226 := eq_true q226
          have hcz31_0 : wr.cell? ⟨gb225, 0, none⟩ = some (.int .i64 a1_0) := (blk_cell BK225.out 0).trans rfl
          have hcz31_1 : wr.cell? ⟨gb225, 1, none⟩ = some (.slice A1_1 l1_1.length c1_1) := (blk_cell BK225.out 1).trans rfl
          have hcz31_2 : wr.cell? ⟨gb225, 2, none⟩ = some (.bool a1_2) := (blk_cell BK225.out 2).trans rfl
          have hcz31_3 : wr.cell? ⟨gb225, 3, none⟩ = some (.bool a1_3) := (blk_cell BK225.out 3).trans rfl
          have hfz31_0 := blk_frozen BK225.out 0
          have hfz31_1 := blk_frozen BK225.out 1
          have hfz31_2 := blk_frozen BK225.out 2
          have hfz31_3 := blk_frozen BK225.out 3
          have p227 : 0 ≤ (x5_2 : Int) := of_decide_eq_true (by first | (with_reducible assumption) | assumption)
          have q227 : x5_2 < (l1_1.length : Int) := of_decide_eq_true (by first | (with_reducible assumption) | assumption)
          obtain ⟨ad227, e227, hx227_0⟩ := Kd.at_int HR1_1.out x5_2 p227 q227
          cases e227
          replace hx227_0 := (HB.out.cell (World.block_lt_of_cell? w _ hx227_0)).trans hx227_0
          replace p227 := eq_true p227
          replace q227 := eq_true q227
          go_wp2
          repeat (go_quiet (fail); try go_wp2)
          go_ret
          exact ⟨by first | rfl | (simp [errW_none, errW_some] <;> rfl) | (simp [*, errW_none, errW_some] <;> rfl), by repeat (first | (with_reducible first | exact HB.out | apply below_alloc | apply pw_below_drewN | apply below_drew1 | refine below_set ?_ GE224.out | refine below_set ?_ GE225.out) | exact HB.out)⟩
        ·rw [if_neg c24] at H
         exact absurd H (by simp)
       ·rw [if_neg c23] at H
        exact absurd H (by simp)
      ·rw [if_neg c22] at H
       have c22b0 : decide (x5_2 < (l0_1.length : Int)) = false := decide_eq_false c22
       clear c22
       obtain rfl := Option.some.inj H
       have hnb32 := NB224_225.out
       have hnc32 := NB225_224.out
       have hcz33_0 : wr.cell? ⟨gb224, 0, none⟩ = some (.int .i64 a0_0) := (blk_cell BK224.out 0).trans rfl
       have hcz33_1 : wr.cell? ⟨gb224, 1, none⟩ = some (.slice A0_1 l0_1.length c0_1) := (blk_cell BK224.out 1).trans rfl
       have hcz33_2 : wr.cell? ⟨gb224, 2, none⟩ = some (.bool a0_2) := (blk_cell BK224.out 2).trans rfl
       have hcz33_3 : wr.cell? ⟨gb224, 3, none⟩ = some (.bool a0_3) := (blk_cell BK224.out 3).trans rfl
       have hfz33_0 := blk_frozen BK224.out 0
       have hfz33_1 := blk_frozen BK224.out 1
       have hfz33_2 := blk_frozen BK224.out 2
       have hfz33_3 := blk_frozen BK224.out 3
       go_wp2
       repeat (go_quiet (fail); try go_wp2)
       go_ret
       exact ⟨by first | rfl | (simp [errW_none, errW_some] <;> rfl) | (simp [*, errW_none, errW_some] <;> rfl), by repeat (first | (with_reducible first | exact HB.out | apply below_alloc | apply pw_below_drewN | apply below_drew1 | refine below_set ?_ GE224.out | refine below_set ?_ GE225.out) | exact HB.out)⟩
end
end Go.Proofs.Ytbfialebaoeicaa.X
namespace Go.Proofs.Ytbfialebaoeicaa.X
open Go.RowKit Go.Proofs.YtbfialebaoeicaaW.PrintWords Go.Proofs.YtbfialebaoeicaaW.PrintLast Go.Proofs.YtbfialebaoeicaaW.PrintMore
set_option linter.all false
theorem spad_l0 (d : Int) (l : List Int) (q s : Bool) (d' : Int) (r : List Int) (q' s' : Bool) (hn : l.length = r.length) (hm : l.length ≤ 1000000) : ∀ (k : Nat) (x : Int), 0 ≤ x → x + k = l.length → l.take x.toNat = r.take x.toNat →
  davitref02_SamePad.l0 (k + 1) x d l q s d' r q' s' = some (l == r)
 | 0, x, h0, h1, h2 => by
  rw [davitref02_SamePad.l0, if_neg (by omega), beq_iff_eq.2 (same_end l r x (by omega) hn h2)]
 | k + 1, x, h0, h1, h2 => by
  rw [davitref02_SamePad.l0, if_pos (by omega), if_pos h0, if_pos (by omega)]
  by_cases h3 : rd l x = rd r x
  ·rw [if_pos h3, wrap_in (x + 1) (by omega) (by omega)]
   exact spad_l0 d l q s d' r q' s' hn hm k (x + 1) (by omega) (by omega) (take_same l r 0 x h0 (by omega) hn h2 h3)
  ·rw [if_neg h3, beq_eq_false_iff_ne.2 (fun e => h3 (by rw [e]))]
theorem spad_f (a b : S35) (hm : a.f1.length ≤ 1000000) : davitref02_SamePad.f (a.f1.length + 2) a.f0 a.f1 a.f2 a.f3 b.f0 b.f1 b.f2 b.f3 = some (padE a b) := by
 unfold davitref02_SamePad.f padE
 by_cases h1 : a.f0 = b.f0
 ·rw [if_pos h1, beq_iff_eq.2 h1, Bool.true_and]
  cases h2 : (a.f2 != b.f2) with
  | true =>
   rw [if_pos rfl, davitref02_SamePad.j0, if_pos rfl, show (a.f2 == b.f2) = false by rw [bne] at h2; simpa using h2]
   simp
  | false =>
   rw [if_neg (by simp), show (a.f2 == b.f2) = true by rw [bne] at h2; simpa using h2]
   cases h3 : (a.f3 != b.f3) with
   | true =>
    rw [if_pos rfl, davitref02_SamePad.j0, if_pos rfl, show (a.f3 == b.f3) = false by rw [bne] at h3; simpa using h3]
    simp
   | false =>
    rw [if_neg (by simp), show (a.f3 == b.f3) = true by rw [bne] at h3; simpa using h3]
    by_cases h4 : a.f1.length = b.f1.length
    ·rw [show ((a.f1.length : Int) != (b.f1.length : Int)) = false from bne_eq_false_iff_eq.2 (by omega), davitref02_SamePad.j0, if_neg (by simp), spad_l0 a.f0 a.f1 a.f2 a.f3 b.f0 b.f1 b.f2 b.f3 h4 hm a.f1.length 0 (by omega) (by omega) (by simp), Bool.and_true, Bool.and_true]
    ·rw [show ((a.f1.length : Int) != (b.f1.length : Int)) = true from bne_iff_ne.2 (by omega), davitref02_SamePad.j0, if_pos rfl, show (a.f1 == b.f1) = false from beq_eq_false_iff_ne.2 (fun e => h4 (by rw [e]))]
     rfl
 ·rw [if_neg h1, beq_eq_false_iff_ne.2 h1, davitref02_SamePad.j0, if_pos rfl]
  rfl
theorem rpad_c (a : S35) (A : Option Addr) (c : Nat) (b : S35) (A' : Option Addr) (c' : Nat) (w : World) (hl : Kd.C (Kd.int .u16) w A a.f1.length a.f1) (hc : a.f1.length ≤ c) (hr : Kd.C (Kd.int .u16) w A' b.f1.length b.f1) (hc' : b.f1.length ≤ c') (hm : a.f1.length ≤ 1000000) :
  Calls Try.prog 44 #[.agg #[.int .i64 a.f0, .slice A a.f1.length c, .bool a.f2, .bool a.f3], .agg #[.int .i64 b.f0, .slice A' b.f1.length c', .bool b.f2, .bool b.f3]] w fun e w' => e = .returned (.bool (padE a b)) ∧ Below w.heap.size w w' :=
 davitref02_SamePad.calls (a.f1.length + 2) a.f0 A c a.f1 a.f2 a.f3 b.f0 A' c' b.f1 b.f2 b.f3 _ w hl hc hr hc' (spad_f a b hm)
end Go.Proofs.Ytbfialebaoeicaa.X
namespace Go.Proofs.Ytbfialebaoeicaa.X
open Go.RowKit Go.Proofs.YtbfialebaoeicaaW.PrintWords Go.Proofs.YtbfialebaoeicaaW.PrintLast Go.Proofs.YtbfialebaoeicaaW.PrintMore
set_option linter.all false
theorem padE_refl (a : S35) : padE a a = true := by unfold padE; simp
set_option maxHeartbeats 16000000 in
set_option maxRecDepth 100000 in
theorem pc1 (d : Int) (l : List Int) (cl : Bool) (A3 : Option Addr) (c3 : Nat) (v : Int) (w : World) (hl : Kd.C (Kd.int .u16) w A3 l.length l) (hc : l.length ≤ c3) :
  Calls Try.prog 13 #[.agg #[.int .i64 d, .slice A3 l.length c3, .bool true, .bool cl], .int .u16 v] w fun e w' => e = .returned (.bool true) ∧ Below w.heap.size w w' := by
 have HL := Aside0.mk hl
 have HC := Aside0.mk hc
 clear hl hc
 have hu35 := Try.underlying35
 by_cases q1 : (20 : Int) < (l.length : Int)
 ·have d1 : decide ((20 : Int) < (l.length : Int)) = true := decide_eq_true q1
  have d2 : decide (20 < l.length) = true := decide_eq_true (by omega)
  clear q1
  go_enter Try.func13, Try.ntmps13
  go_wp2_with (first | ((with_reducible refine gate_dst (N := 2) rfl ?_); refine box_event ?hg (N := 2) ?hd (cs := #[.int .i64 d, .slice A3 l.length c3, .bool true, .bool cl]) (t := 35) ?hr ?_; (case hd => rfl); (case hg => rfl); (case hr => first | (go_simp; done) | (go_simp; rfl)); intro g2 hg w2 hbox hb; have HB := Aside0.mk hb; have X2 := Aside0.mk hbox; clear hbox hb hg; have h0 := (blk_cell X2.out 0).trans rfl; have h1 := (blk_cell X2.out 1).trans rfl; have h2 := (blk_cell X2.out 2).trans rfl; have h3 := (blk_cell X2.out 3).trans rfl) | (go_at_call 40; go_loud ((with_reducible refine (awake15_c _).mono ?_); rintro e w8 ⟨rfl, hb⟩; clear h0 h1 h2 h3; have n0_ := Aside0.mk (below_step HB.out hb); have n1_ := Aside0.mk (blk_below X2.out hb); clear HB X2; have HB := n0_; have X2 := n1_; clear n0_ n1_; clear hb; have h0 := (blk_cell X2.out 0).trans rfl; have h1 := (blk_cell X2.out 1).trans rfl; have h2 := (blk_cell X2.out 2).trans rfl; have h3 := (blk_cell X2.out 3).trans rfl)))
  go_ret
  exact ⟨rfl, HB.out⟩
 have d1 : decide ((20 : Int) < (l.length : Int)) = false := decide_eq_false q1
 have d2 : decide (20 < l.length) = false := decide_eq_false (by omega)
 have HN := Aside0.mk (show l.length ≤ 20 by omega)
 clear q1
 go_enter Try.func13, Try.ntmps13
 go_upto_region 5 with (first | ((with_reducible refine gate_dst (N := 2) rfl ?_); refine box_event ?hg (N := 2) ?hd (cs := #[.int .i64 d, .slice A3 l.length c3, .bool true, .bool cl]) (t := 35) ?hr ?_; (case hd => rfl); (case hg => rfl); (case hr => first | (go_simp; done) | (go_simp; rfl)); intro g2 hg w2 hbox hb; have HB := Aside0.mk hb; have X2 := Aside0.mk hbox; clear hbox hb hg; have h0 := (blk_cell X2.out 0).trans rfl; have h1 := (blk_cell X2.out 1).trans rfl; have h2 := (blk_cell X2.out 2).trans rfl; have h3 := (blk_cell X2.out 3).trans rfl) | (go_at_call 40; go_loud ((with_reducible refine (awake15_c _).mono ?_); rintro e w8 ⟨rfl, hb⟩; clear h0 h1 h2 h3; have n0_ := Aside0.mk (below_step HB.out hb); have n1_ := Aside0.mk (blk_below X2.out hb); clear HB X2; have HB := n0_; have X2 := n1_; clear n0_ n1_; clear hb; have h0 := (blk_cell X2.out 0).trans rfl; have h1 := (blk_cell X2.out 1).trans rfl; have h2 := (blk_cell X2.out 2).trans rfl; have h3 := (blk_cell X2.out 3).trans rfl)))
 go_cut [5] (fun v5 wc => ∃ (g5 : Nat) (D : Option Addr) (k : Nat), v5 = .pointer (some ⟨g5, 0, none⟩) ∧ Aside0 (Below w.heap.size w wc) ∧ Aside0 (wc.heap[g2]? = some (.cells #[.int .i64 d, .slice A3 l.length c3, .bool true, .bool cl] 35 (0, 0))) ∧ Aside0 (wc.heap[g5]? = some (.cells #[.int .i64 d, .slice D 0 k, .bool true, .bool false] 35 (0, 0))) ∧ Aside0 (0 ≤ k ∧ Kd.C (Kd.int .u16) wc D [].length []))
 case first =>
  go_wp2_with (go_at_call 45; go_loud (refine (trim_c (⟨d, l, true, cl⟩ : S35) A3 c3 _ (Kd.C_below HL.out HB.out) HC.out (by show l.length ≤ 1000; have := HN.out; omega)).mono ?_; rintro e w6 ⟨⟨v6, he, hr⟩, hb⟩; obtain ⟨D, k, rfl, hlk, hCk⟩ := Kd.R_reads hr; have he2 : e = .returned (.agg #[.int .i64 d, .slice D 0 k, .bool true, .bool false]) := he; subst he2; have HCK := Aside0.mk (And.intro hlk hCk); have HB6 := Aside0.mk hb; clear he hr hb hlk hCk))
  go_meet
  exact ⟨_, D, k, rfl, ⟨below_alloc (HB.out.trans (HB6.out.mono HB.out.size)) _⟩, ⟨blk_alloc (blk_below X2.out HB6.out) _⟩, ⟨blk_new _ _⟩, ⟨HCK.out.1, Kd.C_below HCK.out.2 (below_alloc (Below.refl _ _) _)⟩⟩
 case rest =>
  clear h0 h1 h2 h3
  clear HB X2 d1 d2
  obtain ⟨g5, D, k, rfl, HB, X2, X5, HQ⟩ := hcut
  go_wp2
  refine start_ (S := (fun W : World => Below wc.heap.size wc W)) (ds := []) #[false, false, false, false, false, false, false, false, false, false, false, false, false, false, false, false, false, false, false, false, false, false, false, false, false, false, false, false, false, false, false, false, false, false, false, false, false, false, false, false, false, false, false, false, false, false] (by kernel_rfl) (by rfl) (by rfl) (below_drew (Below.refl _ _)) (fun hS => ?_)
  refine take_ (i := 0) (N := some 14) (v := .agg #[.int .i64 d, .slice D 0 k, .bool true, .bool false]) (a' := ?axpc11) #[true, false, false, false, false, false, false, false, false, false, false, false, false, false, false, false, false, false, false, false, false, false, false, false, false, false, false, false, false, false, false, false, false, false, false, false, false, false, false, false, false, false, false, false, false, false] rfl rfl (by kernel_rfl) (fun _ _ _ h => h) (Or.inl ⟨by rfl, ?yypc11⟩) hS ?hapc11 ?hhpc11
  case yypc11 => intro W hW; have p0 := (blk_cell (blk_below X2.out hW) 0).trans rfl; have p1 := (blk_cell (blk_below X2.out hW) 1).trans rfl; have p2 := (blk_cell (blk_below X2.out hW) 2).trans rfl; have p3 := (blk_cell (blk_below X2.out hW) 3).trans rfl; have q0 := (blk_cell (blk_below X5.out hW) 0).trans rfl; have q1 := (blk_cell (blk_below X5.out hW) 1).trans rfl; have q2 := (blk_cell (blk_below X5.out hW) 2).trans rfl; have q3 := (blk_cell (blk_below X5.out hW) 3).trans rfl; go_simp; done
  case hapc11 => try simp only [Act.put, List.setIfInBounds_toArray, List.set_cons_zero, List.set_cons_succ]; exact rfl
  refine take_ (i := 1) (N := some 15) (v := .int .u16 v) (a' := ?axpc12) #[true, true, false, false, false, false, false, false, false, false, false, false, false, false, false, false, false, false, false, false, false, false, false, false, false, false, false, false, false, false, false, false, false, false, false, false, false, false, false, false, false, false, false, false, false, false] rfl rfl (by kernel_rfl) (fun _ _ _ h => h) (Or.inl ⟨by rfl, ?yypc12⟩) hS ?hapc12 ?hhpc12
  case yypc12 => intro W hW; have p0 := (blk_cell (blk_below X2.out hW) 0).trans rfl; have p1 := (blk_cell (blk_below X2.out hW) 1).trans rfl; have p2 := (blk_cell (blk_below X2.out hW) 2).trans rfl; have p3 := (blk_cell (blk_below X2.out hW) 3).trans rfl; have q0 := (blk_cell (blk_below X5.out hW) 0).trans rfl; have q1 := (blk_cell (blk_below X5.out hW) 1).trans rfl; have q2 := (blk_cell (blk_below X5.out hW) 2).trans rfl; have q3 := (blk_cell (blk_below X5.out hW) 3).trans rfl; go_simp; done
  case hapc12 => try simp only [Act.put, List.setIfInBounds_toArray, List.set_cons_zero, List.set_cons_succ]; exact rfl
  refine take_ (i := 3) (N := some 17) (v := .agg #[.int .i64 d, .slice A3 l.length c3, .bool true, .bool cl]) (a' := ?axpc13) #[true, true, false, true, false, false, false, false, false, false, false, false, false, false, false, false, false, false, false, false, false, false, false, false, false, false, false, false, false, false, false, false, false, false, false, false, false, false, false, false, false, false, false, false, false, false] rfl rfl (by kernel_rfl) (fun _ _ _ h => h) (Or.inl ⟨by rfl, ?yypc13⟩) hS ?hapc13 ?hhpc13
  case yypc13 => intro W hW; have p0 := (blk_cell (blk_below X2.out hW) 0).trans rfl; have p1 := (blk_cell (blk_below X2.out hW) 1).trans rfl; have p2 := (blk_cell (blk_below X2.out hW) 2).trans rfl; have p3 := (blk_cell (blk_below X2.out hW) 3).trans rfl; have q0 := (blk_cell (blk_below X5.out hW) 0).trans rfl; have q1 := (blk_cell (blk_below X5.out hW) 1).trans rfl; have q2 := (blk_cell (blk_below X5.out hW) 2).trans rfl; have q3 := (blk_cell (blk_below X5.out hW) 3).trans rfl; go_simp; done
  case hapc13 => try simp only [Act.put, List.setIfInBounds_toArray, List.set_cons_zero, List.set_cons_succ]; exact rfl
  refine take_ (i := 4) (N := some 18) (v := .int .u16 v) (a' := ?axpc14) #[true, true, false, true, true, false, false, false, false, false, false, false, false, false, false, false, false, false, false, false, false, false, false, false, false, false, false, false, false, false, false, false, false, false, false, false, false, false, false, false, false, false, false, false, false, false] rfl rfl (by kernel_rfl) (fun _ _ _ h => h) (Or.inl ⟨by rfl, ?yypc14⟩) hS ?hapc14 ?hhpc14
  case yypc14 => intro W hW; have p0 := (blk_cell (blk_below X2.out hW) 0).trans rfl; have p1 := (blk_cell (blk_below X2.out hW) 1).trans rfl; have p2 := (blk_cell (blk_below X2.out hW) 2).trans rfl; have p3 := (blk_cell (blk_below X2.out hW) 3).trans rfl; have q0 := (blk_cell (blk_below X5.out hW) 0).trans rfl; have q1 := (blk_cell (blk_below X5.out hW) 1).trans rfl; have q2 := (blk_cell (blk_below X5.out hW) 2).trans rfl; have q3 := (blk_cell (blk_below X5.out hW) 3).trans rfl; go_simp; done
  case hapc14 => try simp only [Act.put, List.setIfInBounds_toArray, List.set_cons_zero, List.set_cons_succ]; exact rfl
  refine one_ (i := 2) (N := some 16) #[true, true, true, true, true, false, false, false, false, false, false, false, false, false, false, false, false, false, false, false, false, false, false, false, false, false, false, false, false, false, false, false, false, false, false, false, false, false, false, false, false, false, false, false, false, false] rfl rfl (by kernel_rfl) (by decide) (fun K hK => ?_)
  refine goes_ Try.func31 (by kernel_rfl) rfl #[.agg #[.int .i64 d, .slice D 0 k, .bool true, .bool false], .int .u16 v] (by rfl) rfl rfl (by simp only [List.map_toArray, List.map_cons, List.map_nil]; rfl) ?_
  refine (catch_c (⟨d, [], true, false⟩ : S35) D k v _ (Kd.C_below HQ.out.2 hS) HQ.out.1 (by show 0 ≤ _; have := HN.out; omega)).mono ?_
  rintro e w7 ⟨he, hb⟩
  have he2 : e = .returned (.bool true) := he
  subst he2
  refine ⟨_, rfl, ?_⟩
  have hS' := hS.trans (hb.mono hS.size)
  clear hb
  refine hK _ _ hS' (fun hS => ?_)
  clear hK K
  try simp only [Act.put, List.setIfInBounds_toArray, List.set_cons_zero, List.set_cons_succ]
  refine one_ (i := 5) (N := some 19) #[true, true, true, true, true, true, false, false, false, false, false, false, false, false, false, false, false, false, false, false, false, false, false, false, false, false, false, false, false, false, false, false, false, false, false, false, false, false, false, false, false, false, false, false, false, false] rfl rfl (by kernel_rfl) (by decide) (fun K hK => ?_)
  refine goes_ Try.func32 (by kernel_rfl) rfl #[.agg #[.int .i64 d, .slice A3 l.length c3, .bool true, .bool cl], .int .u16 v] (by rfl) rfl rfl (by simp only [List.map_toArray, List.map_cons, List.map_nil]; rfl) ?_
  refine (rcatch_c (⟨d, l, true, cl⟩ : S35) A3 c3 v _ (Kd.C_below HL.out (HB.out.trans (hS.mono HB.out.size))) HC.out (by show l.length ≤ _; have := HN.out; omega)).mono ?_
  rintro e w7 ⟨he, hb⟩
  have he2 : e = .returned (.bool true) := he
  subst he2
  refine ⟨_, rfl, ?_⟩
  have hS' := hS.trans (hb.mono hS.size)
  clear hb
  refine hK _ _ hS' (fun hS => ?_)
  clear hK K
  try simp only [Act.put, List.setIfInBounds_toArray, List.set_cons_zero, List.set_cons_succ]
  refine take_ (i := 6) (N := some 20) (v := .bool true) (a' := ?axpc15) #[true, true, true, true, true, true, true, false, false, false, false, false, false, false, false, false, false, false, false, false, false, false, false, false, false, false, false, false, false, false, false, false, false, false, false, false, false, false, false, false, false, false, false, false, false, false] rfl rfl (by kernel_rfl) (fun _ _ _ h => h) (Or.inl ⟨by rfl, ?yypc15⟩) hS ?hapc15 ?hhpc15
  case yypc15 => intro W hW; have p0 := (blk_cell (blk_below X2.out hW) 0).trans rfl; have p1 := (blk_cell (blk_below X2.out hW) 1).trans rfl; have p2 := (blk_cell (blk_below X2.out hW) 2).trans rfl; have p3 := (blk_cell (blk_below X2.out hW) 3).trans rfl; have q0 := (blk_cell (blk_below X5.out hW) 0).trans rfl; have q1 := (blk_cell (blk_below X5.out hW) 1).trans rfl; have q2 := (blk_cell (blk_below X5.out hW) 2).trans rfl; have q3 := (blk_cell (blk_below X5.out hW) 3).trans rfl; go_simp; done
  case hapc15 => try simp only [Act.put, List.setIfInBounds_toArray, List.set_cons_zero, List.set_cons_succ]; exact rfl
  refine take_ (i := 7) (N := some 21) (v := .bool true) (a' := ?axpc16) #[true, true, true, true, true, true, true, true, false, false, false, false, false, false, false, false, false, false, false, false, false, false, false, false, false, false, false, false, false, false, false, false, false, false, false, false, false, false, false, false, false, false, false, false, false, false] rfl rfl (by kernel_rfl) (fun _ _ _ h => h) (Or.inl ⟨by rfl, ?yypc16⟩) hS ?hapc16 ?hhpc16
  case yypc16 => intro W hW; have p0 := (blk_cell (blk_below X2.out hW) 0).trans rfl; have p1 := (blk_cell (blk_below X2.out hW) 1).trans rfl; have p2 := (blk_cell (blk_below X2.out hW) 2).trans rfl; have p3 := (blk_cell (blk_below X2.out hW) 3).trans rfl; have q0 := (blk_cell (blk_below X5.out hW) 0).trans rfl; have q1 := (blk_cell (blk_below X5.out hW) 1).trans rfl; have q2 := (blk_cell (blk_below X5.out hW) 2).trans rfl; have q3 := (blk_cell (blk_below X5.out hW) 3).trans rfl; go_simp; done
  case hapc16 => try simp only [Act.put, List.setIfInBounds_toArray, List.set_cons_zero, List.set_cons_succ]; exact rfl
  refine take_ (i := 8) (N := some 22) (v := .agg #[.int .i64 d, .slice D 0 k, .bool true, .bool false]) (a' := ?axpc17) #[true, true, true, true, true, true, true, true, true, false, false, false, false, false, false, false, false, false, false, false, false, false, false, false, false, false, false, false, false, false, false, false, false, false, false, false, false, false, false, false, false, false, false, false, false, false] rfl rfl (by kernel_rfl) (fun _ _ _ h => h) (Or.inl ⟨by rfl, ?yypc17⟩) hS ?hapc17 ?hhpc17
  case yypc17 => intro W hW; have p0 := (blk_cell (blk_below X2.out hW) 0).trans rfl; have p1 := (blk_cell (blk_below X2.out hW) 1).trans rfl; have p2 := (blk_cell (blk_below X2.out hW) 2).trans rfl; have p3 := (blk_cell (blk_below X2.out hW) 3).trans rfl; have q0 := (blk_cell (blk_below X5.out hW) 0).trans rfl; have q1 := (blk_cell (blk_below X5.out hW) 1).trans rfl; have q2 := (blk_cell (blk_below X5.out hW) 2).trans rfl; have q3 := (blk_cell (blk_below X5.out hW) 3).trans rfl; go_simp; done
  case hapc17 => try simp only [Act.put, List.setIfInBounds_toArray, List.set_cons_zero, List.set_cons_succ]; exact rfl
  refine take_ (i := 10) (N := some 24) (v := .agg #[.int .i64 d, .slice D 0 k, .bool true, .bool false]) (a' := ?axpc18) #[true, true, true, true, true, true, true, true, true, false, true, false, false, false, false, false, false, false, false, false, false, false, false, false, false, false, false, false, false, false, false, false, false, false, false, false, false, false, false, false, false, false, false, false, false, false] rfl rfl (by kernel_rfl) (fun _ _ _ h => h) (Or.inl ⟨by rfl, ?yypc18⟩) hS ?hapc18 ?hhpc18
  case yypc18 => intro W hW; have p0 := (blk_cell (blk_below X2.out hW) 0).trans rfl; have p1 := (blk_cell (blk_below X2.out hW) 1).trans rfl; have p2 := (blk_cell (blk_below X2.out hW) 2).trans rfl; have p3 := (blk_cell (blk_below X2.out hW) 3).trans rfl; have q0 := (blk_cell (blk_below X5.out hW) 0).trans rfl; have q1 := (blk_cell (blk_below X5.out hW) 1).trans rfl; have q2 := (blk_cell (blk_below X5.out hW) 2).trans rfl; have q3 := (blk_cell (blk_below X5.out hW) 3).trans rfl; go_simp; done
  case hapc18 => try simp only [Act.put, List.setIfInBounds_toArray, List.set_cons_zero, List.set_cons_succ]; exact rfl
  refine one_ (i := 9) (N := some 23) #[true, true, true, true, true, true, true, true, true, true, true, false, false, false, false, false, false, false, false, false, false, false, false, false, false, false, false, false, false, false, false, false, false, false, false, false, false, false, false, false, false, false, false, false, false, false] rfl rfl (by kernel_rfl) (by decide) (fun K hK => ?_)
  refine goes_ Try.func45 (by kernel_rfl) rfl #[.agg #[.int .i64 d, .slice D 0 k, .bool true, .bool false]] (by rfl) rfl rfl (by simp only [List.map_toArray, List.map_cons, List.map_nil]; rfl) ?_
  refine (trim_c (⟨d, [], true, false⟩ : S35) D k _ (Kd.C_below HQ.out.2 hS) HQ.out.1 (by show 0 ≤ 1000; have := HN.out; omega)).mono ?_
  rintro e w6 ⟨⟨v6, he, hr⟩, hb⟩
  obtain ⟨D2, k2, rfl, hlk2, hCk2⟩ := Kd.R_reads hr
  have he2 : e = .returned (.agg #[.int .i64 d, .slice D2 0 k2, .bool true, .bool false]) := he
  subst he2
  refine ⟨_, rfl, ?_⟩
  have hS' := hS.trans (hb.mono hS.size)
  have HC2 := Aside0.mk (show 0 ≤ k2 ∧ Kd.C (Kd.int .u16) w6 D2 [].length [] from ⟨hlk2, hCk2⟩)
  have HB6 := Aside0.mk (Below.refl w6.heap.size w6)
  clear hr hlk2 hCk2 he
  clear hb
  refine hK _ _ hS' (fun hS => ?_)
  clear hK K
  try simp only [Act.put, List.setIfInBounds_toArray, List.set_cons_zero, List.set_cons_succ]
  refine one_ (i := 11) (N := some 25) #[true, true, true, true, true, true, true, true, true, true, true, true, false, false, false, false, false, false, false, false, false, false, false, false, false, false, false, false, false, false, false, false, false, false, false, false, false, false, false, false, false, false, false, false, false, false] rfl rfl (by kernel_rfl) (by decide) (fun K hK => ?_)
  refine goes_ Try.func44 (by kernel_rfl) rfl #[.agg #[.int .i64 d, .slice D2 0 k2, .bool true, .bool false], .agg #[.int .i64 d, .slice D 0 k, .bool true, .bool false]] (by rfl) rfl rfl (by simp only [List.map_toArray, List.map_cons, List.map_nil]; rfl) ?_
  refine (rpad_c (⟨d, [], true, false⟩ : S35) D2 k2 (⟨d, [], true, false⟩ : S35) D k _ HC2.out.2 HC2.out.1 (Kd.C_below HQ.out.2 hS) HQ.out.1 (by show 0 ≤ _; have := HN.out; omega)).mono ?_
  rintro e w7 ⟨he, hb⟩
  rw [padE_refl] at he
  subst he
  refine ⟨_, rfl, ?_⟩
  have hS' := hS.trans (hb.mono hS.size)
  clear hb
  refine hK _ _ hS' (fun hS => ?_)
  clear hK K
  try simp only [Act.put, List.setIfInBounds_toArray, List.set_cons_zero, List.set_cons_succ]
  refine take_ (i := 12) (N := some 26) (v := .bool true) (a' := ?axpc19) #[true, true, true, true, true, true, true, true, true, true, true, true, true, false, false, false, false, false, false, false, false, false, false, false, false, false, false, false, false, false, false, false, false, false, false, false, false, false, false, false, false, false, false, false, false, false] rfl rfl (by kernel_rfl) (fun _ _ _ h => h) (Or.inl ⟨by rfl, ?yypc19⟩) hS ?hapc19 ?hhpc19
  case yypc19 => intro W hW; have p0 := (blk_cell (blk_below X2.out hW) 0).trans rfl; have p1 := (blk_cell (blk_below X2.out hW) 1).trans rfl; have p2 := (blk_cell (blk_below X2.out hW) 2).trans rfl; have p3 := (blk_cell (blk_below X2.out hW) 3).trans rfl; have q0 := (blk_cell (blk_below X5.out hW) 0).trans rfl; have q1 := (blk_cell (blk_below X5.out hW) 1).trans rfl; have q2 := (blk_cell (blk_below X5.out hW) 2).trans rfl; have q3 := (blk_cell (blk_below X5.out hW) 3).trans rfl; go_simp; done
  case hapc19 => try simp only [Act.put, List.setIfInBounds_toArray, List.set_cons_zero, List.set_cons_succ]; exact rfl
  refine take_ (i := 13) (N := some 27) (v := .bool true) (a' := ?axpc110) #[true, true, true, true, true, true, true, true, true, true, true, true, true, true, false, false, false, false, false, false, false, false, false, false, false, false, false, false, false, false, false, false, false, false, false, false, false, false, false, false, false, false, false, false, false, false] rfl rfl (by kernel_rfl) (fun _ _ _ h => h) (Or.inl ⟨by rfl, ?yypc110⟩) hS ?hapc110 ?hhpc110
  case yypc110 => intro W hW; have p0 := (blk_cell (blk_below X2.out hW) 0).trans rfl; have p1 := (blk_cell (blk_below X2.out hW) 1).trans rfl; have p2 := (blk_cell (blk_below X2.out hW) 2).trans rfl; have p3 := (blk_cell (blk_below X2.out hW) 3).trans rfl; have q0 := (blk_cell (blk_below X5.out hW) 0).trans rfl; have q1 := (blk_cell (blk_below X5.out hW) 1).trans rfl; have q2 := (blk_cell (blk_below X5.out hW) 2).trans rfl; have q3 := (blk_cell (blk_below X5.out hW) 3).trans rfl; go_simp; done
  case hapc110 => try simp only [Act.put, List.setIfInBounds_toArray, List.set_cons_zero, List.set_cons_succ]; exact rfl
  refine take_ (i := 14) (N := some 28) (v := .pointer (some ⟨g5, 2, none⟩)) (a' := ?axpc111) #[true, true, true, true, true, true, true, true, true, true, true, true, true, true, true, false, false, false, false, false, false, false, false, false, false, false, false, false, false, false, false, false, false, false, false, false, false, false, false, false, false, false, false, false, false, false] rfl rfl (by kernel_rfl) (fun _ _ _ h => h) (Or.inl ⟨by rfl, ?yypc111⟩) hS ?hapc111 ?hhpc111
  case yypc111 => intro W hW; have p0 := (blk_cell (blk_below X2.out hW) 0).trans rfl; have p1 := (blk_cell (blk_below X2.out hW) 1).trans rfl; have p2 := (blk_cell (blk_below X2.out hW) 2).trans rfl; have p3 := (blk_cell (blk_below X2.out hW) 3).trans rfl; have q0 := (blk_cell (blk_below X5.out hW) 0).trans rfl; have q1 := (blk_cell (blk_below X5.out hW) 1).trans rfl; have q2 := (blk_cell (blk_below X5.out hW) 2).trans rfl; have q3 := (blk_cell (blk_below X5.out hW) 3).trans rfl; go_simp; done
  case hapc111 => try simp only [Act.put, List.setIfInBounds_toArray, List.set_cons_zero, List.set_cons_succ]; exact rfl
  refine take_ (i := 15) (N := some 29) (v := .bool true) (a' := ?axpc112) #[true, true, true, true, true, true, true, true, true, true, true, true, true, true, true, true, false, false, false, false, false, false, false, false, false, false, false, false, false, false, false, false, false, false, false, false, false, false, false, false, false, false, false, false, false, false] rfl rfl (by kernel_rfl) (fun _ _ _ h => h) (Or.inl ⟨by rfl, ?yypc112⟩) hS ?hapc112 ?hhpc112
  case yypc112 => intro W hW; have p0 := (blk_cell (blk_below X2.out hW) 0).trans rfl; have p1 := (blk_cell (blk_below X2.out hW) 1).trans rfl; have p2 := (blk_cell (blk_below X2.out hW) 2).trans rfl; have p3 := (blk_cell (blk_below X2.out hW) 3).trans rfl; have q0 := (blk_cell (blk_below X5.out hW) 0).trans rfl; have q1 := (blk_cell (blk_below X5.out hW) 1).trans rfl; have q2 := (blk_cell (blk_below X5.out hW) 2).trans rfl; have q3 := (blk_cell (blk_below X5.out hW) 3).trans rfl; go_simp; done
  case hapc112 => try simp only [Act.put, List.setIfInBounds_toArray, List.set_cons_zero, List.set_cons_succ]; exact rfl
  refine take_ (i := 16) (N := some 30) (v := .bool false) (a' := ?axpc113) #[true, true, true, true, true, true, true, true, true, true, true, true, true, true, true, true, true, false, false, false, false, false, false, false, false, false, false, false, false, false, false, false, false, false, false, false, false, false, false, false, false, false, false, false, false, false] rfl rfl (by kernel_rfl) (fun _ _ _ h => h) (Or.inl ⟨by rfl, ?yypc113⟩) hS ?hapc113 ?hhpc113
  case yypc113 => intro W hW; have p0 := (blk_cell (blk_below X2.out hW) 0).trans rfl; have p1 := (blk_cell (blk_below X2.out hW) 1).trans rfl; have p2 := (blk_cell (blk_below X2.out hW) 2).trans rfl; have p3 := (blk_cell (blk_below X2.out hW) 3).trans rfl; have q0 := (blk_cell (blk_below X5.out hW) 0).trans rfl; have q1 := (blk_cell (blk_below X5.out hW) 1).trans rfl; have q2 := (blk_cell (blk_below X5.out hW) 2).trans rfl; have q3 := (blk_cell (blk_below X5.out hW) 3).trans rfl; go_simp; done
  case hapc113 => try simp only [Act.put, List.setIfInBounds_toArray, List.set_cons_zero, List.set_cons_succ]; exact rfl
  refine take_ (i := 17) (N := some 31) (v := .bool false) (a' := ?axpc114) #[true, true, true, true, true, true, true, true, true, true, true, true, true, true, true, true, true, true, false, false, false, false, false, false, false, false, false, false, false, false, false, false, false, false, false, false, false, false, false, false, false, false, false, false, false, false] rfl rfl (by kernel_rfl) (fun _ _ _ h => h) (Or.inl ⟨by rfl, ?yypc114⟩) hS ?hapc114 ?hhpc114
  case yypc114 => intro W hW; have p0 := (blk_cell (blk_below X2.out hW) 0).trans rfl; have p1 := (blk_cell (blk_below X2.out hW) 1).trans rfl; have p2 := (blk_cell (blk_below X2.out hW) 2).trans rfl; have p3 := (blk_cell (blk_below X2.out hW) 3).trans rfl; have q0 := (blk_cell (blk_below X5.out hW) 0).trans rfl; have q1 := (blk_cell (blk_below X5.out hW) 1).trans rfl; have q2 := (blk_cell (blk_below X5.out hW) 2).trans rfl; have q3 := (blk_cell (blk_below X5.out hW) 3).trans rfl; go_simp; done
  case hapc114 => try simp only [Act.put, List.setIfInBounds_toArray, List.set_cons_zero, List.set_cons_succ]; exact rfl
  refine take_ (i := 18) (N := some 32) (v := .pointer (some ⟨g5, 1, none⟩)) (a' := ?axpc115) #[true, true, true, true, true, true, true, true, true, true, true, true, true, true, true, true, true, true, true, false, false, false, false, false, false, false, false, false, false, false, false, false, false, false, false, false, false, false, false, false, false, false, false, false, false, false] rfl rfl (by kernel_rfl) (fun _ _ _ h => h) (Or.inl ⟨by rfl, ?yypc115⟩) hS ?hapc115 ?hhpc115
  case yypc115 => intro W hW; have p0 := (blk_cell (blk_below X2.out hW) 0).trans rfl; have p1 := (blk_cell (blk_below X2.out hW) 1).trans rfl; have p2 := (blk_cell (blk_below X2.out hW) 2).trans rfl; have p3 := (blk_cell (blk_below X2.out hW) 3).trans rfl; have q0 := (blk_cell (blk_below X5.out hW) 0).trans rfl; have q1 := (blk_cell (blk_below X5.out hW) 1).trans rfl; have q2 := (blk_cell (blk_below X5.out hW) 2).trans rfl; have q3 := (blk_cell (blk_below X5.out hW) 3).trans rfl; go_simp; done
  case hapc115 => try simp only [Act.put, List.setIfInBounds_toArray, List.set_cons_zero, List.set_cons_succ]; exact rfl
  refine take_ (i := 19) (N := some 33) (v := .slice D 0 k) (a' := ?axpc116) #[true, true, true, true, true, true, true, true, true, true, true, true, true, true, true, true, true, true, true, true, false, false, false, false, false, false, false, false, false, false, false, false, false, false, false, false, false, false, false, false, false, false, false, false, false, false] rfl rfl (by kernel_rfl) (fun _ _ _ h => h) (Or.inl ⟨by rfl, ?yypc116⟩) hS ?hapc116 ?hhpc116
  case yypc116 => intro W hW; have p0 := (blk_cell (blk_below X2.out hW) 0).trans rfl; have p1 := (blk_cell (blk_below X2.out hW) 1).trans rfl; have p2 := (blk_cell (blk_below X2.out hW) 2).trans rfl; have p3 := (blk_cell (blk_below X2.out hW) 3).trans rfl; have q0 := (blk_cell (blk_below X5.out hW) 0).trans rfl; have q1 := (blk_cell (blk_below X5.out hW) 1).trans rfl; have q2 := (blk_cell (blk_below X5.out hW) 2).trans rfl; have q3 := (blk_cell (blk_below X5.out hW) 3).trans rfl; go_simp; done
  case hapc116 => try simp only [Act.put, List.setIfInBounds_toArray, List.set_cons_zero, List.set_cons_succ]; exact rfl
  refine take_ (i := 20) (N := some 34) (v := .int .i64 0) (a' := ?axpc117) #[true, true, true, true, true, true, true, true, true, true, true, true, true, true, true, true, true, true, true, true, true, false, false, false, false, false, false, false, false, false, false, false, false, false, false, false, false, false, false, false, false, false, false, false, false, false] rfl rfl (by kernel_rfl) (fun _ _ _ h => h) (Or.inl ⟨by rfl, ?yypc117⟩) hS ?hapc117 ?hhpc117
  case yypc117 => intro W hW; have p0 := (blk_cell (blk_below X2.out hW) 0).trans rfl; have p1 := (blk_cell (blk_below X2.out hW) 1).trans rfl; have p2 := (blk_cell (blk_below X2.out hW) 2).trans rfl; have p3 := (blk_cell (blk_below X2.out hW) 3).trans rfl; have q0 := (blk_cell (blk_below X5.out hW) 0).trans rfl; have q1 := (blk_cell (blk_below X5.out hW) 1).trans rfl; have q2 := (blk_cell (blk_below X5.out hW) 2).trans rfl; have q3 := (blk_cell (blk_below X5.out hW) 3).trans rfl; go_simp; done
  case hapc117 => try simp only [Act.put, List.setIfInBounds_toArray, List.set_cons_zero, List.set_cons_succ]; exact rfl
  refine take_ (i := 21) (N := some 35) (v := .bool true) (a' := ?axpc118) #[true, true, true, true, true, true, true, true, true, true, true, true, true, true, true, true, true, true, true, true, true, true, false, false, false, false, false, false, false, false, false, false, false, false, false, false, false, false, false, false, false, false, false, false, false, false] rfl rfl (by kernel_rfl) (fun _ _ _ h => h) (Or.inl ⟨by rfl, ?yypc118⟩) hS ?hapc118 ?hhpc118
  case yypc118 => intro W hW; have p0 := (blk_cell (blk_below X2.out hW) 0).trans rfl; have p1 := (blk_cell (blk_below X2.out hW) 1).trans rfl; have p2 := (blk_cell (blk_below X2.out hW) 2).trans rfl; have p3 := (blk_cell (blk_below X2.out hW) 3).trans rfl; have q0 := (blk_cell (blk_below X5.out hW) 0).trans rfl; have q1 := (blk_cell (blk_below X5.out hW) 1).trans rfl; have q2 := (blk_cell (blk_below X5.out hW) 2).trans rfl; have q3 := (blk_cell (blk_below X5.out hW) 3).trans rfl; go_simp; done
  case hapc118 => try simp only [Act.put, List.setIfInBounds_toArray, List.set_cons_zero, List.set_cons_succ]; exact rfl
  refine take_ (i := 22) (N := some 36) (v := .bool true) (a' := ?axpc119) #[true, true, true, true, true, true, true, true, true, true, true, true, true, true, true, true, true, true, true, true, true, true, true, false, false, false, false, false, false, false, false, false, false, false, false, false, false, false, false, false, false, false, false, false, false, false] rfl rfl (by kernel_rfl) (fun _ _ _ h => h) (Or.inl ⟨by rfl, ?yypc119⟩) hS ?hapc119 ?hhpc119
  case yypc119 => intro W hW; have p0 := (blk_cell (blk_below X2.out hW) 0).trans rfl; have p1 := (blk_cell (blk_below X2.out hW) 1).trans rfl; have p2 := (blk_cell (blk_below X2.out hW) 2).trans rfl; have p3 := (blk_cell (blk_below X2.out hW) 3).trans rfl; have q0 := (blk_cell (blk_below X5.out hW) 0).trans rfl; have q1 := (blk_cell (blk_below X5.out hW) 1).trans rfl; have q2 := (blk_cell (blk_below X5.out hW) 2).trans rfl; have q3 := (blk_cell (blk_below X5.out hW) 3).trans rfl; go_simp; done
  case hapc119 => try simp only [Act.put, List.setIfInBounds_toArray, List.set_cons_zero, List.set_cons_succ]; exact rfl
  refine take_ (i := 23) (N := some 37) (v := .pointer (some ⟨g5, 3, none⟩)) (a' := ?axpc120) #[true, true, true, true, true, true, true, true, true, true, true, true, true, true, true, true, true, true, true, true, true, true, true, true, false, false, false, false, false, false, false, false, false, false, false, false, false, false, false, false, false, false, false, false, false, false] rfl rfl (by kernel_rfl) (fun _ _ _ h => h) (Or.inl ⟨by rfl, ?yypc120⟩) hS ?hapc120 ?hhpc120
  case yypc120 => intro W hW; have p0 := (blk_cell (blk_below X2.out hW) 0).trans rfl; have p1 := (blk_cell (blk_below X2.out hW) 1).trans rfl; have p2 := (blk_cell (blk_below X2.out hW) 2).trans rfl; have p3 := (blk_cell (blk_below X2.out hW) 3).trans rfl; have q0 := (blk_cell (blk_below X5.out hW) 0).trans rfl; have q1 := (blk_cell (blk_below X5.out hW) 1).trans rfl; have q2 := (blk_cell (blk_below X5.out hW) 2).trans rfl; have q3 := (blk_cell (blk_below X5.out hW) 3).trans rfl; go_simp; done
  case hapc120 => try simp only [Act.put, List.setIfInBounds_toArray, List.set_cons_zero, List.set_cons_succ]; exact rfl
  refine take_ (i := 24) (N := some 38) (v := .bool false) (a' := ?axpc121) #[true, true, true, true, true, true, true, true, true, true, true, true, true, true, true, true, true, true, true, true, true, true, true, true, true, false, false, false, false, false, false, false, false, false, false, false, false, false, false, false, false, false, false, false, false, false] rfl rfl (by kernel_rfl) (fun _ _ _ h => h) (Or.inl ⟨by rfl, ?yypc121⟩) hS ?hapc121 ?hhpc121
  case yypc121 => intro W hW; have p0 := (blk_cell (blk_below X2.out hW) 0).trans rfl; have p1 := (blk_cell (blk_below X2.out hW) 1).trans rfl; have p2 := (blk_cell (blk_below X2.out hW) 2).trans rfl; have p3 := (blk_cell (blk_below X2.out hW) 3).trans rfl; have q0 := (blk_cell (blk_below X5.out hW) 0).trans rfl; have q1 := (blk_cell (blk_below X5.out hW) 1).trans rfl; have q2 := (blk_cell (blk_below X5.out hW) 2).trans rfl; have q3 := (blk_cell (blk_below X5.out hW) 3).trans rfl; go_simp; done
  case hapc121 => try simp only [Act.put, List.setIfInBounds_toArray, List.set_cons_zero, List.set_cons_succ]; exact rfl
  refine take_ (i := 25) (N := some 39) (v := .bool true) (a' := ?axpc122) #[true, true, true, true, true, true, true, true, true, true, true, true, true, true, true, true, true, true, true, true, true, true, true, true, true, true, false, false, false, false, false, false, false, false, false, false, false, false, false, false, false, false, false, false, false, false] rfl rfl (by kernel_rfl) (fun _ _ _ h => h) (Or.inl ⟨by rfl, ?yypc122⟩) hS ?hapc122 ?hhpc122
  case yypc122 => intro W hW; have p0 := (blk_cell (blk_below X2.out hW) 0).trans rfl; have p1 := (blk_cell (blk_below X2.out hW) 1).trans rfl; have p2 := (blk_cell (blk_below X2.out hW) 2).trans rfl; have p3 := (blk_cell (blk_below X2.out hW) 3).trans rfl; have q0 := (blk_cell (blk_below X5.out hW) 0).trans rfl; have q1 := (blk_cell (blk_below X5.out hW) 1).trans rfl; have q2 := (blk_cell (blk_below X5.out hW) 2).trans rfl; have q3 := (blk_cell (blk_below X5.out hW) 3).trans rfl; go_simp; done
  case hapc122 => try simp only [Act.put, List.setIfInBounds_toArray, List.set_cons_zero, List.set_cons_succ]; exact rfl
  refine take_ (i := 26) (N := some 40) (v := .bool true) (a' := ?axpc123) #[true, true, true, true, true, true, true, true, true, true, true, true, true, true, true, true, true, true, true, true, true, true, true, true, true, true, true, false, false, false, false, false, false, false, false, false, false, false, false, false, false, false, false, false, false, false] rfl rfl (by kernel_rfl) (fun _ _ _ h => h) (Or.inl ⟨by rfl, ?yypc123⟩) hS ?hapc123 ?hhpc123
  case yypc123 => intro W hW; have p0 := (blk_cell (blk_below X2.out hW) 0).trans rfl; have p1 := (blk_cell (blk_below X2.out hW) 1).trans rfl; have p2 := (blk_cell (blk_below X2.out hW) 2).trans rfl; have p3 := (blk_cell (blk_below X2.out hW) 3).trans rfl; have q0 := (blk_cell (blk_below X5.out hW) 0).trans rfl; have q1 := (blk_cell (blk_below X5.out hW) 1).trans rfl; have q2 := (blk_cell (blk_below X5.out hW) 2).trans rfl; have q3 := (blk_cell (blk_below X5.out hW) 3).trans rfl; go_simp; done
  case hapc123 => try simp only [Act.put, List.setIfInBounds_toArray, List.set_cons_zero, List.set_cons_succ]; exact rfl
  refine take_ (i := 27) (N := some 41) (v := .bool true) (a' := ?axpc124) #[true, true, true, true, true, true, true, true, true, true, true, true, true, true, true, true, true, true, true, true, true, true, true, true, true, true, true, true, false, false, false, false, false, false, false, false, false, false, false, false, false, false, false, false, false, false] rfl rfl (by kernel_rfl) (fun _ _ _ h => h) (Or.inl ⟨by rfl, ?yypc124⟩) hS ?hapc124 ?hhpc124
  case yypc124 => intro W hW; have p0 := (blk_cell (blk_below X2.out hW) 0).trans rfl; have p1 := (blk_cell (blk_below X2.out hW) 1).trans rfl; have p2 := (blk_cell (blk_below X2.out hW) 2).trans rfl; have p3 := (blk_cell (blk_below X2.out hW) 3).trans rfl; have q0 := (blk_cell (blk_below X5.out hW) 0).trans rfl; have q1 := (blk_cell (blk_below X5.out hW) 1).trans rfl; have q2 := (blk_cell (blk_below X5.out hW) 2).trans rfl; have q3 := (blk_cell (blk_below X5.out hW) 3).trans rfl; go_simp; done
  case hapc124 => try simp only [Act.put, List.setIfInBounds_toArray, List.set_cons_zero, List.set_cons_succ]; exact rfl
  refine take_ (i := 28) (N := some 42) (v := .bool true) (a' := ?axpc125) #[true, true, true, true, true, true, true, true, true, true, true, true, true, true, true, true, true, true, true, true, true, true, true, true, true, true, true, true, true, false, false, false, false, false, false, false, false, false, false, false, false, false, false, false, false, false] rfl rfl (by kernel_rfl) (fun _ _ _ h => h) (Or.inl ⟨by rfl, ?yypc125⟩) hS ?hapc125 ?hhpc125
  case yypc125 => intro W hW; have p0 := (blk_cell (blk_below X2.out hW) 0).trans rfl; have p1 := (blk_cell (blk_below X2.out hW) 1).trans rfl; have p2 := (blk_cell (blk_below X2.out hW) 2).trans rfl; have p3 := (blk_cell (blk_below X2.out hW) 3).trans rfl; have q0 := (blk_cell (blk_below X5.out hW) 0).trans rfl; have q1 := (blk_cell (blk_below X5.out hW) 1).trans rfl; have q2 := (blk_cell (blk_below X5.out hW) 2).trans rfl; have q3 := (blk_cell (blk_below X5.out hW) 3).trans rfl; go_simp; done
  case hapc125 => try simp only [Act.put, List.setIfInBounds_toArray, List.set_cons_zero, List.set_cons_succ]; exact rfl
  refine take_ (i := 29) (N := some 43) (v := .bool true) (a' := ?axpc126) #[true, true, true, true, true, true, true, true, true, true, true, true, true, true, true, true, true, true, true, true, true, true, true, true, true, true, true, true, true, true, false, false, false, false, false, false, false, false, false, false, false, false, false, false, false, false] rfl rfl (by kernel_rfl) (fun _ _ _ h => h) (Or.inl ⟨by rfl, ?yypc126⟩) hS ?hapc126 ?hhpc126
  case yypc126 => intro W hW; have p0 := (blk_cell (blk_below X2.out hW) 0).trans rfl; have p1 := (blk_cell (blk_below X2.out hW) 1).trans rfl; have p2 := (blk_cell (blk_below X2.out hW) 2).trans rfl; have p3 := (blk_cell (blk_below X2.out hW) 3).trans rfl; have q0 := (blk_cell (blk_below X5.out hW) 0).trans rfl; have q1 := (blk_cell (blk_below X5.out hW) 1).trans rfl; have q2 := (blk_cell (blk_below X5.out hW) 2).trans rfl; have q3 := (blk_cell (blk_below X5.out hW) 3).trans rfl; go_simp; done
  case hapc126 => try simp only [Act.put, List.setIfInBounds_toArray, List.set_cons_zero, List.set_cons_succ]; exact rfl
  refine take_ (i := 30) (N := some 44) (v := .pointer (some ⟨g5, 0, none⟩)) (a' := ?axpc127) #[true, true, true, true, true, true, true, true, true, true, true, true, true, true, true, true, true, true, true, true, true, true, true, true, true, true, true, true, true, true, true, false, false, false, false, false, false, false, false, false, false, false, false, false, false, false] rfl rfl (by kernel_rfl) (fun _ _ _ h => h) (Or.inl ⟨by rfl, ?yypc127⟩) hS ?hapc127 ?hhpc127
  case yypc127 => intro W hW; have p0 := (blk_cell (blk_below X2.out hW) 0).trans rfl; have p1 := (blk_cell (blk_below X2.out hW) 1).trans rfl; have p2 := (blk_cell (blk_below X2.out hW) 2).trans rfl; have p3 := (blk_cell (blk_below X2.out hW) 3).trans rfl; have q0 := (blk_cell (blk_below X5.out hW) 0).trans rfl; have q1 := (blk_cell (blk_below X5.out hW) 1).trans rfl; have q2 := (blk_cell (blk_below X5.out hW) 2).trans rfl; have q3 := (blk_cell (blk_below X5.out hW) 3).trans rfl; go_simp; done
  case hapc127 => try simp only [Act.put, List.setIfInBounds_toArray, List.set_cons_zero, List.set_cons_succ]; exact rfl
  refine take_ (i := 31) (N := some 45) (v := .int .i64 d) (a' := ?axpc128) #[true, true, true, true, true, true, true, true, true, true, true, true, true, true, true, true, true, true, true, true, true, true, true, true, true, true, true, true, true, true, true, true, false, false, false, false, false, false, false, false, false, false, false, false, false, false] rfl rfl (by kernel_rfl) (fun _ _ _ h => h) (Or.inl ⟨by rfl, ?yypc128⟩) hS ?hapc128 ?hhpc128
  case yypc128 => intro W hW; have p0 := (blk_cell (blk_below X2.out hW) 0).trans rfl; have p1 := (blk_cell (blk_below X2.out hW) 1).trans rfl; have p2 := (blk_cell (blk_below X2.out hW) 2).trans rfl; have p3 := (blk_cell (blk_below X2.out hW) 3).trans rfl; have q0 := (blk_cell (blk_below X5.out hW) 0).trans rfl; have q1 := (blk_cell (blk_below X5.out hW) 1).trans rfl; have q2 := (blk_cell (blk_below X5.out hW) 2).trans rfl; have q3 := (blk_cell (blk_below X5.out hW) 3).trans rfl; go_simp; done
  case hapc128 => try simp only [Act.put, List.setIfInBounds_toArray, List.set_cons_zero, List.set_cons_succ]; exact rfl
  refine take_ (i := 32) (N := some 46) (v := .pointer (some ⟨g2, 0, none⟩)) (a' := ?axpc129) #[true, true, true, true, true, true, true, true, true, true, true, true, true, true, true, true, true, true, true, true, true, true, true, true, true, true, true, true, true, true, true, true, true, false, false, false, false, false, false, false, false, false, false, false, false, false] rfl rfl (by kernel_rfl) (fun _ _ _ h => h) (Or.inl ⟨by rfl, ?yypc129⟩) hS ?hapc129 ?hhpc129
  case yypc129 => intro W hW; have p0 := (blk_cell (blk_below X2.out hW) 0).trans rfl; have p1 := (blk_cell (blk_below X2.out hW) 1).trans rfl; have p2 := (blk_cell (blk_below X2.out hW) 2).trans rfl; have p3 := (blk_cell (blk_below X2.out hW) 3).trans rfl; have q0 := (blk_cell (blk_below X5.out hW) 0).trans rfl; have q1 := (blk_cell (blk_below X5.out hW) 1).trans rfl; have q2 := (blk_cell (blk_below X5.out hW) 2).trans rfl; have q3 := (blk_cell (blk_below X5.out hW) 3).trans rfl; go_simp; done
  case hapc129 => try simp only [Act.put, List.setIfInBounds_toArray, List.set_cons_zero, List.set_cons_succ]; exact rfl
  refine take_ (i := 33) (N := some 47) (v := .int .i64 d) (a' := ?axpc130) #[true, true, true, true, true, true, true, true, true, true, true, true, true, true, true, true, true, true, true, true, true, true, true, true, true, true, true, true, true, true, true, true, true, true, false, false, false, false, false, false, false, false, false, false, false, false] rfl rfl (by kernel_rfl) (fun _ _ _ h => h) (Or.inl ⟨by rfl, ?yypc130⟩) hS ?hapc130 ?hhpc130
  case yypc130 => intro W hW; have p0 := (blk_cell (blk_below X2.out hW) 0).trans rfl; have p1 := (blk_cell (blk_below X2.out hW) 1).trans rfl; have p2 := (blk_cell (blk_below X2.out hW) 2).trans rfl; have p3 := (blk_cell (blk_below X2.out hW) 3).trans rfl; have q0 := (blk_cell (blk_below X5.out hW) 0).trans rfl; have q1 := (blk_cell (blk_below X5.out hW) 1).trans rfl; have q2 := (blk_cell (blk_below X5.out hW) 2).trans rfl; have q3 := (blk_cell (blk_below X5.out hW) 3).trans rfl; go_simp; done
  case hapc130 => try simp only [Act.put, List.setIfInBounds_toArray, List.set_cons_zero, List.set_cons_succ]; exact rfl
  refine take_ (i := 34) (N := some 48) (v := .bool true) (a' := ?axpc131) #[true, true, true, true, true, true, true, true, true, true, true, true, true, true, true, true, true, true, true, true, true, true, true, true, true, true, true, true, true, true, true, true, true, true, true, false, false, false, false, false, false, false, false, false, false, false] rfl rfl (by kernel_rfl) (fun _ _ _ h => h) (Or.inl ⟨by rfl, ?yypc131⟩) hS ?hapc131 ?hhpc131
  case yypc131 => intro W hW; have p0 := (blk_cell (blk_below X2.out hW) 0).trans rfl; have p1 := (blk_cell (blk_below X2.out hW) 1).trans rfl; have p2 := (blk_cell (blk_below X2.out hW) 2).trans rfl; have p3 := (blk_cell (blk_below X2.out hW) 3).trans rfl; have q0 := (blk_cell (blk_below X5.out hW) 0).trans rfl; have q1 := (blk_cell (blk_below X5.out hW) 1).trans rfl; have q2 := (blk_cell (blk_below X5.out hW) 2).trans rfl; have q3 := (blk_cell (blk_below X5.out hW) 3).trans rfl; go_simp; done
  case hapc131 => try simp only [Act.put, List.setIfInBounds_toArray, List.set_cons_zero, List.set_cons_succ]; exact rfl
  refine take_ (i := 35) (N := some 49) (v := .bool true) (a' := ?axpc132) #[true, true, true, true, true, true, true, true, true, true, true, true, true, true, true, true, true, true, true, true, true, true, true, true, true, true, true, true, true, true, true, true, true, true, true, true, false, false, false, false, false, false, false, false, false, false] rfl rfl (by kernel_rfl) (fun _ _ _ h => h) (Or.inl ⟨by rfl, ?yypc132⟩) hS ?hapc132 ?hhpc132
  case yypc132 => intro W hW; have p0 := (blk_cell (blk_below X2.out hW) 0).trans rfl; have p1 := (blk_cell (blk_below X2.out hW) 1).trans rfl; have p2 := (blk_cell (blk_below X2.out hW) 2).trans rfl; have p3 := (blk_cell (blk_below X2.out hW) 3).trans rfl; have q0 := (blk_cell (blk_below X5.out hW) 0).trans rfl; have q1 := (blk_cell (blk_below X5.out hW) 1).trans rfl; have q2 := (blk_cell (blk_below X5.out hW) 2).trans rfl; have q3 := (blk_cell (blk_below X5.out hW) 3).trans rfl; go_simp; done
  case hapc132 => try simp only [Act.put, List.setIfInBounds_toArray, List.set_cons_zero, List.set_cons_succ]; exact rfl
  refine take_ (i := 36) (N := some 50) (v := .bool true) (a' := ?axpc133) #[true, true, true, true, true, true, true, true, true, true, true, true, true, true, true, true, true, true, true, true, true, true, true, true, true, true, true, true, true, true, true, true, true, true, true, true, true, false, false, false, false, false, false, false, false, false] rfl rfl (by kernel_rfl) (fun _ _ _ h => h) (Or.inl ⟨by rfl, ?yypc133⟩) hS ?hapc133 ?hhpc133
  case yypc133 => intro W hW; have p0 := (blk_cell (blk_below X2.out hW) 0).trans rfl; have p1 := (blk_cell (blk_below X2.out hW) 1).trans rfl; have p2 := (blk_cell (blk_below X2.out hW) 2).trans rfl; have p3 := (blk_cell (blk_below X2.out hW) 3).trans rfl; have q0 := (blk_cell (blk_below X5.out hW) 0).trans rfl; have q1 := (blk_cell (blk_below X5.out hW) 1).trans rfl; have q2 := (blk_cell (blk_below X5.out hW) 2).trans rfl; have q3 := (blk_cell (blk_below X5.out hW) 3).trans rfl; go_simp; done
  case hapc133 => try simp only [Act.put, List.setIfInBounds_toArray, List.set_cons_zero, List.set_cons_succ]; exact rfl
  refine take_ (i := 37) (N := some 51) (v := .pointer (some ⟨g2, 2, none⟩)) (a' := ?axpc134) #[true, true, true, true, true, true, true, true, true, true, true, true, true, true, true, true, true, true, true, true, true, true, true, true, true, true, true, true, true, true, true, true, true, true, true, true, true, true, false, false, false, false, false, false, false, false] rfl rfl (by kernel_rfl) (fun _ _ _ h => h) (Or.inl ⟨by rfl, ?yypc134⟩) hS ?hapc134 ?hhpc134
  case yypc134 => intro W hW; have p0 := (blk_cell (blk_below X2.out hW) 0).trans rfl; have p1 := (blk_cell (blk_below X2.out hW) 1).trans rfl; have p2 := (blk_cell (blk_below X2.out hW) 2).trans rfl; have p3 := (blk_cell (blk_below X2.out hW) 3).trans rfl; have q0 := (blk_cell (blk_below X5.out hW) 0).trans rfl; have q1 := (blk_cell (blk_below X5.out hW) 1).trans rfl; have q2 := (blk_cell (blk_below X5.out hW) 2).trans rfl; have q3 := (blk_cell (blk_below X5.out hW) 3).trans rfl; go_simp; done
  case hapc134 => try simp only [Act.put, List.setIfInBounds_toArray, List.set_cons_zero, List.set_cons_succ]; exact rfl
  refine take_ (i := 38) (N := some 52) (v := .bool true) (a' := ?axpc135) #[true, true, true, true, true, true, true, true, true, true, true, true, true, true, true, true, true, true, true, true, true, true, true, true, true, true, true, true, true, true, true, true, true, true, true, true, true, true, true, false, false, false, false, false, false, false] rfl rfl (by kernel_rfl) (fun _ _ _ h => h) (Or.inl ⟨by rfl, ?yypc135⟩) hS ?hapc135 ?hhpc135
  case yypc135 => intro W hW; have p0 := (blk_cell (blk_below X2.out hW) 0).trans rfl; have p1 := (blk_cell (blk_below X2.out hW) 1).trans rfl; have p2 := (blk_cell (blk_below X2.out hW) 2).trans rfl; have p3 := (blk_cell (blk_below X2.out hW) 3).trans rfl; have q0 := (blk_cell (blk_below X5.out hW) 0).trans rfl; have q1 := (blk_cell (blk_below X5.out hW) 1).trans rfl; have q2 := (blk_cell (blk_below X5.out hW) 2).trans rfl; have q3 := (blk_cell (blk_below X5.out hW) 3).trans rfl; go_simp; done
  case hapc135 => try simp only [Act.put, List.setIfInBounds_toArray, List.set_cons_zero, List.set_cons_succ]; exact rfl
  refine take_ (i := 39) (N := some 53) (v := .bool true) (a' := ?axpc136) #[true, true, true, true, true, true, true, true, true, true, true, true, true, true, true, true, true, true, true, true, true, true, true, true, true, true, true, true, true, true, true, true, true, true, true, true, true, true, true, true, false, false, false, false, false, false] rfl rfl (by kernel_rfl) (fun _ _ _ h => h) (Or.inl ⟨by rfl, ?yypc136⟩) hS ?hapc136 ?hhpc136
  case yypc136 => intro W hW; have p0 := (blk_cell (blk_below X2.out hW) 0).trans rfl; have p1 := (blk_cell (blk_below X2.out hW) 1).trans rfl; have p2 := (blk_cell (blk_below X2.out hW) 2).trans rfl; have p3 := (blk_cell (blk_below X2.out hW) 3).trans rfl; have q0 := (blk_cell (blk_below X5.out hW) 0).trans rfl; have q1 := (blk_cell (blk_below X5.out hW) 1).trans rfl; have q2 := (blk_cell (blk_below X5.out hW) 2).trans rfl; have q3 := (blk_cell (blk_below X5.out hW) 3).trans rfl; go_simp; done
  case hapc136 => try simp only [Act.put, List.setIfInBounds_toArray, List.set_cons_zero, List.set_cons_succ]; exact rfl
  refine take_ (i := 40) (N := some 54) (v := undef) (a' := ?axpc137) #[true, true, true, true, true, true, true, true, true, true, true, true, true, true, true, true, true, true, true, true, true, true, true, true, true, true, true, true, true, true, true, true, true, true, true, true, true, true, true, true, true, false, false, false, false, false] rfl rfl (by kernel_rfl) (fun _ _ _ h => h) (Or.inr ⟨by rfl, rfl⟩) hS ?hapc137 ?hhpc137
  case hapc137 => try simp only [Act.put, List.setIfInBounds_toArray, List.set_cons_zero, List.set_cons_succ]; exact rfl
  refine take_ (i := 41) (N := some 55) (v := undef) (a' := ?axpc138) #[true, true, true, true, true, true, true, true, true, true, true, true, true, true, true, true, true, true, true, true, true, true, true, true, true, true, true, true, true, true, true, true, true, true, true, true, true, true, true, true, true, true, false, false, false, false] rfl rfl (by kernel_rfl) (fun _ _ _ h => h) (Or.inr ⟨by rfl, rfl⟩) hS ?hapc138 ?hhpc138
  case hapc138 => try simp only [Act.put, List.setIfInBounds_toArray, List.set_cons_zero, List.set_cons_succ]; exact rfl
  refine take_ (i := 42) (N := some 56) (v := undef) (a' := ?axpc139) #[true, true, true, true, true, true, true, true, true, true, true, true, true, true, true, true, true, true, true, true, true, true, true, true, true, true, true, true, true, true, true, true, true, true, true, true, true, true, true, true, true, true, true, false, false, false] rfl rfl (by kernel_rfl) (fun _ _ _ h => h) (Or.inr ⟨by rfl, rfl⟩) hS ?hapc139 ?hhpc139
  case hapc139 => try simp only [Act.put, List.setIfInBounds_toArray, List.set_cons_zero, List.set_cons_succ]; exact rfl
  refine take_ (i := 43) (N := some 57) (v := .bool true) (a' := ?axpc140) #[true, true, true, true, true, true, true, true, true, true, true, true, true, true, true, true, true, true, true, true, true, true, true, true, true, true, true, true, true, true, true, true, true, true, true, true, true, true, true, true, true, true, true, true, false, false] rfl rfl (by kernel_rfl) (fun _ _ _ h => h) (Or.inl ⟨by rfl, ?yypc140⟩) hS ?hapc140 ?hhpc140
  case yypc140 => intro W hW; have p0 := (blk_cell (blk_below X2.out hW) 0).trans rfl; have p1 := (blk_cell (blk_below X2.out hW) 1).trans rfl; have p2 := (blk_cell (blk_below X2.out hW) 2).trans rfl; have p3 := (blk_cell (blk_below X2.out hW) 3).trans rfl; have q0 := (blk_cell (blk_below X5.out hW) 0).trans rfl; have q1 := (blk_cell (blk_below X5.out hW) 1).trans rfl; have q2 := (blk_cell (blk_below X5.out hW) 2).trans rfl; have q3 := (blk_cell (blk_below X5.out hW) 3).trans rfl; go_simp; done
  case hapc140 => try simp only [Act.put, List.setIfInBounds_toArray, List.set_cons_zero, List.set_cons_succ]; exact rfl
  refine take_ (i := 44) (N := some 58) (v := .bool true) (a' := ?axpc141) #[true, true, true, true, true, true, true, true, true, true, true, true, true, true, true, true, true, true, true, true, true, true, true, true, true, true, true, true, true, true, true, true, true, true, true, true, true, true, true, true, true, true, true, true, true, false] rfl rfl (by kernel_rfl) (fun _ _ _ h => h) (Or.inl ⟨by rfl, ?yypc141⟩) hS ?hapc141 ?hhpc141
  case yypc141 => intro W hW; have p0 := (blk_cell (blk_below X2.out hW) 0).trans rfl; have p1 := (blk_cell (blk_below X2.out hW) 1).trans rfl; have p2 := (blk_cell (blk_below X2.out hW) 2).trans rfl; have p3 := (blk_cell (blk_below X2.out hW) 3).trans rfl; have q0 := (blk_cell (blk_below X5.out hW) 0).trans rfl; have q1 := (blk_cell (blk_below X5.out hW) 1).trans rfl; have q2 := (blk_cell (blk_below X5.out hW) 2).trans rfl; have q3 := (blk_cell (blk_below X5.out hW) 3).trans rfl; go_simp; done
  case hapc141 => try simp only [Act.put, List.setIfInBounds_toArray, List.set_cons_zero, List.set_cons_succ]; exact rfl
  refine take_ (i := 45) (N := some 4) (v := .bool true) (a' := ?axpc142) #[true, true, true, true, true, true, true, true, true, true, true, true, true, true, true, true, true, true, true, true, true, true, true, true, true, true, true, true, true, true, true, true, true, true, true, true, true, true, true, true, true, true, true, true, true, true] rfl rfl (by kernel_rfl) (fun _ _ _ h => h) (Or.inl ⟨by rfl, ?yypc142⟩) hS ?hapc142 ?hhpc142
  case yypc142 => intro W hW; have p0 := (blk_cell (blk_below X2.out hW) 0).trans rfl; have p1 := (blk_cell (blk_below X2.out hW) 1).trans rfl; have p2 := (blk_cell (blk_below X2.out hW) 2).trans rfl; have p3 := (blk_cell (blk_below X2.out hW) 3).trans rfl; have q0 := (blk_cell (blk_below X5.out hW) 0).trans rfl; have q1 := (blk_cell (blk_below X5.out hW) 1).trans rfl; have q2 := (blk_cell (blk_below X5.out hW) 2).trans rfl; have q3 := (blk_cell (blk_below X5.out hW) 3).trans rfl; go_simp; done
  case hapc142 => try simp only [Act.put, List.setIfInBounds_toArray, List.set_cons_zero, List.set_cons_succ]; exact rfl
  refine done_ (by kernel_rfl) ?_
  go_wp2
  go_ret
  exact ⟨rfl, (HB.out.trans (hS.mono HB.out.size))⟩
end Go.Proofs.Ytbfialebaoeicaa.X
