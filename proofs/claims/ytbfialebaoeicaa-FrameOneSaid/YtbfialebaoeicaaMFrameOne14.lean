/- Part 15 of the proof of the statement FrameOne: the words of the walks, the walks through the functions that it reaches, and the plain laws of what they compute. -/
import Derived.Test.YtbfialebaoeicaaMFrameOne13
import Derived.RegionTactic
import Derived.ChangeAlike
import Derived.Deep.QuietTactic
import Derived.BigQuiet
import Derived.Deep.Slices
import Derived.Lib.SmallJoins
import Derived.ChangeArms
namespace Go.Proofs.Ytbfialebaoeicaa.X
open Go.RowKit Go.Proofs.YtbfialebaoeicaaW.PrintWords Go.Proofs.YtbfialebaoeicaaW.PrintLast Go.Proofs.YtbfialebaoeicaaW.PrintMore
attribute [local go_sem] max2_int min2_int max_two min_two max_three min_three max_four min_four
set_option linter.all false
noncomputable section
mutual
def davitref05_Same.j0 : Nat → Bool → Int → Int → Int → List Int → Int → Int → Int → Int → List Int → Int → Option (Bool)
 | 0, _, _, _, _, _, _, _, _, _, _, _ => none
 | k + 1, x40, x184000, x184001, x184002, x184003, x184004, x185000, x185001, x185002, x185003, x185004 => if x40 = true then (some false) else (davitref05_Same.l0 k 0 x184000 x184001 x184002 x184003 x184004 x185000 x185001 x185002 x185003 x185004)
def davitref05_Same.l0 : Nat → Int → Int → Int → Int → List Int → Int → Int → Int → Int → List Int → Int → Option (Bool)
 | 0, _, _, _, _, _, _, _, _, _, _, _ => none
 | k + 1, x5, x184000, x184001, x184002, x184003, x184004, x185000, x185001, x185002, x185003, x185004 => if x5 < (x184003.length : Int) then (if 0 ≤ x5 then (if x5 < (x185003.length : Int) then (if (rd x184003 x5) = (rd x185003 x5) then (davitref05_Same.l0 k (wrap64 (x5 + 1)) x184000 x184001 x184002 x184003 x184004 x185000 x185001 x185002 x185003 x185004) else (some false)) else (none)) else (none)) else (some true)
end
def davitref05_Same.f (k : Nat) (a0_0 : Int) (a0_1 : Int) (a0_2 : Int) (l0_3 : List Int) (a0_4 : Int) (a1_0 : Int) (a1_1 : Int) (a1_2 : Int) (l1_3 : List Int) (a1_4 : Int) : Option (Bool) := if a0_0 = a1_0 then (if a0_1 = a1_1 then (if a0_2 = a1_2 then (if a0_4 = a1_4 then (davitref05_Same.j0 k ((l0_3.length : Int) != (l1_3.length : Int)) a0_0 a0_1 a0_2 l0_3 a0_4 a1_0 a1_1 a1_2 l1_3 a1_4) else (davitref05_Same.j0 k true a0_0 a0_1 a0_2 l0_3 a0_4 a1_0 a1_1 a1_2 l1_3 a1_4)) else (davitref05_Same.j0 k true a0_0 a0_1 a0_2 l0_3 a0_4 a1_0 a1_1 a1_2 l1_3 a1_4)) else (davitref05_Same.j0 k true a0_0 a0_1 a0_2 l0_3 a0_4 a1_0 a1_1 a1_2 l1_3 a1_4)) else (davitref05_Same.j0 k true a0_0 a0_1 a0_2 l0_3 a0_4 a1_0 a1_1 a1_2 l1_3 a1_4)
theorem davitref05_Same.mono_l : ∀ k, (∀ y0 y1 y2 y3 y4 y5 y6 y7 y8 y9 y10, LeO (davitref05_Same.j0 k y0 y1 y2 y3 y4 y5 y6 y7 y8 y9 y10) (davitref05_Same.j0 (k + 1) y0 y1 y2 y3 y4 y5 y6 y7 y8 y9 y10)) ∧ (∀ y0 y1 y2 y3 y4 y5 y6 y7 y8 y9 y10, LeO (davitref05_Same.l0 k y0 y1 y2 y3 y4 y5 y6 y7 y8 y9 y10) (davitref05_Same.l0 (k + 1) y0 y1 y2 y3 y4 y5 y6 y7 y8 y9 y10))
 | 0 => ⟨fun _ _ _ _ _ _ _ _ _ _ _ r h => by simp [davitref05_Same.j0] at h, fun _ _ _ _ _ _ _ _ _ _ _ r h => by simp [davitref05_Same.l0] at h⟩
 | k + 1 => by
  obtain ⟨ih0, ih1⟩ := davitref05_Same.mono_l k
  refine ⟨?_, ?_⟩
  ·intro y0 y1 y2 y3 y4 y5 y6 y7 y8 y9 y10
   unfold davitref05_Same.j0
   repeat' first
   | (with_reducible exact ih0 _ _ _ _ _ _ _ _ _ _ _)
   | (with_reducible exact ih1 _ _ _ _ _ _ _ _ _ _ _)
   | (with_reducible exact LeO.refl _)
   | (with_reducible exact LeO.none _)
   | (with_reducible refine LeO.ite ?_ ?_)
   | (with_reducible refine LeO.bind ?_ (fun _ => ?_))
   | exact ih0 _ _ _ _ _ _ _ _ _ _ _
   | exact ih1 _ _ _ _ _ _ _ _ _ _ _
   | exact LeO.none _
   | refine LeO.ite ?_ ?_
   | refine LeO.bind ?_ (fun _ => ?_)
  ·intro y0 y1 y2 y3 y4 y5 y6 y7 y8 y9 y10
   unfold davitref05_Same.l0
   repeat' first
   | (with_reducible exact ih0 _ _ _ _ _ _ _ _ _ _ _)
   | (with_reducible exact ih1 _ _ _ _ _ _ _ _ _ _ _)
   | (with_reducible exact LeO.refl _)
   | (with_reducible exact LeO.none _)
   | (with_reducible refine LeO.ite ?_ ?_)
   | (with_reducible refine LeO.bind ?_ (fun _ => ?_))
   | exact ih0 _ _ _ _ _ _ _ _ _ _ _
   | exact ih1 _ _ _ _ _ _ _ _ _ _ _
   | exact LeO.none _
   | refine LeO.ite ?_ ?_
   | refine LeO.bind ?_ (fun _ => ?_)
theorem davitref05_Same.mono : ∀ a0 a1 a2 a3 a4 a5 a6 a7 a8 a9 k, LeO (davitref05_Same.f k a0 a1 a2 a3 a4 a5 a6 a7 a8 a9) (davitref05_Same.f (k + 1) a0 a1 a2 a3 a4 a5 a6 a7 a8 a9) := by
 intro a0 a1 a2 a3 a4 a5 a6 a7 a8 a9 k
 obtain ⟨ih0, ih1⟩ := davitref05_Same.mono_l k
 unfold davitref05_Same.f
 repeat' first
   | (with_reducible exact ih0 _ _ _ _ _ _ _ _ _ _ _)
   | (with_reducible exact ih1 _ _ _ _ _ _ _ _ _ _ _)
   | (with_reducible exact LeO.refl _)
   | (with_reducible exact LeO.none _)
   | (with_reducible refine LeO.ite ?_ ?_)
   | (with_reducible refine LeO.bind ?_ (fun _ => ?_))
   | exact ih0 _ _ _ _ _ _ _ _ _ _ _
   | exact ih1 _ _ _ _ _ _ _ _ _ _ _
   | exact LeO.none _
   | refine LeO.ite ?_ ?_
   | refine LeO.bind ?_ (fun _ => ?_)
set_option maxHeartbeats 8000000 in
set_option maxRecDepth 100000 in
theorem davitref05_Same.calls (k : Nat) (a0_0 : Int) (a0_1 : Int) (a0_2 : Int) (A0_3 : Option Addr) (c0_3 : Nat) (l0_3 : List Int) (a0_4 : Int) (a1_0 : Int) (a1_1 : Int) (a1_2 : Int) (A1_3 : Option Addr) (c1_3 : Nat) (l1_3 : List Int) (a1_4 : Int) (r : Bool) (w : World) (hr0_3 : Kd.C (Kd.int .u16) w A0_3 l0_3.length l0_3) (hc0_3 : l0_3.length ≤ c0_3) (hr1_3 : Kd.C (Kd.int .u16) w A1_3 l1_3.length l1_3) (hc1_3 : l1_3.length ≤ c1_3) (h : davitref05_Same.f k a0_0 a0_1 a0_2 l0_3 a0_4 a1_0 a1_1 a1_2 l1_3 a1_4 = some r) :
  Calls Try.prog 29 #[.agg #[.int .i64 a0_0, .int .i64 a0_1, .int .i64 a0_2, .slice A0_3 l0_3.length c0_3, .int .u16 a0_4], .agg #[.int .i64 a1_0, .int .i64 a1_1, .int .i64 a1_2, .slice A1_3 l1_3.length c1_3, .int .u16 a1_4]] w fun e w' => e = .returned (.bool r) ∧ Below w.heap.size w w' := by
 have hu55 := Try.underlying55
 have HR0_3 := Aside0.mk hr0_3
 have HC0_3 := Aside0.mk hc0_3
 clear hr0_3 hc0_3
 have HR1_3 := Aside0.mk hr1_3
 have HC1_3 := Aside0.mk hc1_3
 clear hr1_3 hc1_3
 have HB := Aside0.mk (Below.refl w.heap.size w)
 have H : (if a0_0 = a1_0 then (if a0_1 = a1_1 then (if a0_2 = a1_2 then (if a0_4 = a1_4 then (davitref05_Same.j0 k ((l0_3.length : Int) != (l1_3.length : Int)) a0_0 a0_1 a0_2 l0_3 a0_4 a1_0 a1_1 a1_2 l1_3 a1_4) else (davitref05_Same.j0 k true a0_0 a0_1 a0_2 l0_3 a0_4 a1_0 a1_1 a1_2 l1_3 a1_4)) else (davitref05_Same.j0 k true a0_0 a0_1 a0_2 l0_3 a0_4 a1_0 a1_1 a1_2 l1_3 a1_4)) else (davitref05_Same.j0 k true a0_0 a0_1 a0_2 l0_3 a0_4 a1_0 a1_1 a1_2 l1_3 a1_4)) else (davitref05_Same.j0 k true a0_0 a0_1 a0_2 l0_3 a0_4 a1_0 a1_1 a1_2 l1_3 a1_4)) = some r := h
 clear h
 have HC3 := Aside0.mk H
 clear H
 go_enter Try.func29, Try.ntmps29
 go_upto_region 1 with (first | ((with_reducible refine gate_dst (N := 2) rfl ?_); (try (refine gate_guard (by rfl) ?_; dsimp only)); refine box_event ?hg (N := 2) ?hd (cs := #[.int .i64 a0_0, .int .i64 a0_1, .int .i64 a0_2, .slice A0_3 l0_3.length c0_3, .int .u16 a0_4]) (t := 55) ?hr ?_; (case hd => rfl); (case hg => rfl); (case hr => first | (go_simp; done) | (go_simp; rfl)); intro gb183 hg w4 hbox hb; have n0_ := Aside0.mk (below_step (by repeat (first | (with_reducible first | exact HB.out | apply below_alloc | apply pw_below_drewN | apply below_drew1) | exact HB.out)) hb); have n1_ := Aside0.mk (hbox); have n2_ := Aside0.mk ((by rw [hg]; exact (below_size (by repeat (first | (with_reducible first | exact HB.out | apply below_alloc | apply pw_below_drewN | apply below_drew1) | exact HB.out))) : w.heap.size ≤ gb183)); have n3_ := Aside0.mk ((by rw [hg]; exact (below_size (by repeat (first | (with_reducible first | exact HB.out | apply below_alloc | apply pw_below_drewN | apply below_drew1) | exact HB.out))) : w.heap.size ≤ gb183)); clear HB; have HB := n0_; have BK183 := n1_; have GW183 := n2_; have GE183 := n3_; clear n0_ n1_ n2_ n3_; clear hb hbox hg) | ((with_reducible refine gate_dst (N := 3) rfl ?_); (try (refine gate_guard (by rfl) ?_; dsimp only)); refine box_event ?hg (N := 3) ?hd (cs := #[.int .i64 a1_0, .int .i64 a1_1, .int .i64 a1_2, .slice A1_3 l1_3.length c1_3, .int .u16 a1_4]) (t := 55) ?hr ?_; (case hd => rfl); (case hg => rfl); (case hr => first | (go_simp; done) | (go_simp; rfl)); intro gb184 hg w5 hbox hb; have n0_ := Aside0.mk (blk_below (g := gb183) (o := .cells #[.int .i64 a0_0, .int .i64 a0_1, .int .i64 a0_2, .slice A0_3 l0_3.length c0_3, .int .u16 a0_4] 55 (0, 0)) (by (with_reducible repeat (first | refine blk_drewN ?_ _ | refine blk_drew ?_ | refine blk_alloc ?_ _)); exact BK183.out) hb); have n1_ := Aside0.mk (below_step (by repeat (first | (with_reducible first | exact HB.out | apply below_alloc | apply pw_below_drewN | apply below_drew1 | refine below_set ?_ GE183.out) | exact HB.out)) hb); have n2_ := Aside0.mk (hbox); have n3_ := Aside0.mk ((by rw [hg]; exact (below_size (by repeat (first | (with_reducible first | exact HB.out | apply below_alloc | apply pw_below_drewN | apply below_drew1 | refine below_set ?_ GE183.out) | exact HB.out))) : w.heap.size ≤ gb184)); have n4_ := Aside0.mk ((by rw [hg]; exact (below_size (by repeat (first | (with_reducible first | exact HB.out | apply below_alloc | apply pw_below_drewN | apply below_drew1 | refine below_set ?_ GE183.out) | exact HB.out))) : w.heap.size ≤ gb184)); have n5_ := Aside0.mk ((by rw [hg]; exact Nat.ne_of_lt (blk_lt (g := gb183) (o := .cells #[.int .i64 a0_0, .int .i64 a0_1, .int .i64 a0_2, .slice A0_3 l0_3.length c0_3, .int .u16 a0_4] 55 (0, 0)) (by (with_reducible repeat (first | refine blk_drewN ?_ _ | refine blk_drew ?_ | refine blk_alloc ?_ _)); exact BK183.out)) : gb183 ≠ gb184)); have n6_ := Aside0.mk ((by rw [hg]; exact Nat.ne_of_gt (blk_lt (g := gb183) (o := .cells #[.int .i64 a0_0, .int .i64 a0_1, .int .i64 a0_2, .slice A0_3 l0_3.length c0_3, .int .u16 a0_4] 55 (0, 0)) (by (with_reducible repeat (first | refine blk_drewN ?_ _ | refine blk_drew ?_ | refine blk_alloc ?_ _)); exact BK183.out)) : gb184 ≠ gb183)); clear BK183; clear HB; have BK183 := n0_; have HB := n1_; have BK184 := n2_; have GW184 := n3_; have GE184 := n4_; have NB183_184 := n5_; have NB184_183 := n6_; clear n0_ n1_ n2_ n3_ n4_ n5_ n6_; clear hb hbox hg))
 repeat (go_quiet (first | ((with_reducible refine gate_dst (N := 2) rfl ?_); (try (refine gate_guard (by rfl) ?_; dsimp only)); refine box_event ?hg (N := 2) ?hd (cs := #[.int .i64 a0_0, .int .i64 a0_1, .int .i64 a0_2, .slice A0_3 l0_3.length c0_3, .int .u16 a0_4]) (t := 55) ?hr ?_; (case hd => rfl); (case hg => rfl); (case hr => first | (go_simp; done) | (go_simp; rfl)); intro gb183 hg w4 hbox hb; have n0_ := Aside0.mk (below_step (by repeat (first | (with_reducible first | exact HB.out | apply below_alloc | apply pw_below_drewN | apply below_drew1) | exact HB.out)) hb); have n1_ := Aside0.mk (hbox); have n2_ := Aside0.mk ((by rw [hg]; exact (below_size (by repeat (first | (with_reducible first | exact HB.out | apply below_alloc | apply pw_below_drewN | apply below_drew1) | exact HB.out))) : w.heap.size ≤ gb183)); have n3_ := Aside0.mk ((by rw [hg]; exact (below_size (by repeat (first | (with_reducible first | exact HB.out | apply below_alloc | apply pw_below_drewN | apply below_drew1) | exact HB.out))) : w.heap.size ≤ gb183)); clear HB; have HB := n0_; have BK183 := n1_; have GW183 := n2_; have GE183 := n3_; clear n0_ n1_ n2_ n3_; clear hb hbox hg) | ((with_reducible refine gate_dst (N := 3) rfl ?_); (try (refine gate_guard (by rfl) ?_; dsimp only)); refine box_event ?hg (N := 3) ?hd (cs := #[.int .i64 a1_0, .int .i64 a1_1, .int .i64 a1_2, .slice A1_3 l1_3.length c1_3, .int .u16 a1_4]) (t := 55) ?hr ?_; (case hd => rfl); (case hg => rfl); (case hr => first | (go_simp; done) | (go_simp; rfl)); intro gb184 hg w5 hbox hb; have n0_ := Aside0.mk (blk_below (g := gb183) (o := .cells #[.int .i64 a0_0, .int .i64 a0_1, .int .i64 a0_2, .slice A0_3 l0_3.length c0_3, .int .u16 a0_4] 55 (0, 0)) (by (with_reducible repeat (first | refine blk_drewN ?_ _ | refine blk_drew ?_ | refine blk_alloc ?_ _)); exact BK183.out) hb); have n1_ := Aside0.mk (below_step (by repeat (first | (with_reducible first | exact HB.out | apply below_alloc | apply pw_below_drewN | apply below_drew1 | refine below_set ?_ GE183.out) | exact HB.out)) hb); have n2_ := Aside0.mk (hbox); have n3_ := Aside0.mk ((by rw [hg]; exact (below_size (by repeat (first | (with_reducible first | exact HB.out | apply below_alloc | apply pw_below_drewN | apply below_drew1 | refine below_set ?_ GE183.out) | exact HB.out))) : w.heap.size ≤ gb184)); have n4_ := Aside0.mk ((by rw [hg]; exact (below_size (by repeat (first | (with_reducible first | exact HB.out | apply below_alloc | apply pw_below_drewN | apply below_drew1 | refine below_set ?_ GE183.out) | exact HB.out))) : w.heap.size ≤ gb184)); have n5_ := Aside0.mk ((by rw [hg]; exact Nat.ne_of_lt (blk_lt (g := gb183) (o := .cells #[.int .i64 a0_0, .int .i64 a0_1, .int .i64 a0_2, .slice A0_3 l0_3.length c0_3, .int .u16 a0_4] 55 (0, 0)) (by (with_reducible repeat (first | refine blk_drewN ?_ _ | refine blk_drew ?_ | refine blk_alloc ?_ _)); exact BK183.out)) : gb183 ≠ gb184)); have n6_ := Aside0.mk ((by rw [hg]; exact Nat.ne_of_gt (blk_lt (g := gb183) (o := .cells #[.int .i64 a0_0, .int .i64 a0_1, .int .i64 a0_2, .slice A0_3 l0_3.length c0_3, .int .u16 a0_4] 55 (0, 0)) (by (with_reducible repeat (first | refine blk_drewN ?_ _ | refine blk_drew ?_ | refine blk_alloc ?_ _)); exact BK183.out)) : gb184 ≠ gb183)); clear BK183; clear HB; have BK183 := n0_; have HB := n1_; have BK184 := n2_; have GW184 := n3_; have GE184 := n4_; have NB183_184 := n5_; have NB184_183 := n6_; clear n0_ n1_ n2_ n3_ n4_ n5_ n6_; clear hb hbox hg)); go_upto_region 1 with (first | ((with_reducible refine gate_dst (N := 2) rfl ?_); (try (refine gate_guard (by rfl) ?_; dsimp only)); refine box_event ?hg (N := 2) ?hd (cs := #[.int .i64 a0_0, .int .i64 a0_1, .int .i64 a0_2, .slice A0_3 l0_3.length c0_3, .int .u16 a0_4]) (t := 55) ?hr ?_; (case hd => rfl); (case hg => rfl); (case hr => first | (go_simp; done) | (go_simp; rfl)); intro gb183 hg w4 hbox hb; have n0_ := Aside0.mk (below_step (by repeat (first | (with_reducible first | exact HB.out | apply below_alloc | apply pw_below_drewN | apply below_drew1) | exact HB.out)) hb); have n1_ := Aside0.mk (hbox); have n2_ := Aside0.mk ((by rw [hg]; exact (below_size (by repeat (first | (with_reducible first | exact HB.out | apply below_alloc | apply pw_below_drewN | apply below_drew1) | exact HB.out))) : w.heap.size ≤ gb183)); have n3_ := Aside0.mk ((by rw [hg]; exact (below_size (by repeat (first | (with_reducible first | exact HB.out | apply below_alloc | apply pw_below_drewN | apply below_drew1) | exact HB.out))) : w.heap.size ≤ gb183)); clear HB; have HB := n0_; have BK183 := n1_; have GW183 := n2_; have GE183 := n3_; clear n0_ n1_ n2_ n3_; clear hb hbox hg) | ((with_reducible refine gate_dst (N := 3) rfl ?_); (try (refine gate_guard (by rfl) ?_; dsimp only)); refine box_event ?hg (N := 3) ?hd (cs := #[.int .i64 a1_0, .int .i64 a1_1, .int .i64 a1_2, .slice A1_3 l1_3.length c1_3, .int .u16 a1_4]) (t := 55) ?hr ?_; (case hd => rfl); (case hg => rfl); (case hr => first | (go_simp; done) | (go_simp; rfl)); intro gb184 hg w5 hbox hb; have n0_ := Aside0.mk (blk_below (g := gb183) (o := .cells #[.int .i64 a0_0, .int .i64 a0_1, .int .i64 a0_2, .slice A0_3 l0_3.length c0_3, .int .u16 a0_4] 55 (0, 0)) (by (with_reducible repeat (first | refine blk_drewN ?_ _ | refine blk_drew ?_ | refine blk_alloc ?_ _)); exact BK183.out) hb); have n1_ := Aside0.mk (below_step (by repeat (first | (with_reducible first | exact HB.out | apply below_alloc | apply pw_below_drewN | apply below_drew1 | refine below_set ?_ GE183.out) | exact HB.out)) hb); have n2_ := Aside0.mk (hbox); have n3_ := Aside0.mk ((by rw [hg]; exact (below_size (by repeat (first | (with_reducible first | exact HB.out | apply below_alloc | apply pw_below_drewN | apply below_drew1 | refine below_set ?_ GE183.out) | exact HB.out))) : w.heap.size ≤ gb184)); have n4_ := Aside0.mk ((by rw [hg]; exact (below_size (by repeat (first | (with_reducible first | exact HB.out | apply below_alloc | apply pw_below_drewN | apply below_drew1 | refine below_set ?_ GE183.out) | exact HB.out))) : w.heap.size ≤ gb184)); have n5_ := Aside0.mk ((by rw [hg]; exact Nat.ne_of_lt (blk_lt (g := gb183) (o := .cells #[.int .i64 a0_0, .int .i64 a0_1, .int .i64 a0_2, .slice A0_3 l0_3.length c0_3, .int .u16 a0_4] 55 (0, 0)) (by (with_reducible repeat (first | refine blk_drewN ?_ _ | refine blk_drew ?_ | refine blk_alloc ?_ _)); exact BK183.out)) : gb183 ≠ gb184)); have n6_ := Aside0.mk ((by rw [hg]; exact Nat.ne_of_gt (blk_lt (g := gb183) (o := .cells #[.int .i64 a0_0, .int .i64 a0_1, .int .i64 a0_2, .slice A0_3 l0_3.length c0_3, .int .u16 a0_4] 55 (0, 0)) (by (with_reducible repeat (first | refine blk_drewN ?_ _ | refine blk_drew ?_ | refine blk_alloc ?_ _)); exact BK183.out)) : gb184 ≠ gb183)); clear BK183; clear HB; have BK183 := n0_; have HB := n1_; have BK184 := n2_; have GW184 := n3_; have GE184 := n4_; have NB183_184 := n5_; have NB184_183 := n6_; clear n0_ n1_ n2_ n3_ n4_ n5_ n6_; clear hb hbox hg)))
 (try simp only [Act.put, List.setIfInBounds_toArray, List.set_cons_zero, List.set_cons_succ])
 go_cut [40] (fun v40 wc => ∃ (kq : Nat) (x40_2 : Bool), v40 = .bool x40_2 ∧ Aside0 (davitref05_Same.j0 kq x40_2 a0_0 a0_1 a0_2 l0_3 a0_4 a1_0 a1_1 a1_2 l1_3 a1_4 = some r) ∧ Aside0 (kq ≤ k) ∧ Aside0 (wc.heap[gb183]? = some (.cells #[.int .i64 a0_0, .int .i64 a0_1, .int .i64 a0_2, (.slice A0_3 l0_3.length c0_3), .int .u16 a0_4] 55 (0, 0))) ∧ Aside0 (wc.heap[gb184]? = some (.cells #[.int .i64 a1_0, .int .i64 a1_1, .int .i64 a1_2, (.slice A1_3 l1_3.length c1_3), .int .u16 a1_4] 55 (0, 0))) ∧ Aside0 (Below w.heap.size w wc))
 case first =>
  have H := HC3.out
  clear HC3
  by_cases c6 : a0_0 = a1_0
  ·rw [if_pos c6] at H
   have c6b0 : (a0_0 == a1_0) = true := beq_iff_eq.mpr c6
   have c6b1 : (a0_0 != a1_0) = false := bne_eq_false_iff_eq.mpr c6
   clear c6
   (first | rw [c6b0] | (simp only [i64_w, i32_w]; rw [c6b0]) | skip)
   by_cases c7 : a0_1 = a1_1
   ·rw [if_pos c7] at H
    have c7b0 : (a0_1 == a1_1) = true := beq_iff_eq.mpr c7
    have c7b1 : (a0_1 != a1_1) = false := bne_eq_false_iff_eq.mpr c7
    clear c7
    by_cases c8 : a0_2 = a1_2
    ·rw [if_pos c8] at H
     have c8b0 : (a0_2 == a1_2) = true := beq_iff_eq.mpr c8
     have c8b1 : (a0_2 != a1_2) = false := bne_eq_false_iff_eq.mpr c8
     clear c8
     by_cases c9 : a0_4 = a1_4
     ·rw [if_pos c9] at H
      have c9b0 : (a0_4 == a1_4) = true := beq_iff_eq.mpr c9
      have c9b1 : (a0_4 != a1_4) = false := bne_eq_false_iff_eq.mpr c9
      clear c9
      have H' := Aside0.mk H
      clear H
      have hnb10 := NB183_184.out
      have hnc10 := NB184_183.out
      have hcz11_0 : w5.cell? ⟨gb183, 0, none⟩ = some (.int .i64 a0_0) := (blk_cell BK183.out 0).trans rfl
      have hcz11_1 : w5.cell? ⟨gb183, 1, none⟩ = some (.int .i64 a0_1) := (blk_cell BK183.out 1).trans rfl
      have hcz11_2 : w5.cell? ⟨gb183, 2, none⟩ = some (.int .i64 a0_2) := (blk_cell BK183.out 2).trans rfl
      have hcz11_3 : w5.cell? ⟨gb183, 3, none⟩ = some (.slice A0_3 l0_3.length c0_3) := (blk_cell BK183.out 3).trans rfl
      have hcz11_4 : w5.cell? ⟨gb183, 4, none⟩ = some (.int .u16 a0_4) := (blk_cell BK183.out 4).trans rfl
      have hfz11_0 := blk_frozen BK183.out 0
      have hfz11_1 := blk_frozen BK183.out 1
      have hfz11_2 := blk_frozen BK183.out 2
      have hfz11_3 := blk_frozen BK183.out 3
      have hfz11_4 := blk_frozen BK183.out 4
      have hcz12_0 : w5.cell? ⟨gb184, 0, none⟩ = some (.int .i64 a1_0) := (blk_cell BK184.out 0).trans rfl
      have hcz12_1 : w5.cell? ⟨gb184, 1, none⟩ = some (.int .i64 a1_1) := (blk_cell BK184.out 1).trans rfl
      have hcz12_2 : w5.cell? ⟨gb184, 2, none⟩ = some (.int .i64 a1_2) := (blk_cell BK184.out 2).trans rfl
      have hcz12_3 : w5.cell? ⟨gb184, 3, none⟩ = some (.slice A1_3 l1_3.length c1_3) := (blk_cell BK184.out 3).trans rfl
      have hcz12_4 : w5.cell? ⟨gb184, 4, none⟩ = some (.int .u16 a1_4) := (blk_cell BK184.out 4).trans rfl
      have hfz12_0 := blk_frozen BK184.out 0
      have hfz12_1 := blk_frozen BK184.out 1
      have hfz12_2 := blk_frozen BK184.out 2
      have hfz12_3 := blk_frozen BK184.out 3
      have hfz12_4 := blk_frozen BK184.out 4
      go_wp2
      repeat (go_quiet (fail); try go_wp2)
      go_meet
      case rel => exact ⟨_, (((l0_3.length : Int) != (l1_3.length : Int))), (by first | rfl | (simp; done) | (simp [*]; done)), H', ⟨by first | omega | exact Nat.le_refl _⟩, ⟨by (with_reducible repeat (first | refine blk_drewN ?_ _ | refine blk_drew ?_ | refine blk_alloc ?_ _)); exact BK183.out⟩, ⟨by (with_reducible repeat (first | refine blk_drewN ?_ _ | refine blk_drew ?_ | refine blk_alloc ?_ _)); exact BK184.out⟩, ⟨by repeat (first | (with_reducible first | exact HB.out | apply below_alloc | apply pw_below_drewN | apply below_drew1 | refine below_set ?_ GE183.out | refine below_set ?_ GE184.out) | exact HB.out)⟩⟩
     ·rw [if_neg c9] at H
      have c9b0 : (a0_4 == a1_4) = false := beq_eq_false_iff_ne.mpr c9
      have c9b1 : (a0_4 != a1_4) = true := bne_iff_ne.mpr c9
      have H' := Aside0.mk H
      clear H
      have hnb13 := NB183_184.out
      have hnc13 := NB184_183.out
      have hcz14_0 : w5.cell? ⟨gb183, 0, none⟩ = some (.int .i64 a0_0) := (blk_cell BK183.out 0).trans rfl
      have hcz14_1 : w5.cell? ⟨gb183, 1, none⟩ = some (.int .i64 a0_1) := (blk_cell BK183.out 1).trans rfl
      have hcz14_2 : w5.cell? ⟨gb183, 2, none⟩ = some (.int .i64 a0_2) := (blk_cell BK183.out 2).trans rfl
      have hcz14_3 : w5.cell? ⟨gb183, 3, none⟩ = some (.slice A0_3 l0_3.length c0_3) := (blk_cell BK183.out 3).trans rfl
      have hcz14_4 : w5.cell? ⟨gb183, 4, none⟩ = some (.int .u16 a0_4) := (blk_cell BK183.out 4).trans rfl
      have hfz14_0 := blk_frozen BK183.out 0
      have hfz14_1 := blk_frozen BK183.out 1
      have hfz14_2 := blk_frozen BK183.out 2
      have hfz14_3 := blk_frozen BK183.out 3
      have hfz14_4 := blk_frozen BK183.out 4
      have hcz15_0 : w5.cell? ⟨gb184, 0, none⟩ = some (.int .i64 a1_0) := (blk_cell BK184.out 0).trans rfl
      have hcz15_1 : w5.cell? ⟨gb184, 1, none⟩ = some (.int .i64 a1_1) := (blk_cell BK184.out 1).trans rfl
      have hcz15_2 : w5.cell? ⟨gb184, 2, none⟩ = some (.int .i64 a1_2) := (blk_cell BK184.out 2).trans rfl
      have hcz15_3 : w5.cell? ⟨gb184, 3, none⟩ = some (.slice A1_3 l1_3.length c1_3) := (blk_cell BK184.out 3).trans rfl
      have hcz15_4 : w5.cell? ⟨gb184, 4, none⟩ = some (.int .u16 a1_4) := (blk_cell BK184.out 4).trans rfl
      have hfz15_0 := blk_frozen BK184.out 0
      have hfz15_1 := blk_frozen BK184.out 1
      have hfz15_2 := blk_frozen BK184.out 2
      have hfz15_3 := blk_frozen BK184.out 3
      have hfz15_4 := blk_frozen BK184.out 4
      go_wp2
      repeat (go_quiet (fail); try go_wp2)
      go_meet
      case rel => exact ⟨_, (true), (by first | rfl | (simp; done) | (simp [*]; done)), H', ⟨by first | omega | exact Nat.le_refl _⟩, ⟨by (with_reducible repeat (first | refine blk_drewN ?_ _ | refine blk_drew ?_ | refine blk_alloc ?_ _)); exact BK183.out⟩, ⟨by (with_reducible repeat (first | refine blk_drewN ?_ _ | refine blk_drew ?_ | refine blk_alloc ?_ _)); exact BK184.out⟩, ⟨by repeat (first | (with_reducible first | exact HB.out | apply below_alloc | apply pw_below_drewN | apply below_drew1 | refine below_set ?_ GE183.out | refine below_set ?_ GE184.out) | exact HB.out)⟩⟩
    ·rw [if_neg c8] at H
     have c8b0 : (a0_2 == a1_2) = false := beq_eq_false_iff_ne.mpr c8
     have c8b1 : (a0_2 != a1_2) = true := bne_iff_ne.mpr c8
     have H' := Aside0.mk H
     clear H
     have hnb16 := NB183_184.out
     have hnc16 := NB184_183.out
     have hcz17_0 : w5.cell? ⟨gb183, 0, none⟩ = some (.int .i64 a0_0) := (blk_cell BK183.out 0).trans rfl
     have hcz17_1 : w5.cell? ⟨gb183, 1, none⟩ = some (.int .i64 a0_1) := (blk_cell BK183.out 1).trans rfl
     have hcz17_2 : w5.cell? ⟨gb183, 2, none⟩ = some (.int .i64 a0_2) := (blk_cell BK183.out 2).trans rfl
     have hcz17_3 : w5.cell? ⟨gb183, 3, none⟩ = some (.slice A0_3 l0_3.length c0_3) := (blk_cell BK183.out 3).trans rfl
     have hcz17_4 : w5.cell? ⟨gb183, 4, none⟩ = some (.int .u16 a0_4) := (blk_cell BK183.out 4).trans rfl
     have hfz17_0 := blk_frozen BK183.out 0
     have hfz17_1 := blk_frozen BK183.out 1
     have hfz17_2 := blk_frozen BK183.out 2
     have hfz17_3 := blk_frozen BK183.out 3
     have hfz17_4 := blk_frozen BK183.out 4
     have hcz18_0 : w5.cell? ⟨gb184, 0, none⟩ = some (.int .i64 a1_0) := (blk_cell BK184.out 0).trans rfl
     have hcz18_1 : w5.cell? ⟨gb184, 1, none⟩ = some (.int .i64 a1_1) := (blk_cell BK184.out 1).trans rfl
     have hcz18_2 : w5.cell? ⟨gb184, 2, none⟩ = some (.int .i64 a1_2) := (blk_cell BK184.out 2).trans rfl
     have hcz18_3 : w5.cell? ⟨gb184, 3, none⟩ = some (.slice A1_3 l1_3.length c1_3) := (blk_cell BK184.out 3).trans rfl
     have hcz18_4 : w5.cell? ⟨gb184, 4, none⟩ = some (.int .u16 a1_4) := (blk_cell BK184.out 4).trans rfl
     have hfz18_0 := blk_frozen BK184.out 0
     have hfz18_1 := blk_frozen BK184.out 1
     have hfz18_2 := blk_frozen BK184.out 2
     have hfz18_3 := blk_frozen BK184.out 3
     have hfz18_4 := blk_frozen BK184.out 4
     go_wp2
     repeat (go_quiet (fail); try go_wp2)
     go_meet
     case rel => exact ⟨_, (true), (by first | rfl | (simp; done) | (simp [*]; done)), H', ⟨by first | omega | exact Nat.le_refl _⟩, ⟨by (with_reducible repeat (first | refine blk_drewN ?_ _ | refine blk_drew ?_ | refine blk_alloc ?_ _)); exact BK183.out⟩, ⟨by (with_reducible repeat (first | refine blk_drewN ?_ _ | refine blk_drew ?_ | refine blk_alloc ?_ _)); exact BK184.out⟩, ⟨by repeat (first | (with_reducible first | exact HB.out | apply below_alloc | apply pw_below_drewN | apply below_drew1 | refine below_set ?_ GE183.out | refine below_set ?_ GE184.out) | exact HB.out)⟩⟩
   ·rw [if_neg c7] at H
    have c7b0 : (a0_1 == a1_1) = false := beq_eq_false_iff_ne.mpr c7
    have c7b1 : (a0_1 != a1_1) = true := bne_iff_ne.mpr c7
    have H' := Aside0.mk H
    clear H
    have hnb19 := NB183_184.out
    have hnc19 := NB184_183.out
    have hcz20_0 : w5.cell? ⟨gb183, 0, none⟩ = some (.int .i64 a0_0) := (blk_cell BK183.out 0).trans rfl
    have hcz20_1 : w5.cell? ⟨gb183, 1, none⟩ = some (.int .i64 a0_1) := (blk_cell BK183.out 1).trans rfl
    have hcz20_2 : w5.cell? ⟨gb183, 2, none⟩ = some (.int .i64 a0_2) := (blk_cell BK183.out 2).trans rfl
    have hcz20_3 : w5.cell? ⟨gb183, 3, none⟩ = some (.slice A0_3 l0_3.length c0_3) := (blk_cell BK183.out 3).trans rfl
    have hcz20_4 : w5.cell? ⟨gb183, 4, none⟩ = some (.int .u16 a0_4) := (blk_cell BK183.out 4).trans rfl
    have hfz20_0 := blk_frozen BK183.out 0
    have hfz20_1 := blk_frozen BK183.out 1
    have hfz20_2 := blk_frozen BK183.out 2
    have hfz20_3 := blk_frozen BK183.out 3
    have hfz20_4 := blk_frozen BK183.out 4
    have hcz21_0 : w5.cell? ⟨gb184, 0, none⟩ = some (.int .i64 a1_0) := (blk_cell BK184.out 0).trans rfl
    have hcz21_1 : w5.cell? ⟨gb184, 1, none⟩ = some (.int .i64 a1_1) := (blk_cell BK184.out 1).trans rfl
    have hcz21_2 : w5.cell? ⟨gb184, 2, none⟩ = some (.int .i64 a1_2) := (blk_cell BK184.out 2).trans rfl
    have hcz21_3 : w5.cell? ⟨gb184, 3, none⟩ = some (.slice A1_3 l1_3.length c1_3) := (blk_cell BK184.out 3).trans rfl
    have hcz21_4 : w5.cell? ⟨gb184, 4, none⟩ = some (.int .u16 a1_4) := (blk_cell BK184.out 4).trans rfl
    have hfz21_0 := blk_frozen BK184.out 0
    have hfz21_1 := blk_frozen BK184.out 1
    have hfz21_2 := blk_frozen BK184.out 2
    have hfz21_3 := blk_frozen BK184.out 3
    have hfz21_4 := blk_frozen BK184.out 4
    go_wp2
    repeat (go_quiet (fail); try go_wp2)
    go_meet
    case rel => exact ⟨_, (true), (by first | rfl | (simp; done) | (simp [*]; done)), H', ⟨by first | omega | exact Nat.le_refl _⟩, ⟨by (with_reducible repeat (first | refine blk_drewN ?_ _ | refine blk_drew ?_ | refine blk_alloc ?_ _)); exact BK183.out⟩, ⟨by (with_reducible repeat (first | refine blk_drewN ?_ _ | refine blk_drew ?_ | refine blk_alloc ?_ _)); exact BK184.out⟩, ⟨by repeat (first | (with_reducible first | exact HB.out | apply below_alloc | apply pw_below_drewN | apply below_drew1 | refine below_set ?_ GE183.out | refine below_set ?_ GE184.out) | exact HB.out)⟩⟩
  ·rw [if_neg c6] at H
   have c6b0 : (a0_0 == a1_0) = false := beq_eq_false_iff_ne.mpr c6
   have c6b1 : (a0_0 != a1_0) = true := bne_iff_ne.mpr c6
   (first | rw [c6b0] | (simp only [i64_w, i32_w]; rw [c6b0]) | skip)
   have H' := Aside0.mk H
   clear H
   have hnb22 := NB183_184.out
   have hnc22 := NB184_183.out
   have hcz23_0 : w5.cell? ⟨gb183, 0, none⟩ = some (.int .i64 a0_0) := (blk_cell BK183.out 0).trans rfl
   have hcz23_1 : w5.cell? ⟨gb183, 1, none⟩ = some (.int .i64 a0_1) := (blk_cell BK183.out 1).trans rfl
   have hcz23_2 : w5.cell? ⟨gb183, 2, none⟩ = some (.int .i64 a0_2) := (blk_cell BK183.out 2).trans rfl
   have hcz23_3 : w5.cell? ⟨gb183, 3, none⟩ = some (.slice A0_3 l0_3.length c0_3) := (blk_cell BK183.out 3).trans rfl
   have hcz23_4 : w5.cell? ⟨gb183, 4, none⟩ = some (.int .u16 a0_4) := (blk_cell BK183.out 4).trans rfl
   have hfz23_0 := blk_frozen BK183.out 0
   have hfz23_1 := blk_frozen BK183.out 1
   have hfz23_2 := blk_frozen BK183.out 2
   have hfz23_3 := blk_frozen BK183.out 3
   have hfz23_4 := blk_frozen BK183.out 4
   have hcz24_0 : w5.cell? ⟨gb184, 0, none⟩ = some (.int .i64 a1_0) := (blk_cell BK184.out 0).trans rfl
   have hcz24_1 : w5.cell? ⟨gb184, 1, none⟩ = some (.int .i64 a1_1) := (blk_cell BK184.out 1).trans rfl
   have hcz24_2 : w5.cell? ⟨gb184, 2, none⟩ = some (.int .i64 a1_2) := (blk_cell BK184.out 2).trans rfl
   have hcz24_3 : w5.cell? ⟨gb184, 3, none⟩ = some (.slice A1_3 l1_3.length c1_3) := (blk_cell BK184.out 3).trans rfl
   have hcz24_4 : w5.cell? ⟨gb184, 4, none⟩ = some (.int .u16 a1_4) := (blk_cell BK184.out 4).trans rfl
   have hfz24_0 := blk_frozen BK184.out 0
   have hfz24_1 := blk_frozen BK184.out 1
   have hfz24_2 := blk_frozen BK184.out 2
   have hfz24_3 := blk_frozen BK184.out 3
   have hfz24_4 := blk_frozen BK184.out 4
   go_wp2
   repeat (go_quiet (fail); try go_wp2)
   go_meet
   case rel => exact ⟨_, (true), (by first | rfl | (simp; done) | (simp [*]; done)), H', ⟨by first | omega | exact Nat.le_refl _⟩, ⟨by (with_reducible repeat (first | refine blk_drewN ?_ _ | refine blk_drew ?_ | refine blk_alloc ?_ _)); exact BK183.out⟩, ⟨by (with_reducible repeat (first | refine blk_drewN ?_ _ | refine blk_drew ?_ | refine blk_alloc ?_ _)); exact BK184.out⟩, ⟨by repeat (first | (with_reducible first | exact HB.out | apply below_alloc | apply pw_below_drewN | apply below_drew1 | refine below_set ?_ GE183.out | refine below_set ?_ GE184.out) | exact HB.out)⟩⟩
 case rest =>
  clear HC3
  try clear c1
  try clear c2
  try clear p2
  try clear c6
  try clear c6b0
  try clear c6b1
  try clear c7
  try clear c7b0
  try clear c7b1
  try clear c8
  try clear c8b0
  try clear c8b1
  try clear c9
  try clear c9b0
  try clear c9b1
  try clear c10
  try clear c13
  try clear c16
  try clear c19
  try clear c22
  try clear hcz11_0
  try clear hcz11_1
  try clear hcz11_2
  try clear hcz11_3
  try clear hcz11_4
  try clear hcz12_0
  try clear hcz12_1
  try clear hcz12_2
  try clear hcz12_3
  try clear hcz12_4
  try clear hcz14_0
  try clear hcz14_1
  try clear hcz14_2
  try clear hcz14_3
  try clear hcz14_4
  try clear hcz15_0
  try clear hcz15_1
  try clear hcz15_2
  try clear hcz15_3
  try clear hcz15_4
  try clear hcz17_0
  try clear hcz17_1
  try clear hcz17_2
  try clear hcz17_3
  try clear hcz17_4
  try clear hcz18_0
  try clear hcz18_1
  try clear hcz18_2
  try clear hcz18_3
  try clear hcz18_4
  try clear hcz20_0
  try clear hcz20_1
  try clear hcz20_2
  try clear hcz20_3
  try clear hcz20_4
  try clear hcz21_0
  try clear hcz21_1
  try clear hcz21_2
  try clear hcz21_3
  try clear hcz21_4
  try clear hcz23_0
  try clear hcz23_1
  try clear hcz23_2
  try clear hcz23_3
  try clear hcz23_4
  try clear hcz24_0
  try clear hcz24_1
  try clear hcz24_2
  try clear hcz24_3
  try clear hcz24_4
  try clear hfz11_0
  try clear hfz11_1
  try clear hfz11_2
  try clear hfz11_3
  try clear hfz11_4
  try clear hfz12_0
  try clear hfz12_1
  try clear hfz12_2
  try clear hfz12_3
  try clear hfz12_4
  try clear hfz14_0
  try clear hfz14_1
  try clear hfz14_2
  try clear hfz14_3
  try clear hfz14_4
  try clear hfz15_0
  try clear hfz15_1
  try clear hfz15_2
  try clear hfz15_3
  try clear hfz15_4
  try clear hfz17_0
  try clear hfz17_1
  try clear hfz17_2
  try clear hfz17_3
  try clear hfz17_4
  try clear hfz18_0
  try clear hfz18_1
  try clear hfz18_2
  try clear hfz18_3
  try clear hfz18_4
  try clear hfz20_0
  try clear hfz20_1
  try clear hfz20_2
  try clear hfz20_3
  try clear hfz20_4
  try clear hfz21_0
  try clear hfz21_1
  try clear hfz21_2
  try clear hfz21_3
  try clear hfz21_4
  try clear hfz23_0
  try clear hfz23_1
  try clear hfz23_2
  try clear hfz23_3
  try clear hfz23_4
  try clear hfz24_0
  try clear hfz24_1
  try clear hfz24_2
  try clear hfz24_3
  try clear hfz24_4
  obtain ⟨kq, x40_2, rfl, HA, HJ2, BK183, BK184, HB⟩ := hcut
  cases kq with
  | zero => exact absurd HA.out (by simp [davitref05_Same.j0])
  | succ kj2 =>
   have H := HA.out
   clear HA
   simp only [davitref05_Same.j0] at H
   by_cases c25 : x40_2 = true
   ·subst c25
    have H1 : (some false) = some r := by rw [if_pos rfl] at H; exact H
    clear H
    have H := H1
    clear H1
    obtain rfl := Option.some.inj H
    go_wp2
    repeat (go_quiet (fail); try go_wp2)
    go_ret
    exact ⟨by first | rfl | (simp [errW_none, errW_some] <;> rfl) | (simp [*, errW_none, errW_some] <;> rfl), by repeat (first | (with_reducible first | exact HB.out | apply below_alloc | apply pw_below_drewN | apply below_drew1 | refine below_set ?_ GE183.out | refine below_set ?_ GE184.out) | exact HB.out)⟩
   ·replace c25 := Bool.eq_false_iff.mpr c25
    subst c25
    have H1 : (davitref05_Same.l0 kj2 0 a0_0 a0_1 a0_2 l0_3 a0_4 a1_0 a1_1 a1_2 l1_3 a1_4) = some r := by rw [if_neg (show ¬ (false = true) by decide)] at H; exact H
    clear H
    have H := H1
    clear H1
    have H' := Aside0.mk H
    clear H
    go_wp2
    repeat (go_quiet (fail); try go_wp2)
    go_loopg [5] kj2 (fun kq v5 w' => ∃ (x5_2 : Int), v5 = .int .i64 x5_2 ∧ Aside0 (davitref05_Same.l0 kq x5_2 a0_0 a0_1 a0_2 l0_3 a0_4 a1_0 a1_1 a1_2 l1_3 a1_4 = some r) ∧ Aside0 (kq ≤ kj2) ∧ Aside0 (w'.heap[gb183]? = some (.cells #[.int .i64 a0_0, .int .i64 a0_1, .int .i64 a0_2, (.slice A0_3 l0_3.length c0_3), .int .u16 a0_4] 55 (0, 0))) ∧ Aside0 (w'.heap[gb184]? = some (.cells #[.int .i64 a1_0, .int .i64 a1_1, .int .i64 a1_2, (.slice A1_3 l1_3.length c1_3), .int .u16 a1_4] 55 (0, 0))) ∧ Aside0 (Below w.heap.size w w'))
    case atStart => exact ⟨(0), (by first | rfl | (simp; done) | (simp [*]; done)), H', ⟨Nat.le_refl _⟩, ⟨by (with_reducible repeat (first | refine blk_drewN ?_ _ | refine blk_drew ?_ | refine blk_alloc ?_ _)); exact BK183.out⟩, ⟨by (with_reducible repeat (first | refine blk_drewN ?_ _ | refine blk_drew ?_ | refine blk_alloc ?_ _)); exact BK184.out⟩, ⟨by repeat (first | (with_reducible first | exact HB.out | apply below_alloc | apply pw_below_drewN | apply below_drew1 | refine below_set ?_ GE183.out | refine below_set ?_ GE184.out) | exact HB.out)⟩⟩
    case round =>
     clear H'
     try clear c1
     try clear c2
     try clear p2
     try clear c6
     try clear c6b0
     try clear c6b1
     try clear c7
     try clear c7b0
     try clear c7b1
     try clear c8
     try clear c8b0
     try clear c8b1
     try clear c9
     try clear c9b0
     try clear c9b1
     try clear c10
     try clear c13
     try clear c16
     try clear c19
     try clear c22
     try clear c25
     try clear hcz11_0
     try clear hcz11_1
     try clear hcz11_2
     try clear hcz11_3
     try clear hcz11_4
     try clear hcz12_0
     try clear hcz12_1
     try clear hcz12_2
     try clear hcz12_3
     try clear hcz12_4
     try clear hcz14_0
     try clear hcz14_1
     try clear hcz14_2
     try clear hcz14_3
     try clear hcz14_4
     try clear hcz15_0
     try clear hcz15_1
     try clear hcz15_2
     try clear hcz15_3
     try clear hcz15_4
     try clear hcz17_0
     try clear hcz17_1
     try clear hcz17_2
     try clear hcz17_3
     try clear hcz17_4
     try clear hcz18_0
     try clear hcz18_1
     try clear hcz18_2
     try clear hcz18_3
     try clear hcz18_4
     try clear hcz20_0
     try clear hcz20_1
     try clear hcz20_2
     try clear hcz20_3
     try clear hcz20_4
     try clear hcz21_0
     try clear hcz21_1
     try clear hcz21_2
     try clear hcz21_3
     try clear hcz21_4
     try clear hcz23_0
     try clear hcz23_1
     try clear hcz23_2
     try clear hcz23_3
     try clear hcz23_4
     try clear hcz24_0
     try clear hcz24_1
     try clear hcz24_2
     try clear hcz24_3
     try clear hcz24_4
     try clear hfz11_0
     try clear hfz11_1
     try clear hfz11_2
     try clear hfz11_3
     try clear hfz11_4
     try clear hfz12_0
     try clear hfz12_1
     try clear hfz12_2
     try clear hfz12_3
     try clear hfz12_4
     try clear hfz14_0
     try clear hfz14_1
     try clear hfz14_2
     try clear hfz14_3
     try clear hfz14_4
     try clear hfz15_0
     try clear hfz15_1
     try clear hfz15_2
     try clear hfz15_3
     try clear hfz15_4
     try clear hfz17_0
     try clear hfz17_1
     try clear hfz17_2
     try clear hfz17_3
     try clear hfz17_4
     try clear hfz18_0
     try clear hfz18_1
     try clear hfz18_2
     try clear hfz18_3
     try clear hfz18_4
     try clear hfz20_0
     try clear hfz20_1
     try clear hfz20_2
     try clear hfz20_3
     try clear hfz20_4
     try clear hfz21_0
     try clear hfz21_1
     try clear hfz21_2
     try clear hfz21_3
     try clear hfz21_4
     try clear hfz23_0
     try clear hfz23_1
     try clear hfz23_2
     try clear hfz23_3
     try clear hfz23_4
     try clear hfz24_0
     try clear hfz24_1
     try clear hfz24_2
     try clear hfz24_3
     try clear hfz24_4
     try clear p2
     obtain ⟨x5_2, rfl, HA, HK2, BK183, BK184, HB⟩ := hrel
     cases gk with
     | zero => exact absurd HA.out (by simp [davitref05_Same.l0])
     | succ k2 =>
      have H := HA.out
      clear HA
      simp only [davitref05_Same.l0] at H
      by_cases c26 : x5_2 < (l0_3.length : Int)
      ·rw [if_pos c26] at H
       have c26b0 : decide (x5_2 < (l0_3.length : Int)) = true := decide_eq_true c26
       clear c26
       by_cases c27 : 0 ≤ x5_2
       ·rw [if_pos c27] at H
        have c27b0 : decide (0 ≤ x5_2) = true := decide_eq_true c27
        clear c27
        by_cases c28 : x5_2 < (l1_3.length : Int)
        ·rw [if_pos c28] at H
         have c28b0 : decide (x5_2 < (l1_3.length : Int)) = true := decide_eq_true c28
         clear c28
         by_cases c29 : (rd l0_3 x5_2) = (rd l1_3 x5_2)
         ·rw [if_pos c29] at H
          have c29b0 : ((rd l0_3 x5_2) == (rd l1_3 x5_2)) = true := beq_iff_eq.mpr c29
          have c29b1 : ((rd l0_3 x5_2) != (rd l1_3 x5_2)) = false := bne_eq_false_iff_eq.mpr c29
          clear c29
          have H' := Aside0.mk H
          clear H
          have hnb30 := NB183_184.out
          have hnc30 := NB184_183.out
          have hcz31_0 : wr.cell? ⟨gb183, 0, none⟩ = some (.int .i64 a0_0) := (blk_cell BK183.out 0).trans rfl
          have hcz31_1 : wr.cell? ⟨gb183, 1, none⟩ = some (.int .i64 a0_1) := (blk_cell BK183.out 1).trans rfl
          have hcz31_2 : wr.cell? ⟨gb183, 2, none⟩ = some (.int .i64 a0_2) := (blk_cell BK183.out 2).trans rfl
          have hcz31_3 : wr.cell? ⟨gb183, 3, none⟩ = some (.slice A0_3 l0_3.length c0_3) := (blk_cell BK183.out 3).trans rfl
          have hcz31_4 : wr.cell? ⟨gb183, 4, none⟩ = some (.int .u16 a0_4) := (blk_cell BK183.out 4).trans rfl
          have hfz31_0 := blk_frozen BK183.out 0
          have hfz31_1 := blk_frozen BK183.out 1
          have hfz31_2 := blk_frozen BK183.out 2
          have hfz31_3 := blk_frozen BK183.out 3
          have hfz31_4 := blk_frozen BK183.out 4
          have p185 : 0 ≤ (x5_2 : Int) := of_decide_eq_true (by first | (with_reducible assumption) | assumption)
          have q185 : x5_2 < (l0_3.length : Int) := of_decide_eq_true (by first | (with_reducible assumption) | assumption)
          obtain ⟨ad185, e185, hx185_0⟩ := Kd.at_int HR0_3.out x5_2 p185 q185
          cases e185
          replace hx185_0 := (HB.out.cell (World.block_lt_of_cell? w _ hx185_0)).trans hx185_0
          replace p185 := eq_true p185
          replace q185 := eq_true q185
          have hcz32_0 : wr.cell? ⟨gb184, 0, none⟩ = some (.int .i64 a1_0) := (blk_cell BK184.out 0).trans rfl
          have hcz32_1 : wr.cell? ⟨gb184, 1, none⟩ = some (.int .i64 a1_1) := (blk_cell BK184.out 1).trans rfl
          have hcz32_2 : wr.cell? ⟨gb184, 2, none⟩ = some (.int .i64 a1_2) := (blk_cell BK184.out 2).trans rfl
          have hcz32_3 : wr.cell? ⟨gb184, 3, none⟩ = some (.slice A1_3 l1_3.length c1_3) := (blk_cell BK184.out 3).trans rfl
          have hcz32_4 : wr.cell? ⟨gb184, 4, none⟩ = some (.int .u16 a1_4) := (blk_cell BK184.out 4).trans rfl
          have hfz32_0 := blk_frozen BK184.out 0
          have hfz32_1 := blk_frozen BK184.out 1
          have hfz32_2 := blk_frozen BK184.out 2
          have hfz32_3 := blk_frozen BK184.out 3
          have hfz32_4 := blk_frozen BK184.out 4
          have p186 : 0 ≤ (x5_2 : Int) := of_decide_eq_true (by first | (with_reducible assumption) | assumption)
          have q186 : x5_2 < (l1_3.length : Int) := of_decide_eq_true (by first | (with_reducible assumption) | assumption)
          obtain ⟨ad186, e186, hx186_0⟩ := Kd.at_int HR1_3.out x5_2 p186 q186
          cases e186
          replace hx186_0 := (HB.out.cell (World.block_lt_of_cell? w _ hx186_0)).trans hx186_0
          replace p186 := eq_true p186
          replace q186 := eq_true q186
          go_wp2
          repeat (go_quiet (fail); try go_wp2)
          go_roundg k2
          case measure => have := HJ2.out; have := HK2.out; omega
          case rel => exact ⟨(wrap64 (x5_2 + 1)), (by first | rfl | (simp; done) | (simp [*]; done)), H', ⟨by have := HJ2.out; have := HK2.out; omega⟩, ⟨by (with_reducible repeat (first | refine blk_drewN ?_ _ | refine blk_drew ?_ | refine blk_alloc ?_ _)); exact BK183.out⟩, ⟨by (with_reducible repeat (first | refine blk_drewN ?_ _ | refine blk_drew ?_ | refine blk_alloc ?_ _)); exact BK184.out⟩, ⟨by repeat (first | (with_reducible first | exact HB.out | apply below_alloc | apply pw_below_drewN | apply below_drew1 | refine below_set ?_ GE183.out | refine below_set ?_ GE184.out) | exact HB.out)⟩⟩
         ·rw [if_neg c29] at H
          have c29b0 : ((rd l0_3 x5_2) == (rd l1_3 x5_2)) = false := beq_eq_false_iff_ne.mpr c29
          have c29b1 : ((rd l0_3 x5_2) != (rd l1_3 x5_2)) = true := bne_iff_ne.mpr c29
          obtain rfl := Option.some.inj H
          have hnb33 := NB183_184.out
          have hnc33 := NB184_183.out
          have hcz34_0 : wr.cell? ⟨gb183, 0, none⟩ = some (.int .i64 a0_0) := (blk_cell BK183.out 0).trans rfl
          have hcz34_1 : wr.cell? ⟨gb183, 1, none⟩ = some (.int .i64 a0_1) := (blk_cell BK183.out 1).trans rfl
          have hcz34_2 : wr.cell? ⟨gb183, 2, none⟩ = some (.int .i64 a0_2) := (blk_cell BK183.out 2).trans rfl
          have hcz34_3 : wr.cell? ⟨gb183, 3, none⟩ = some (.slice A0_3 l0_3.length c0_3) := (blk_cell BK183.out 3).trans rfl
          have hcz34_4 : wr.cell? ⟨gb183, 4, none⟩ = some (.int .u16 a0_4) := (blk_cell BK183.out 4).trans rfl
          have hfz34_0 := blk_frozen BK183.out 0
          have hfz34_1 := blk_frozen BK183.out 1
          have hfz34_2 := blk_frozen BK183.out 2
          have hfz34_3 := blk_frozen BK183.out 3
          have hfz34_4 := blk_frozen BK183.out 4
          have p185 : 0 ≤ (x5_2 : Int) := of_decide_eq_true (by first | (with_reducible assumption) | assumption)
          have q185 : x5_2 < (l0_3.length : Int) := of_decide_eq_true (by first | (with_reducible assumption) | assumption)
          obtain ⟨ad185, e185, hx185_0⟩ := Kd.at_int HR0_3.out x5_2 p185 q185
          cases e185
          replace hx185_0 := (HB.out.cell (World.block_lt_of_cell? w _ hx185_0)).trans hx185_0
          replace p185 := eq_true p185
          replace q185 := eq_true q185
          have hcz35_0 : wr.cell? ⟨gb184, 0, none⟩ = some (.int .i64 a1_0) := (blk_cell BK184.out 0).trans rfl
          have hcz35_1 : wr.cell? ⟨gb184, 1, none⟩ = some (.int .i64 a1_1) := (blk_cell BK184.out 1).trans rfl
          have hcz35_2 : wr.cell? ⟨gb184, 2, none⟩ = some (.int .i64 a1_2) := (blk_cell BK184.out 2).trans rfl
          have hcz35_3 : wr.cell? ⟨gb184, 3, none⟩ = some (.slice A1_3 l1_3.length c1_3) := (blk_cell BK184.out 3).trans rfl
          have hcz35_4 : wr.cell? ⟨gb184, 4, none⟩ = some (.int .u16 a1_4) := (blk_cell BK184.out 4).trans rfl
          have hfz35_0 := blk_frozen BK184.out 0
          have hfz35_1 := blk_frozen BK184.out 1
          have hfz35_2 := blk_frozen BK184.out 2
          have hfz35_3 := blk_frozen BK184.out 3
          have hfz35_4 := blk_frozen BK184.out 4
          have p186 : 0 ≤ (x5_2 : Int) := of_decide_eq_true (by first | (with_reducible assumption) | assumption)
          have q186 : x5_2 < (l1_3.length : Int) := of_decide_eq_true (by first | (with_reducible assumption) | assumption)
          obtain ⟨ad186, e186, hx186_0⟩ := Kd.at_int HR1_3.out x5_2 p186 q186
          cases e186
          replace hx186_0 := (HB.out.cell (World.block_lt_of_cell? w _ hx186_0)).trans hx186_0
          replace p186 := eq_true p186
          replace q186 := eq_true q186
          go_wp2
          repeat (go_quiet (fail); try go_wp2)
          go_ret
          exact ⟨by first | rfl | (simp [errW_none, errW_some] <;> rfl) | (simp [*, errW_none, errW_some] <;> rfl), by repeat (first | (with_reducible first | exact HB.out | apply below_alloc | apply pw_below_drewN | apply below_drew1 | refine below_set ?_ GE183.out | refine below_set ?_ GE184.out) | exact HB.out)⟩
        ·rw [if_neg c28] at H
         exact absurd H (by simp)
       ·rw [if_neg c27] at H
        exact absurd H (by simp)
      ·rw [if_neg c26] at H
       have c26b0 : decide (x5_2 < (l0_3.length : Int)) = false := decide_eq_false c26
       clear c26
       obtain rfl := Option.some.inj H
       have hnb36 := NB183_184.out
       have hnc36 := NB184_183.out
       have hcz37_0 : wr.cell? ⟨gb183, 0, none⟩ = some (.int .i64 a0_0) := (blk_cell BK183.out 0).trans rfl
       have hcz37_1 : wr.cell? ⟨gb183, 1, none⟩ = some (.int .i64 a0_1) := (blk_cell BK183.out 1).trans rfl
       have hcz37_2 : wr.cell? ⟨gb183, 2, none⟩ = some (.int .i64 a0_2) := (blk_cell BK183.out 2).trans rfl
       have hcz37_3 : wr.cell? ⟨gb183, 3, none⟩ = some (.slice A0_3 l0_3.length c0_3) := (blk_cell BK183.out 3).trans rfl
       have hcz37_4 : wr.cell? ⟨gb183, 4, none⟩ = some (.int .u16 a0_4) := (blk_cell BK183.out 4).trans rfl
       have hfz37_0 := blk_frozen BK183.out 0
       have hfz37_1 := blk_frozen BK183.out 1
       have hfz37_2 := blk_frozen BK183.out 2
       have hfz37_3 := blk_frozen BK183.out 3
       have hfz37_4 := blk_frozen BK183.out 4
       go_wp2
       repeat (go_quiet (fail); try go_wp2)
       go_ret
       exact ⟨by first | rfl | (simp [errW_none, errW_some] <;> rfl) | (simp [*, errW_none, errW_some] <;> rfl), by repeat (first | (with_reducible first | exact HB.out | apply below_alloc | apply pw_below_drewN | apply below_drew1 | refine below_set ?_ GE183.out | refine below_set ?_ GE184.out) | exact HB.out)⟩
end
end Go.Proofs.Ytbfialebaoeicaa.X
namespace Go.Proofs.Ytbfialebaoeicaa.X
open Go.RowKit Go.Proofs.YtbfialebaoeicaaW.PrintWords Go.Proofs.YtbfialebaoeicaaW.PrintLast Go.Proofs.YtbfialebaoeicaaW.PrintMore
set_option linter.all false
theorem NewA.ok {m : List S27} {n : Int} {l : List Int} {w w' : World} {e : Ending} (h : NewA m n l w w' e) (ho : okN m n l = true) : ∃ v, e = .returned (.tuple #[.agg #[.int .i64 n, .int .i64 0, .int .i64 0, v, .int .u16 0], .int .i64 0]) ∧ Kd.R (Kd.int .u16) 44 w' w.heap.size (fun _ => True) v (newR m n l) := by
 rcases h with ⟨h1, _⟩ | ⟨_, h2⟩
 ·rw [ho] at h1
  cases h1
 ·exact h2
theorem blk_new3 (w : World) (a b c : Obj) : (((w.alloc a).alloc b).alloc c).heap[w.heap.size + 2]? = some c := by
 have := blk_new ((w.alloc a).alloc b) c
 rwa [show ((w.alloc a).alloc b).heap.size = w.heap.size + 2 by rw [show ((w.alloc a).alloc b).heap.size = (w.alloc a).heap.size + 1 from Array.size_push _, show (w.alloc a).heap.size = w.heap.size + 1 from Array.size_push _]] at this
def b0a : S41 := ⟨false, ⟨0, [], false, false⟩, [], ⟨1, 0, 0, 0, [], 0, 0, 0⟩⟩
def m0a : List S27 := [⟨0, 2, [b0a]⟩]
theorem C_one {α : Type} (d : Kd α) {w : World} {g : Nat} {t : TypeId} (x : α) (c : List Value) (hc : c.length = d.sz) (hK : d.K w x c) (h : w.heap[g]? = some (.cells c.toArray t (0, 0))) : Kd.C d w (some ⟨g, 0, none⟩) [x].length [x] := by
 refine ⟨rfl, by simp, fun _ => ⟨_, rfl, fun j q hj => ?_⟩⟩
 have hj0 : j = 0 := by have := (List.getElem?_eq_some_iff.1 hj).1; simp at this; exact this
 subst hj0
 simp at hj
 subst hj
 refine ⟨c, hc, hK, fun i u hu => ?_⟩
 have := blk_cell h i
 rw [Nat.zero_mul, Nat.zero_add, show (⟨g, 0, none⟩ : Addr).add i = ⟨g, i, none⟩ by cases i <;> simp [Addr.add], this]
 simpa using hu
theorem C_row {w : World} {g : Nat} {xs : List Int} (hm : xs.length ≤ 1000000) (h : w.heap[g]? = some (.cells (nums .u16 xs).toArray 44 (0, 0))) : Kd.C (Kd.int .u16) w (some ⟨g, 0, none⟩) xs.length xs := by
 have hr := row_R (base := 0) (Nat.zero_le g) rfl hm h
 obtain ⟨A, c, e, _, hC⟩ := Kd.R_reads hr
 injection e with e1 e2 e3
 rw [e1]
 exact hC
theorem nilk_C {α : Type} (d : Kd α) {w : World} : Kd.C d w none ([] : List α).length [] := ⟨rfl, by simp, fun h => by simp at h⟩
theorem m0a_C {w : World} {g1 g2 : Nat} (h1 : w.heap[g1]? = some (.cells #[.bool false, .int .i64 0, .slice none 0 0, .bool false, .bool false, .slice none 0 0, .int .i64 1, .int .i64 0, .int .i64 0, .int .i64 0, .slice none 0 0, .int .i64 0, .int .i64 0, .int .i64 0] 41 (0, 0)))
  (h2 : w.heap[g2]? = some (.cells #[.int .i64 0, .int .i64 2, .slice (some ⟨g1, 0, none⟩) 1 1] 27 (0, 0))) : Kd.C k27 w (some ⟨g2, 0, none⟩) m0a.length m0a :=
 C_one k27 ⟨0, 2, [b0a]⟩ [.int .i64 0, .int .i64 2, .slice (some ⟨g1, 0, none⟩) 1 1] rfl (k27_mk w ⟨0, 2, [b0a]⟩ (A2 := some ⟨g1, 0, none⟩) (c2 := 1) (by decide)
  (C_one k41 b0a [.bool false, .int .i64 0, .slice none 0 0, .bool false, .bool false, .slice none 0 0, .int .i64 1, .int .i64 0, .int .i64 0, .int .i64 0, .slice none 0 0, .int .i64 0, .int .i64 0, .int .i64 0] rfl
   (k41_mk w b0a (A2 := none) (c2 := 0) (by decide) (nilk_C _) (A5 := none) (c5 := 0) (by decide) (nilk_C _) (A10 := none) (c10 := 0) (by decide) (nilk_C _)) h1)) h2
theorem b0a_of {b : S41} (h : b ∈ [b0a]) : b = b0a := by simpa using h
theorem f0a_B : BndF ⟨0, 2, [b0a]⟩ := ⟨by decide, fun b hb => (by rw [b0a_of hb]; decide), fun b hb => (by rw [b0a_of hb]; decide), fun b hb => (by rw [b0a_of hb]; decide), fun b hb x hx => (by rw [b0a_of hb] at hx; cases hx)⟩
theorem m0a_B : Bnd m0a := ⟨by decide, fun f hf => (by rw [show f = ⟨0, 2, [b0a]⟩ by simpa [m0a] using hf]; exact f0a_B)⟩
theorem m0a_ok : okN m0a 0 [] = true := by decide +kernel
theorem m0a_new : newR m0a 0 [] = [0, 0] := by decide +kernel
theorem m0a_fr : frR m0a 0 0 0 2 = true := by decide +kernel
set_option maxHeartbeats 16000000 in
set_option maxRecDepth 100000 in
theorem awake5_c (w : World) : Calls Try.prog 27 #[] w fun e w' => e = .returned (.bool true) ∧ Below w.heap.size w w' := by
 have hu24 := Try.underlying24
 have hu27 := Try.underlying27
 have hu55 := Try.underlying55
 have hu41 := Try.underlying41
 have hu49 := Try.underlying49
 have hu35 := Try.underlying35
 have hu39 := Try.underlying39
 have HB := Aside0.mk (Below.refl w.heap.size w)
 go_enter Try.func27, Try.ntmps27
 go_upto_region 1 with (fail)
 go_cut [1, 2] (fun v1 v2 wc => ∃ g1 : Nat, v1 = .pointer (some ⟨g1, 0, none⟩) ∧ v2 = .bool true ∧ Aside0 (Below w.heap.size w wc) ∧ Aside0 (∃ Ao co, wc.heap[g1]? = some (.cells #[.int .i64 0, .int .i64 0, .int .i64 1, .slice Ao 3 co, .int .u16 0] 55 (0, 0)) ∧ Kd.C (Kd.int .u16) wc Ao 3 [3, 4, 7]))
 case first =>
  go_wp2_with (go_at_call 28; go_loud (refine (frame_Reckon.calls 5 0 0 0 (some ⟨w.heap.size, 0, none⟩) 3 [3, 4, 0] 0 3 2 0 1 0 0 none 0 [] 0 0 1 [3, 4, 7] 0 true _ (C_row (by decide) (blk_new _ _)) (by decide) nil_C (by decide) (by decide +kernel)).mono ?_); rintro e w6 ⟨v, rfl, hr, hb⟩; obtain ⟨Ao, co, rfl, hl, hC⟩ := Kd.R_reads hr; have HC := Aside0.mk hC; have HB6 := Aside0.mk ((below_alloc HB.out _).trans (hb.mono (below_size (below_alloc HB.out _)))); clear hr hb hC)
  go_meet
  exact ⟨_, rfl, rfl, ⟨below_alloc HB6.out _⟩, ⟨Ao, co, blk_new _ _, Kd.C_below HC.out (below_alloc (Below.refl _ _) _)⟩⟩
 case rest =>
  clear HB
  obtain ⟨g1, rfl, rfl, HB, X1⟩ := hcut
  go_upto_region 2 with (fail)
  go_cut [3] (fun v3 wc => ∃ g3 : Nat, v3 = .pointer (some ⟨g3, 0, none⟩) ∧ Aside0 (Below w.heap.size w wc) ∧ Aside0 (∃ Ao co, wc.heap[g1]? = some (.cells #[.int .i64 0, .int .i64 0, .int .i64 1, .slice Ao 3 co, .int .u16 0] 55 (0, 0)) ∧ Kd.C (Kd.int .u16) wc Ao 3 [3, 4, 7]) ∧ Aside0 (∃ gf, wc.heap[g3]? = some (.cells #[.slice (some ⟨gf, 0, none⟩) 1 1] 24 (0, 0)) ∧ Kd.C k27 wc (some ⟨gf, 0, none⟩) m0a.length m0a))
  case first =>
   go_wp2
   go_meet
   obtain ⟨Ao, co, hx, hC⟩ := X1.out
   exact ⟨_, rfl, ⟨below_alloc (below_alloc (below_alloc HB.out _) _) _⟩, ⟨Ao, co, blk_below hx (below_alloc (below_alloc (below_alloc (Below.refl _ wc) _) _) _), Kd.C_below hC (below_alloc (below_alloc (below_alloc (Below.refl _ wc) _) _) _)⟩, ⟨_, blk_new3 _ _ _ _, m0a_C (g1 := wc.heap.size) (blk_alloc (blk_alloc (blk_new _ _) _) _) (blk_alloc (blk_new2 _ _ _) _)⟩⟩
  case rest =>
   clear HB X1
   obtain ⟨g3, rfl, HB, X1, X3⟩ := hcut
   obtain ⟨gf, hx3, hC3⟩ := X3.out
   have Y3 := Aside0.mk hx3
   have HC3 := Aside0.mk hC3
   have m0 := (blk_cell Y3.out 0).trans rfl
   clear hx3 hC3
   go_upto_region 3 with (fail)
   go_cut [4, 5] (fun v4 v5 wc => ∃ g4 : Nat, v4 = .pointer (some ⟨g4, 0, none⟩) ∧ v5 = .int .i64 0 ∧ Aside0 (Below w.heap.size w wc) ∧ Aside0 (∃ Ao co, wc.heap[g1]? = some (.cells #[.int .i64 0, .int .i64 0, .int .i64 1, .slice Ao 3 co, .int .u16 0] 55 (0, 0)) ∧ Kd.C (Kd.int .u16) wc Ao 3 [3, 4, 7]) ∧ Aside0 (∃ gf, wc.heap[g3]? = some (.cells #[.slice (some ⟨gf, 0, none⟩) 1 1] 24 (0, 0)) ∧ Kd.C k27 wc (some ⟨gf, 0, none⟩) m0a.length m0a) ∧ Aside0 (∃ A c, wc.heap[g4]? = some (.cells #[.int .i64 0, .int .i64 0, .int .i64 0, .slice A 2 c, .int .u16 0] 55 (0, 0))))
   case first =>
    go_wp2_with (go_at_call 34; go_loud (refine (new_l m0a (some ⟨gf, 0, none⟩) 1 0 none 0 [] _ HC3.out m0a_B nilu_C).mono ?_); rintro e w6 ⟨ha, hb⟩; obtain ⟨v, rfl, hr⟩ := ha.ok m0a_ok; rw [m0a_new] at hr; obtain ⟨Ao2, co2, rfl, hl, hC⟩ := Kd.R_reads hr; have HBN := Aside0.mk hb; clear ha hr hl hC hb)
    go_meet
    obtain ⟨Ao, co, hx, hC⟩ := X1.out
    exact ⟨_, rfl, rfl, ⟨below_alloc (HB.out.trans (HBN.out.mono HB.out.size)) _⟩, ⟨Ao, co, blk_below hx (below_alloc HBN.out _), Kd.C_below hC (below_alloc HBN.out _)⟩, ⟨gf, blk_below Y3.out (below_alloc HBN.out _), Kd.C_below HC3.out (below_alloc HBN.out _)⟩, ⟨_, _, blk_new _ _⟩⟩
   case rest =>
    clear HB X1 X3 Y3 HC3 m0
    obtain ⟨g4, rfl, rfl, HB, X1, X3, X4⟩ := hcut
    obtain ⟨gf, hx3, hC3⟩ := X3.out
    have Y3 := Aside0.mk hx3
    have HC3 := Aside0.mk hC3
    obtain ⟨Ao, co, hx1, hC1⟩ := X1.out
    have Y1 := Aside0.mk hx1
    obtain ⟨A4, c4, hx4⟩ := X4.out
    have Y4 := Aside0.mk hx4
    obtain ⟨ad, e1, h7⟩ := Kd.at_int hC1 2 (by decide) (by decide)
    subst e1
    have h7' : wc.cell? ⟨ad.block, ad.off + 2, none⟩ = some (.int .u16 7) := h7
    clear hx1 hC1 hx3 hC3 hx4 h7 X1 X3 X4
    have r0 := (blk_cell Y1.out 0).trans rfl
    have r1 := (blk_cell Y1.out 1).trans rfl
    have r2 := (blk_cell Y1.out 2).trans rfl
    have r3 := (blk_cell Y1.out 3).trans rfl
    have r4 := (blk_cell Y1.out 4).trans rfl
    have m0 := (blk_cell Y3.out 0).trans rfl
    have s0 := (blk_cell Y4.out 0).trans rfl
    have s1 := (blk_cell Y4.out 1).trans rfl
    have s2 := (blk_cell Y4.out 2).trans rfl
    have s3 := (blk_cell Y4.out 3).trans rfl
    have s4 := (blk_cell Y4.out 4).trans rfl
    have HQ := Aside0.mk (Below.refl wc.heap.size wc)
    go_wp2_with (first | (go_at_call 36; go_loud (refine (fright_l m0a (some ⟨gf, 0, none⟩) 1 0 0 0 A4 c4 [0, 0] 0 _ (Kd.C_below HC3.out HQ.out) m0a_B).mono ?_); rintro e w6 ⟨he, hb⟩; rw [show frR m0a 0 0 0 ([0, 0] : List Int).length = true from m0a_fr] at he; subst he; have HB6 := Aside0.mk (HB.out.trans (hb.mono HB.out.size)); clear hb) | (go_at_call 31; go_loud (refine (frame_Catches.calls 5 0 none 0 [] true false 5 true _ nilu_C (by decide) (by decide +kernel)).mono ?_); rintro e w7 ⟨rfl, hb⟩; have HB7 := Aside0.mk (HB6.out.trans (hb.mono HB6.out.size)); clear hb))
    go_ret
    exact ⟨rfl, HB7.out⟩
end Go.Proofs.Ytbfialebaoeicaa.X
namespace Go.Proofs.Ytbfialebaoeicaa.X
open Go.RowKit Go.Proofs.YtbfialebaoeicaaW.PrintWords Go.Proofs.YtbfialebaoeicaaW.PrintLast Go.Proofs.YtbfialebaoeicaaW.PrintMore
set_option linter.all false
def doW (op a b : Int) : Int × Bool :=
 if op = 2 then (a, true) else if op = 3 then (IntKind.u16.wrap (a + b), true) else if op = 4 then (IntKind.u16.wrap (a - b), true) else if op = 5 then (IntKind.u16.wrap (a * b), true)
 else if op = 6 then (if b = 0 then (0, false) else (IntKind.u16.wrap (Int.tdiv a b), true)) else if op = 7 then (if (a == b) = true then 1 else 0, true) else if op = 8 then (if decide (a < b) = true then 1 else 0, true) else (0, false)
theorem do_f (op a b : Int) : word_Do.f op a b = some (doW op a b) := by
 unfold word_Do.f doW word_truth.f
 split
 ·rfl
 split
 ·rfl
 split
 ·rfl
 split
 ·rfl
 split
 ·split <;> rfl
 split
 ·split <;> rfl
 split
 ·split <;> rfl
 rfl
def atW (l : List Int) (n : Int) : Int × Bool := if win n l.length = true then (rd l n, true) else (0, false)
theorem at_f (a b c : Int) (l : List Int) (d n : Int) : frame_at.f a b c l d n = some (atW l n) := by
 unfold frame_at.f atW win
 by_cases h0 : 0 ≤ n
 ·rw [if_neg (by omega)]
  by_cases h1 : n < (l.length : Int)
  ·rw [if_neg (by omega), if_pos h0, if_pos h1, decide_eq_true h0, decide_eq_true h1]; rfl
  ·rw [if_pos (by omega), decide_eq_false h1, Bool.and_false]; rfl
 ·rw [if_pos (by omega), decide_eq_false h0]; rfl
def ansW (l : List Int) (op A B K : Int) : Int × Bool :=
 if op = 1 then (K, true) else if (atW l A).2 = true then (if (decide (2 < op) && decide (op ≤ 8)) = true then (if (atW l B).2 = true then doW op (atW l A).1 (atW l B).1 else (0, false)) else doW op (atW l A).1 0) else (0, false)
theorem ans_f (k : Nat) (F Bl At : Int) (l : List Int) (Fly op D A B K G : Int) (g : List Int) : frame_answer.f (k + 2) F Bl At l Fly op D A B K G g = some (ansW l op A B K) := by
 unfold frame_answer.f ansW
 by_cases h1 : op = 1
 ·rw [if_pos h1, if_pos h1]
 rw [if_neg h1, if_neg h1, at_f, Option.bind_some]
 by_cases h2 : (atW l A).2 = true
 ·rw [if_pos h2, if_pos h2]
  unfold word_Two.f
  by_cases h3 : op > 2
  ·rw [if_pos h3, Option.bind_some, decide_eq_true (show 2 < op from h3), Bool.true_and]
   rw [frame_answer.j0]
   by_cases h4 : decide (op ≤ 8) = true
   ·rw [if_pos h4, if_pos h4, at_f, Option.bind_some]
    rw [frame_answer.j1]
    by_cases h5 : (atW l B).2 = true
    ·rw [if_pos h5, if_pos h5, do_f]; rfl
    ·rw [if_neg h5, if_neg h5]
   ·rw [if_neg h4, if_neg h4]
    rw [frame_answer.j1]
    rw [if_pos h2, do_f]; rfl
  ·rw [if_neg h3, Option.bind_some, decide_eq_false (show ¬ 2 < op from h3), Bool.false_and]
   rw [frame_answer.j0]
   rw [if_neg (by simp), if_neg (by simp)]
   rw [frame_answer.j1]
   rw [if_pos h2, do_f]; rfl
 ·rw [if_neg h2, if_neg h2]
  rw [frame_answer.j0]
  rw [if_neg (by simp)]
  rw [frame_answer.j1]
  rw [if_neg h2]
def rkB (l : List Int) (op D A B K : Int) : Bool := (ansW l op A B K).2 && win D l.length
def rkL (l : List Int) (op D A B K : Int) : List Int := if rkB l op D A B K = true then l.set D.toNat (ansW l op A B K).1 else l
def rkAt (l : List Int) (At op D A B K : Int) : Int := if rkB l op D A B K = true then wrap64 (At + 1) else At
theorem rkL_len (l : List Int) (op D A B K : Int) : (rkL l op D A B K).length = l.length := by
 unfold rkL
 split <;> simp
theorem reck_f (k : Nat) (F Bl At : Int) (l : List Int) (Fly op D A B K G : Int) (g : List Int) (hl : l.length < 1000000) :
  frame_Reckon.f (k + 2) F Bl At l Fly op D A B K G g = some (F, Bl, rkAt l At op D A B K, rkL l op D A B K, Fly, rkB l op D A B K) := by
 unfold frame_Reckon.f frame_copied.f slices_Clone_uint16_uint16.f
 rw [if_pos hl]
 simp only [Option.bind_some]
 rw [ans_f, Option.bind_some, at_f, Option.bind_some]
 unfold rkL rkAt rkB atW
 by_cases h1 : (ansW l op A B K).2 = true
 ·rw [if_pos h1, h1, Bool.true_and]
  by_cases h2 : win D l.length = true
  ·have hw := win_at h2
   rw [if_pos h2, if_pos rfl, if_pos hw.1, if_pos hw.2, if_pos h2, if_pos h2, h2]
  ·rw [if_neg h2, if_neg (by simp), if_neg h2, if_neg h2, Bool.eq_false_iff.2 h2]
 ·rw [if_neg h1, Bool.eq_false_iff.2 h1, Bool.false_and, if_neg (by simp), if_neg (by simp)]
theorem same_l0 (F Bl At : Int) (l : List Int) (Fly F' Bl' At' : Int) (r : List Int) (Fly' : Int) (hn : l.length = r.length) (hm : l.length ≤ 1000000) : ∀ (d : Nat) (x : Int), 0 ≤ x → x + d = l.length → l.take x.toNat = r.take x.toNat →
  davitref05_Same.l0 (d + 1) x F Bl At l Fly F' Bl' At' r Fly' = some (l == r)
 | 0, x, h0, h1, h2 => by
  rw [davitref05_Same.l0]
  rw [if_neg (by omega), beq_iff_eq.2 (same_end l r x (by omega) hn h2)]
 | d + 1, x, h0, h1, h2 => by
  rw [davitref05_Same.l0]
  rw [if_pos (by omega), if_pos h0, if_pos (by omega)]
  by_cases h3 : rd l x = rd r x
  ·rw [if_pos h3, wrap_in (x + 1) (by omega) (by omega)]
   exact same_l0 F Bl At l Fly F' Bl' At' r Fly' hn hm d (x + 1) (by omega) (by omega) (take_same l r 0 x h0 (by omega) hn h2 h3)
  ·rw [if_neg h3, beq_eq_false_iff_ne.2 (fun e => h3 (by rw [e]))]
theorem same_f (F Bl At : Int) (l : List Int) (Fly F' Bl' At' : Int) (r : List Int) (Fly' : Int) (hm : l.length ≤ 1000000) :
  davitref05_Same.f (l.length + 2) F Bl At l Fly F' Bl' At' r Fly' = some (decide (F = F') && decide (Bl = Bl') && decide (At = At') && decide (Fly = Fly') && (l == r)) := by
 unfold davitref05_Same.f
 by_cases h1 : F = F'
 ·rw [if_pos h1, decide_eq_true h1]
  by_cases h2 : Bl = Bl'
  ·rw [if_pos h2, decide_eq_true h2]
   by_cases h3 : At = At'
   ·rw [if_pos h3, decide_eq_true h3]
    by_cases h4 : Fly = Fly'
    ·rw [if_pos h4, decide_eq_true h4]
     by_cases h5 : l.length = r.length
     ·rw [show ((l.length : Int) != (r.length : Int)) = false from bne_eq_false_iff_eq.2 (by omega)]
      rw [davitref05_Same.j0]
      rw [if_neg (by simp), same_l0 F Bl At l Fly F' Bl' At' r Fly' h5 hm l.length 0 (by omega) (by omega) (by simp)]
      rfl
     ·rw [show ((l.length : Int) != (r.length : Int)) = true from bne_iff_ne.2 (by omega)]
      rw [davitref05_Same.j0]
      rw [if_pos rfl, beq_eq_false_iff_ne.2 (fun e => h5 (by rw [e]))]
      simp
    ·rw [if_neg h4, decide_eq_false h4]
     rw [davitref05_Same.j0]
     simp
   ·rw [if_neg h3, decide_eq_false h3]
    rw [davitref05_Same.j0]
    simp
  ·rw [if_neg h2, decide_eq_false h2]
   rw [davitref05_Same.j0]
   simp
 ·rw [if_neg h1, decide_eq_false h1]
  rw [davitref05_Same.j0]
  simp
def sameW (F Bl At : Int) (l : List Int) (Fly F' Bl' At' : Int) (r : List Int) (Fly' : Int) : Bool := decide (F = F') && decide (Bl = Bl') && decide (At = At') && decide (Fly = Fly') && (l == r)
theorem sameW_refl (F Bl At : Int) (l : List Int) (Fly : Int) : sameW F Bl At l Fly F Bl At l Fly = true := by simp [sameW]
theorem same5_c (F Bl At : Int) (A : Option Addr) (c : Nat) (l : List Int) (Fly F' Bl' At' : Int) (A' : Option Addr) (c' : Nat) (r : List Int) (Fly' : Int) (w : World) (hl : Kd.C (Kd.int .u16) w A l.length l) (hc : l.length ≤ c) (hr : Kd.C (Kd.int .u16) w A' r.length r) (hc' : r.length ≤ c') (hm : l.length ≤ 1000000) :
  Calls Try.prog 29 #[.agg #[.int .i64 F, .int .i64 Bl, .int .i64 At, .slice A l.length c, .int .u16 Fly], .agg #[.int .i64 F', .int .i64 Bl', .int .i64 At', .slice A' r.length c', .int .u16 Fly']] w fun e w' => e = .returned (.bool (sameW F Bl At l Fly F' Bl' At' r Fly')) ∧ Below w.heap.size w w' :=
 davitref05_Same.calls (l.length + 2) F Bl At A c l Fly F' Bl' At' A' c' r Fly' _ w hl hc hr hc' (same_f F Bl At l Fly F' Bl' At' r Fly' hm)
theorem reck_c (F Bl At : Int) (A : Option Addr) (c : Nat) (l : List Int) (Fly : Int) (x : S49) (A6 : Option Addr) (c6 : Nat) (w : World) (hl : Kd.C (Kd.int .u16) w A l.length l) (hc : l.length ≤ c) (hx : Kd.C (Kd.int .i64) w A6 x.f6.length x.f6) (hc6 : x.f6.length ≤ c6) (hm : l.length < 1000000) :
  Calls Try.prog 28 #[.agg #[.int .i64 F, .int .i64 Bl, .int .i64 At, .slice A l.length c, .int .u16 Fly], .agg #[.int .i64 x.f0, .int .i64 x.f1, .int .i64 x.f2, .int .i64 x.f3, .int .u16 x.f4, .int .i64 x.f5, .slice A6 x.f6.length c6]] w fun e w' => (∃ Ao co, e = .returned (.tuple #[.agg #[.int .i64 F, .int .i64 Bl, .int .i64 (rkAt l At x.f0 x.f1 x.f2 x.f3 x.f4), .slice Ao (rkL l x.f0 x.f1 x.f2 x.f3 x.f4).length co, .int .u16 Fly], .bool (rkB l x.f0 x.f1 x.f2 x.f3 x.f4)]) ∧ (rkL l x.f0 x.f1 x.f2 x.f3 x.f4).length ≤ co ∧ Kd.R (Kd.int .u16) 44 w' w.heap.size (fun _ => True) (.slice Ao (rkL l x.f0 x.f1 x.f2 x.f3 x.f4).length co) (rkL l x.f0 x.f1 x.f2 x.f3 x.f4)) ∧ Below w.heap.size w w' := by
 refine (frame_Reckon.calls 2 F Bl At A c l Fly x.f0 x.f1 x.f2 x.f3 x.f4 x.f5 A6 c6 x.f6 _ _ _ _ _ _ w hl hc hx hc6 (reck_f 0 F Bl At l Fly x.f0 x.f1 x.f2 x.f3 x.f4 x.f5 x.f6 hm)).mono ?_
 rintro e w' ⟨v, rfl, hr, hb⟩
 obtain ⟨Ao, co, rfl, hl, _⟩ := Kd.R_reads hr
 exact ⟨⟨Ao, co, rfl, hl, hr⟩, hb⟩
end Go.Proofs.Ytbfialebaoeicaa.X
namespace Go.Proofs.Ytbfialebaoeicaa.X
open Go.RowKit Go.Proofs.YtbfialebaoeicaaW.PrintWords Go.Proofs.YtbfialebaoeicaaW.PrintLast Go.Proofs.YtbfialebaoeicaaW.PrintMore
set_option linter.all false
theorem at_set (l : List Int) (D n v : Int) (hD : 0 ≤ D) (hn : n ≠ D) : atW (l.set D.toNat v) n = atW l n := by
 unfold atW
 rw [List.length_set]
 by_cases h : win n l.length = true
 ·have hw := win_at h
  rw [if_pos h, if_pos h, show rd (l.set D.toNat v) n = rd l n by
   unfold rd
   rw [List.getD_eq_getElem?_getD, List.getD_eq_getElem?_getD, List.getElem?_set_ne (by omega)]]
 ·rw [if_neg h, if_neg h]
theorem ans_set (l : List Int) (op D A B K v : Int) (hD : 0 ≤ D) (hA : A ≠ D) (hB : B ≠ D) : ansW (l.set D.toNat v) op A B K = ansW l op A B K := by
 unfold ansW
 rw [at_set l D A v hD hA, at_set l D B v hD hB]
theorem rd_set_same (l : List Int) (D v : Int) (hD : 0 ≤ D) (h1 : D < (l.length : Int)) : rd (l.set D.toNat v) D = v := by
 unfold rd
 rw [List.getD_eq_getElem?_getD, List.getElem?_set_self (by omega)]
 rfl
theorem rd_set_ne (l : List Int) (D n v : Int) (hD : 0 ≤ D) (h0 : 0 ≤ n) (hn : n ≠ D) : rd (l.set D.toNat v) n = rd l n := by
 unfold rd
 rw [List.getD_eq_getElem?_getD, List.getD_eq_getElem?_getD, List.getElem?_set_ne (by omega)]
theorem rk_no {l : List Int} {op D A B K : Int} (At : Int) (h : rkB l op D A B K = false) : rkL l op D A B K = l ∧ rkAt l At op D A B K = At := by
 unfold rkL rkAt
 rw [h]
 exact ⟨rfl, rfl⟩
theorem rk_yes {l : List Int} {op D A B K : Int} (At : Int) (h : rkB l op D A B K = true) : 0 ≤ D ∧ D < (l.length : Int) ∧ rkL l op D A B K = l.set D.toNat (ansW l op A B K).1 ∧ rkAt l At op D A B K = wrap64 (At + 1) := by
 have h2 := h
 unfold rkB at h2
 rw [Bool.and_eq_true] at h2
 have hw := win_at h2.2
 unfold rkL rkAt
 rw [h]
 exact ⟨hw.1, hw.2, rfl, rfl⟩
theorem rk_again {l : List Int} {op D A B K : Int} (h : rkB l op D A B K = true) (hA : A ≠ D) (hB : B ≠ D) : rkB (rkL l op D A B K) op D A B K = true ∧ rd (rkL (rkL l op D A B K) op D A B K) D = rd (rkL l op D A B K) D := by
 obtain ⟨h0, h1, h2, _⟩ := rk_yes 0 h
 have h3 : rkB (rkL l op D A B K) op D A B K = true := by
  unfold rkB at h ⊢
  rw [rkL_len, h2, ans_set l op D A B K _ h0 hA hB]
  exact h
 refine ⟨h3, ?_⟩
 obtain ⟨_, _, h5, _⟩ := rk_yes 0 h3
 rw [h5, rd_set_same _ D _ h0 (by rw [rkL_len]; exact h1), h2, ans_set l op D A B K _ h0 hA hB, rd_set_same l D _ h0 h1]
set_option maxHeartbeats 16000000 in
set_option maxRecDepth 100000 in
theorem one_c (F_ Bl At : Int) (A3 : Option Addr) (c3 : Nat) (l : List Int) (Fly : Int) (x : S49) (A6 : Option Addr) (c6 : Nat) (w : World) (hl : Kd.C (Kd.int .u16) w A3 l.length l) (hc3 : l.length ≤ c3) (hx : Kd.C (Kd.int .i64) w A6 x.f6.length x.f6) (hc6 : x.f6.length ≤ c6) :
  Calls Try.prog 6 #[.agg #[.int .i64 F_, .int .i64 Bl, .int .i64 At, .slice A3 l.length c3, .int .u16 Fly], .agg #[.int .i64 x.f0, .int .i64 x.f1, .int .i64 x.f2, .int .i64 x.f3, .int .u16 x.f4, .int .i64 x.f5, .slice A6 x.f6.length c6]] w fun e w' => e = .returned (.bool true) ∧ Below w.heap.size w w' := by
 have HL := Aside0.mk hl
 have HC3 := Aside0.mk hc3
 have HX := Aside0.mk hx
 have HC6 := Aside0.mk hc6
 clear hl hc3 hx hc6
 have hu55 := Try.underlying55
 have hu49 := Try.underlying49
 by_cases q1 : (300 : Int) < (l.length : Int)
 ·have d1 : decide ((300 : Int) < (l.length : Int)) = true := decide_eq_true q1
  have d1' : decide (300 < l.length) = true := decide_eq_true (by omega)
  clear q1
  go_enter Try.func6, Try.ntmps6
  go_wp2_with (first | ((with_reducible refine gate_dst (N := 2) rfl ?_); refine box_event ?hg (N := 2) ?hd (cs := #[.int .i64 F_, .int .i64 Bl, .int .i64 At, .slice A3 l.length c3, .int .u16 Fly]) (t := 55) ?hr ?_; (case hd => rfl); (case hg => rfl); (case hr => first | (go_simp; done) | (go_simp; rfl)); intro g1 hg w1 hbox hb; have HB := Aside0.mk hb; have X1 := Aside0.mk hbox; clear hbox hb hg) | ((with_reducible refine gate_dst (N := 3) rfl ?_); refine box_event ?hg (N := 3) ?hd (cs := #[.int .i64 x.f0, .int .i64 x.f1, .int .i64 x.f2, .int .i64 x.f3, .int .u16 x.f4, .int .i64 x.f5, .slice A6 x.f6.length c6]) (t := 49) ?hr ?_; (case hd => rfl); (case hg => rfl); (case hr => first | (go_simp; done) | (go_simp; rfl)); intro g2 hg w2 hbox hb; have n0_ := Aside0.mk (below_step HB.out hb); have n1_ := Aside0.mk (blk_below X1.out hb); clear HB X1; have HB := n0_; have X1 := n1_; clear n0_ n1_; have X2 := Aside0.mk hbox; clear hbox hb hg; have h0 := (blk_cell X1.out 0).trans rfl; have h1 := (blk_cell X1.out 1).trans rfl; have h2 := (blk_cell X1.out 2).trans rfl; have h3 := (blk_cell X1.out 3).trans rfl; have h4 := (blk_cell X1.out 4).trans rfl; have k0 := (blk_cell X2.out 0).trans rfl; have k1 := (blk_cell X2.out 1).trans rfl; have k2 := (blk_cell X2.out 2).trans rfl; have k3 := (blk_cell X2.out 3).trans rfl; have k4 := (blk_cell X2.out 4).trans rfl; have k5 := (blk_cell X2.out 5).trans rfl; have k6 := (blk_cell X2.out 6).trans rfl) | (go_at_call 27; (with_reducible refine (awake5_c _).mono ?_); rintro e w6 ⟨rfl, hb⟩; clear h0 h1 h2 h3 h4 k0 k1 k2 k3 k4 k5 k6; have n0_ := Aside0.mk (below_step HB.out hb); have n1_ := Aside0.mk (blk_below X1.out hb); have n2_ := Aside0.mk (blk_below X2.out hb); clear HB X1 X2; have HB := n0_; have X1 := n1_; have X2 := n2_; clear n0_ n1_ n2_; clear hb; have h0 := (blk_cell X1.out 0).trans rfl; have h1 := (blk_cell X1.out 1).trans rfl; have h2 := (blk_cell X1.out 2).trans rfl; have h3 := (blk_cell X1.out 3).trans rfl; have h4 := (blk_cell X1.out 4).trans rfl; have k0 := (blk_cell X2.out 0).trans rfl; have k1 := (blk_cell X2.out 1).trans rfl; have k2 := (blk_cell X2.out 2).trans rfl; have k3 := (blk_cell X2.out 3).trans rfl; have k4 := (blk_cell X2.out 4).trans rfl; have k5 := (blk_cell X2.out 5).trans rfl; have k6 := (blk_cell X2.out 6).trans rfl))
  go_ret
  exact ⟨rfl, HB.out⟩
 have d1 : decide ((300 : Int) < (l.length : Int)) = false := decide_eq_false q1
 have d1' : decide (300 < l.length) = false := decide_eq_false (by omega)
 by_cases q2 : At < 0
 ·have d2 : decide (At < 0) = true := decide_eq_true q2
  clear q1 q2
  go_enter Try.func6, Try.ntmps6
  go_wp2_with (first | ((with_reducible refine gate_dst (N := 2) rfl ?_); refine box_event ?hg (N := 2) ?hd (cs := #[.int .i64 F_, .int .i64 Bl, .int .i64 At, .slice A3 l.length c3, .int .u16 Fly]) (t := 55) ?hr ?_; (case hd => rfl); (case hg => rfl); (case hr => first | (go_simp; done) | (go_simp; rfl)); intro g1 hg w1 hbox hb; have HB := Aside0.mk hb; have X1 := Aside0.mk hbox; clear hbox hb hg) | ((with_reducible refine gate_dst (N := 3) rfl ?_); refine box_event ?hg (N := 3) ?hd (cs := #[.int .i64 x.f0, .int .i64 x.f1, .int .i64 x.f2, .int .i64 x.f3, .int .u16 x.f4, .int .i64 x.f5, .slice A6 x.f6.length c6]) (t := 49) ?hr ?_; (case hd => rfl); (case hg => rfl); (case hr => first | (go_simp; done) | (go_simp; rfl)); intro g2 hg w2 hbox hb; have n0_ := Aside0.mk (below_step HB.out hb); have n1_ := Aside0.mk (blk_below X1.out hb); clear HB X1; have HB := n0_; have X1 := n1_; clear n0_ n1_; have X2 := Aside0.mk hbox; clear hbox hb hg; have h0 := (blk_cell X1.out 0).trans rfl; have h1 := (blk_cell X1.out 1).trans rfl; have h2 := (blk_cell X1.out 2).trans rfl; have h3 := (blk_cell X1.out 3).trans rfl; have h4 := (blk_cell X1.out 4).trans rfl; have k0 := (blk_cell X2.out 0).trans rfl; have k1 := (blk_cell X2.out 1).trans rfl; have k2 := (blk_cell X2.out 2).trans rfl; have k3 := (blk_cell X2.out 3).trans rfl; have k4 := (blk_cell X2.out 4).trans rfl; have k5 := (blk_cell X2.out 5).trans rfl; have k6 := (blk_cell X2.out 6).trans rfl) | (go_at_call 27; (with_reducible refine (awake5_c _).mono ?_); rintro e w6 ⟨rfl, hb⟩; clear h0 h1 h2 h3 h4 k0 k1 k2 k3 k4 k5 k6; have n0_ := Aside0.mk (below_step HB.out hb); have n1_ := Aside0.mk (blk_below X1.out hb); have n2_ := Aside0.mk (blk_below X2.out hb); clear HB X1 X2; have HB := n0_; have X1 := n1_; have X2 := n2_; clear n0_ n1_ n2_; clear hb; have h0 := (blk_cell X1.out 0).trans rfl; have h1 := (blk_cell X1.out 1).trans rfl; have h2 := (blk_cell X1.out 2).trans rfl; have h3 := (blk_cell X1.out 3).trans rfl; have h4 := (blk_cell X1.out 4).trans rfl; have k0 := (blk_cell X2.out 0).trans rfl; have k1 := (blk_cell X2.out 1).trans rfl; have k2 := (blk_cell X2.out 2).trans rfl; have k3 := (blk_cell X2.out 3).trans rfl; have k4 := (blk_cell X2.out 4).trans rfl; have k5 := (blk_cell X2.out 5).trans rfl; have k6 := (blk_cell X2.out 6).trans rfl))
  go_ret
  exact ⟨rfl, HB.out⟩
 have d2 : decide (At < 0) = false := decide_eq_false q2
 by_cases q3 : 1000 < At
 ·have d3 : decide (1000 < At) = true := decide_eq_true q3
  clear q1 q2 q3
  go_enter Try.func6, Try.ntmps6
  go_wp2_with (first | ((with_reducible refine gate_dst (N := 2) rfl ?_); refine box_event ?hg (N := 2) ?hd (cs := #[.int .i64 F_, .int .i64 Bl, .int .i64 At, .slice A3 l.length c3, .int .u16 Fly]) (t := 55) ?hr ?_; (case hd => rfl); (case hg => rfl); (case hr => first | (go_simp; done) | (go_simp; rfl)); intro g1 hg w1 hbox hb; have HB := Aside0.mk hb; have X1 := Aside0.mk hbox; clear hbox hb hg) | ((with_reducible refine gate_dst (N := 3) rfl ?_); refine box_event ?hg (N := 3) ?hd (cs := #[.int .i64 x.f0, .int .i64 x.f1, .int .i64 x.f2, .int .i64 x.f3, .int .u16 x.f4, .int .i64 x.f5, .slice A6 x.f6.length c6]) (t := 49) ?hr ?_; (case hd => rfl); (case hg => rfl); (case hr => first | (go_simp; done) | (go_simp; rfl)); intro g2 hg w2 hbox hb; have n0_ := Aside0.mk (below_step HB.out hb); have n1_ := Aside0.mk (blk_below X1.out hb); clear HB X1; have HB := n0_; have X1 := n1_; clear n0_ n1_; have X2 := Aside0.mk hbox; clear hbox hb hg; have h0 := (blk_cell X1.out 0).trans rfl; have h1 := (blk_cell X1.out 1).trans rfl; have h2 := (blk_cell X1.out 2).trans rfl; have h3 := (blk_cell X1.out 3).trans rfl; have h4 := (blk_cell X1.out 4).trans rfl; have k0 := (blk_cell X2.out 0).trans rfl; have k1 := (blk_cell X2.out 1).trans rfl; have k2 := (blk_cell X2.out 2).trans rfl; have k3 := (blk_cell X2.out 3).trans rfl; have k4 := (blk_cell X2.out 4).trans rfl; have k5 := (blk_cell X2.out 5).trans rfl; have k6 := (blk_cell X2.out 6).trans rfl) | (go_at_call 27; (with_reducible refine (awake5_c _).mono ?_); rintro e w6 ⟨rfl, hb⟩; clear h0 h1 h2 h3 h4 k0 k1 k2 k3 k4 k5 k6; have n0_ := Aside0.mk (below_step HB.out hb); have n1_ := Aside0.mk (blk_below X1.out hb); have n2_ := Aside0.mk (blk_below X2.out hb); clear HB X1 X2; have HB := n0_; have X1 := n1_; have X2 := n2_; clear n0_ n1_ n2_; clear hb; have h0 := (blk_cell X1.out 0).trans rfl; have h1 := (blk_cell X1.out 1).trans rfl; have h2 := (blk_cell X1.out 2).trans rfl; have h3 := (blk_cell X1.out 3).trans rfl; have h4 := (blk_cell X1.out 4).trans rfl; have k0 := (blk_cell X2.out 0).trans rfl; have k1 := (blk_cell X2.out 1).trans rfl; have k2 := (blk_cell X2.out 2).trans rfl; have k3 := (blk_cell X2.out 3).trans rfl; have k4 := (blk_cell X2.out 4).trans rfl; have k5 := (blk_cell X2.out 5).trans rfl; have k6 := (blk_cell X2.out 6).trans rfl))
  go_ret
  exact ⟨rfl, HB.out⟩
 have d3 : decide (1000 < At) = false := decide_eq_false q3
 have HN := Aside0.mk (show l.length ≤ 300 ∧ 0 ≤ At ∧ At ≤ 1000 by omega)
 clear q1 q2 q3
 go_enter Try.func6, Try.ntmps6
 go_upto_region 5 with (first | ((with_reducible refine gate_dst (N := 2) rfl ?_); refine box_event ?hg (N := 2) ?hd (cs := #[.int .i64 F_, .int .i64 Bl, .int .i64 At, .slice A3 l.length c3, .int .u16 Fly]) (t := 55) ?hr ?_; (case hd => rfl); (case hg => rfl); (case hr => first | (go_simp; done) | (go_simp; rfl)); intro g1 hg w1 hbox hb; have HB := Aside0.mk hb; have X1 := Aside0.mk hbox; clear hbox hb hg) | ((with_reducible refine gate_dst (N := 3) rfl ?_); refine box_event ?hg (N := 3) ?hd (cs := #[.int .i64 x.f0, .int .i64 x.f1, .int .i64 x.f2, .int .i64 x.f3, .int .u16 x.f4, .int .i64 x.f5, .slice A6 x.f6.length c6]) (t := 49) ?hr ?_; (case hd => rfl); (case hg => rfl); (case hr => first | (go_simp; done) | (go_simp; rfl)); intro g2 hg w2 hbox hb; have n0_ := Aside0.mk (below_step HB.out hb); have n1_ := Aside0.mk (blk_below X1.out hb); clear HB X1; have HB := n0_; have X1 := n1_; clear n0_ n1_; have X2 := Aside0.mk hbox; clear hbox hb hg; have h0 := (blk_cell X1.out 0).trans rfl; have h1 := (blk_cell X1.out 1).trans rfl; have h2 := (blk_cell X1.out 2).trans rfl; have h3 := (blk_cell X1.out 3).trans rfl; have h4 := (blk_cell X1.out 4).trans rfl; have k0 := (blk_cell X2.out 0).trans rfl; have k1 := (blk_cell X2.out 1).trans rfl; have k2 := (blk_cell X2.out 2).trans rfl; have k3 := (blk_cell X2.out 3).trans rfl; have k4 := (blk_cell X2.out 4).trans rfl; have k5 := (blk_cell X2.out 5).trans rfl; have k6 := (blk_cell X2.out 6).trans rfl) | (go_at_call 27; (with_reducible refine (awake5_c _).mono ?_); rintro e w6 ⟨rfl, hb⟩; clear h0 h1 h2 h3 h4 k0 k1 k2 k3 k4 k5 k6; have n0_ := Aside0.mk (below_step HB.out hb); have n1_ := Aside0.mk (blk_below X1.out hb); have n2_ := Aside0.mk (blk_below X2.out hb); clear HB X1 X2; have HB := n0_; have X1 := n1_; have X2 := n2_; clear n0_ n1_ n2_; clear hb; have h0 := (blk_cell X1.out 0).trans rfl; have h1 := (blk_cell X1.out 1).trans rfl; have h2 := (blk_cell X1.out 2).trans rfl; have h3 := (blk_cell X1.out 3).trans rfl; have h4 := (blk_cell X1.out 4).trans rfl; have k0 := (blk_cell X2.out 0).trans rfl; have k1 := (blk_cell X2.out 1).trans rfl; have k2 := (blk_cell X2.out 2).trans rfl; have k3 := (blk_cell X2.out 3).trans rfl; have k4 := (blk_cell X2.out 4).trans rfl; have k5 := (blk_cell X2.out 5).trans rfl; have k6 := (blk_cell X2.out 6).trans rfl))
 go_cut [5, 6] (fun v5 v6 wc => ∃ g5 : Nat, v5 = .pointer (some ⟨g5, 0, none⟩) ∧ v6 = .bool (rkB l x.f0 x.f1 x.f2 x.f3 x.f4) ∧ Aside0 (Below w.heap.size w wc) ∧ Aside0 (wc.heap[g1]? = some (.cells #[.int .i64 F_, .int .i64 Bl, .int .i64 At, .slice A3 l.length c3, .int .u16 Fly] 55 (0, 0))) ∧ Aside0 (wc.heap[g2]? = some (.cells #[.int .i64 x.f0, .int .i64 x.f1, .int .i64 x.f2, .int .i64 x.f3, .int .u16 x.f4, .int .i64 x.f5, .slice A6 x.f6.length c6] 49 (0, 0))) ∧ Aside0 (∃ Ao co, wc.heap[g5]? = some (.cells #[.int .i64 F_, .int .i64 Bl, .int .i64 (rkAt l At x.f0 x.f1 x.f2 x.f3 x.f4), .slice Ao (rkL l x.f0 x.f1 x.f2 x.f3 x.f4).length co, .int .u16 Fly] 55 (0, 0)) ∧ (rkL l x.f0 x.f1 x.f2 x.f3 x.f4).length ≤ co ∧ Kd.C (Kd.int .u16) wc Ao (rkL l x.f0 x.f1 x.f2 x.f3 x.f4).length (rkL l x.f0 x.f1 x.f2 x.f3 x.f4)))
 case first =>
  go_wp2_with (go_at_call 28; go_loud ((with_reducible refine (reck_c F_ Bl At A3 c3 l Fly x A6 c6 _ (Kd.C_below HL.out HB.out) HC3.out (Kd.C_below HX.out HB.out) HC6.out (by have := HN.out; omega)).mono ?_); rintro e w7 ⟨⟨Ao, co, rfl, hlo, hr⟩, hb⟩; have HR := Aside0.mk (Kd.R_reads' hr).2.2; have HLO := Aside0.mk hlo; have HB7 := Aside0.mk hb; clear hr hlo hb))
  go_meet
  exact ⟨_, rfl, rfl, ⟨below_alloc (HB.out.trans (HB7.out.mono HB.out.size)) _⟩, ⟨blk_alloc (blk_below X1.out HB7.out) _⟩, ⟨blk_alloc (blk_below X2.out HB7.out) _⟩, ⟨_, _, blk_new _ _, HLO.out, Kd.C_below HR.out (below_alloc (Below.refl _ _) _)⟩⟩
 case rest =>
  clear HB X1 X2; clear h0 h1 h2 h3 h4 k0 k1 k2 k3 k4 k5 k6; clear d1 d1' d2 d3
  obtain ⟨g5, rfl, rfl, HB, X1, X2, X5⟩ := hcut
  obtain ⟨Ao, co, hx5, hlo, hr5⟩ := X5.out
  have Y5 := Aside0.mk hx5
  have HLO := Aside0.mk hlo
  have HR5 := Aside0.mk hr5
  clear hx5 hlo hr5 X5
  have h0 := (blk_cell X1.out 0).trans rfl
  have h1 := (blk_cell X1.out 1).trans rfl
  have h2 := (blk_cell X1.out 2).trans rfl
  have h3 := (blk_cell X1.out 3).trans rfl
  have h4 := (blk_cell X1.out 4).trans rfl
  have k0 := (blk_cell X2.out 0).trans rfl
  have k1 := (blk_cell X2.out 1).trans rfl
  have k2 := (blk_cell X2.out 2).trans rfl
  have k3 := (blk_cell X2.out 3).trans rfl
  have k4 := (blk_cell X2.out 4).trans rfl
  have k5 := (blk_cell X2.out 5).trans rfl
  have k6 := (blk_cell X2.out 6).trans rfl
  cases hok : rkB l x.f0 x.f1 x.f2 x.f3 x.f4 with
  | false =>
   have HZ := Aside0.mk (rk_no At hok)
   rw [HZ.out.1] at HR5 HLO Y5
   rw [HZ.out.2] at Y5
   have s0 := (blk_cell Y5.out 0).trans rfl
   have s1 := (blk_cell Y5.out 1).trans rfl
   have s2 := (blk_cell Y5.out 2).trans rfl
   have s3 := (blk_cell Y5.out 3).trans rfl
   have s4 := (blk_cell Y5.out 4).trans rfl
   go_wp2_with (go_at_call 29; go_loud (with_reducible refine (same5_c F_ Bl At Ao co l Fly F_ Bl At A3 c3 l Fly _ HR5.out HLO.out (Kd.C_below HL.out HB.out) HC3.out (by have := HN.out; omega)).mono ?_); rintro e w7 ⟨rfl, hb⟩; have HB7 := Aside0.mk (HB.out.trans (hb.mono HB.out.size)); clear hb)
   go_ret
   exact ⟨ret_b (sameW_refl _ _ _ _ _), HB7.out⟩
  | true =>
   have HY := Aside0.mk (rk_yes At hok)
   have HAG := Aside0.mk (rk_again (A := x.f2) (B := x.f3) hok)
   have HL2 := Aside0.mk (rkL_len l x.f0 x.f1 x.f2 x.f3 x.f4)
   have HRD := Aside0.mk (show ∀ n : Int, 0 ≤ n → n ≠ x.f1 → rd (rkL l x.f0 x.f1 x.f2 x.f3 x.f4) n = rd l n from fun n h0 hn => by rw [HY.out.2.2.1]; exact rd_set_ne l x.f1 n _ HY.out.1 h0 hn)
   have HY2 := Aside0.mk (And.intro HY.out.1 HY.out.2.1)
   rw [HY.out.2.2.2] at Y5
   clear hok HY
   generalize hl2 : (rkL l x.f0 x.f1 x.f2 x.f3 x.f4) = l2 at *
   clear hl2
   rw [HL2.out] at Y5 HLO HR5
   have s0 := (blk_cell Y5.out 0).trans rfl
   have s1 := (blk_cell Y5.out 1).trans rfl
   have s2 := (blk_cell Y5.out 2).trans rfl
   have s3 := (blk_cell Y5.out 3).trans rfl
   have s4 := (blk_cell Y5.out 4).trans rfl
   have e1 : decide (x.f1 < 0) = false := decide_eq_false (by have := HY2.out; omega)
   have e2 : decide ((l.length : Int) ≤ x.f1) = false := decide_eq_false (by have := HY2.out; omega)
   go_wp2
   clear h0 h1 h2 h3 h4 k0 k1 k2 k3 k4 k5 k6; clear s0 s1 s2 s3 s4; clear e1 e2
   go_loopg [7] 1000000 (fun gg s wr => ∃ y : Int, s = .int .i64 y ∧ Aside0 (0 ≤ y ∧ y ≤ l.length ∧ (l.length : Int) - y ≤ gg) ∧ Aside0 (Below w.heap.size w wr) ∧ Aside0 (wr.heap[g1]? = some (.cells #[.int .i64 F_, .int .i64 Bl, .int .i64 At, .slice A3 l.length c3, .int .u16 Fly] 55 (0, 0))) ∧ Aside0 (wr.heap[g2]? = some (.cells #[.int .i64 x.f0, .int .i64 x.f1, .int .i64 x.f2, .int .i64 x.f3, .int .u16 x.f4, .int .i64 x.f5, .slice A6 x.f6.length c6] 49 (0, 0))) ∧ Aside0 (wr.heap[g5]? = some (.cells #[.int .i64 F_, .int .i64 Bl, .int .i64 (wrap64 (At + 1)), .slice Ao l.length co, .int .u16 Fly] 55 (0, 0))) ∧ Aside0 (Kd.C (Kd.int .u16) wr Ao l.length l2))
   case atStart => exact ⟨0, rfl, ⟨by have := HN.out; omega⟩, HB, X1, X2, Y5, HR5⟩
   case round =>
    clear HB X1 X2 Y5 HR5
    obtain ⟨y, rfl, HYY, HB, X1, X2, Y5, HR5⟩ := hrel
    have h0 := (blk_cell X1.out 0).trans rfl
    have h1 := (blk_cell X1.out 1).trans rfl
    have h2 := (blk_cell X1.out 2).trans rfl
    have h3 := (blk_cell X1.out 3).trans rfl
    have h4 := (blk_cell X1.out 4).trans rfl
    have k0 := (blk_cell X2.out 0).trans rfl
    have k1 := (blk_cell X2.out 1).trans rfl
    have k2 := (blk_cell X2.out 2).trans rfl
    have k3 := (blk_cell X2.out 3).trans rfl
    have k4 := (blk_cell X2.out 4).trans rfl
    have k5 := (blk_cell X2.out 5).trans rfl
    have k6 := (blk_cell X2.out 6).trans rfl
    have s0 := (blk_cell Y5.out 0).trans rfl
    have s1 := (blk_cell Y5.out 1).trans rfl
    have s2 := (blk_cell Y5.out 2).trans rfl
    have s3 := (blk_cell Y5.out 3).trans rfl
    have s4 := (blk_cell Y5.out 4).trans rfl
    by_cases hlt : y < (l.length : Int)
    rotate_left
    ·have hd : decide (y < (l.length : Int)) = false := decide_eq_false hlt
     clear hlt
     cases a1 : (x.f2 == x.f1) with
     | true => go_wp2; go_ret; exact ⟨rfl, HB.out⟩
     | false =>
      cases a2 : (x.f3 == x.f1) with
      | true => go_wp2; go_ret; exact ⟨rfl, HB.out⟩
      | false =>
       have HAA := Aside0.mk (HAG.out (beq_eq_false_iff_ne.1 a1) (beq_eq_false_iff_ne.1 a2))
       have HRK := Aside0.mk (show ∀ W : World, Below wr.heap.size wr W → Calls Try.prog 28 #[.agg #[.int .i64 F_, .int .i64 Bl, .int .i64 (wrap64 (At + 1)), .slice Ao l.length co, .int .u16 Fly], .agg #[.int .i64 x.f0, .int .i64 x.f1, .int .i64 x.f2, .int .i64 x.f3, .int .u16 x.f4, .int .i64 x.f5, .slice A6 x.f6.length c6]] W fun e w' => (∃ Ao' co', e = .returned (.tuple #[.agg #[.int .i64 F_, .int .i64 Bl, .int .i64 (rkAt l2 (wrap64 (At + 1)) x.f0 x.f1 x.f2 x.f3 x.f4), .slice Ao' l.length co', .int .u16 Fly], .bool true]) ∧ Kd.C (Kd.int .u16) w' Ao' l.length (rkL l2 x.f0 x.f1 x.f2 x.f3 x.f4)) ∧ Below W.heap.size W w' by
        intro W hW
        have h_ := reck_c F_ Bl (wrap64 (At + 1)) Ao co l2 Fly x A6 c6 W (by rw [HL2.out]; exact Kd.C_below HR5.out hW) (by rw [HL2.out]; exact HLO.out) (Kd.C_below HX.out (HB.out.trans (hW.mono HB.out.size))) HC6.out (by rw [HL2.out]; have := HN.out; omega)
        rw [rkL_len l2 x.f0 x.f1 x.f2 x.f3 x.f4, HL2.out, HAA.out.1] at h_
        refine h_.mono ?_
        rintro e w' ⟨⟨Ao', co', rfl, _, hr⟩, hb⟩
        have hr2 := (Kd.R_reads' hr).2.2
        rw [rkL_len l2 x.f0 x.f1 x.f2 x.f3 x.f4, HL2.out] at hr2
        exact ⟨⟨Ao', co', rfl, hr2⟩, hb⟩)
       go_upto_region 17 with (fail)
       go_cut [8, 9] (fun v8 v9 wc => ∃ g8 : Nat, v8 = .pointer (some ⟨g8, 0, none⟩) ∧ v9 = .bool true ∧ Aside0 (Below w.heap.size w wc) ∧ Aside0 (wc.heap[g1]? = some (.cells #[.int .i64 F_, .int .i64 Bl, .int .i64 At, .slice A3 l.length c3, .int .u16 Fly] 55 (0, 0))) ∧ Aside0 (wc.heap[g2]? = some (.cells #[.int .i64 x.f0, .int .i64 x.f1, .int .i64 x.f2, .int .i64 x.f3, .int .u16 x.f4, .int .i64 x.f5, .slice A6 x.f6.length c6] 49 (0, 0))) ∧ Aside0 (wc.heap[g5]? = some (.cells #[.int .i64 F_, .int .i64 Bl, .int .i64 (wrap64 (At + 1)), .slice Ao l.length co, .int .u16 Fly] 55 (0, 0))) ∧ Aside0 (Kd.C (Kd.int .u16) wc Ao l.length l2) ∧ Aside0 (∃ Ao' co' at', wc.heap[g8]? = some (.cells #[.int .i64 F_, .int .i64 Bl, .int .i64 at', .slice Ao' l.length co', .int .u16 Fly] 55 (0, 0)) ∧ Kd.C (Kd.int .u16) wc Ao' l.length (rkL l2 x.f0 x.f1 x.f2 x.f3 x.f4)))
       case first =>
        go_wp2_with (go_at_call 28; go_loud ((with_reducible refine (HRK.out _ (Below.refl _ _)).mono ?_); rintro e w7 ⟨⟨Ao', co', rfl, hr⟩, hb⟩; have HR := Aside0.mk hr; have HB7 := Aside0.mk hb; clear hr hb))
        go_meet
        exact ⟨_, rfl, rfl, ⟨below_alloc (HB.out.trans (HB7.out.mono HB.out.size)) _⟩, ⟨blk_alloc (blk_below X1.out HB7.out) _⟩, ⟨blk_alloc (blk_below X2.out HB7.out) _⟩, ⟨blk_alloc (blk_below Y5.out HB7.out) _⟩, ⟨Kd.C_below HR5.out (below_alloc HB7.out _)⟩, ⟨_, _, _, blk_new _ _, Kd.C_below HR.out (below_alloc (Below.refl _ _) _)⟩⟩
       case rest =>
        clear HB X1 X2 Y5 HR5 HRK
        clear h0 h1 h2 h3 h4 k0 k1 k2 k3 k4 k5 k6; clear s0 s1 s2 s3 s4
        obtain ⟨g8, rfl, rfl, HB, X1, X2, Y5, HR5, X8⟩ := hcut
        obtain ⟨Ao', co', at', hx8, hr8⟩ := X8.out
        have Y8 := Aside0.mk hx8
        clear hx8 X8
        have h0 := (blk_cell X1.out 0).trans rfl
        have h1 := (blk_cell X1.out 1).trans rfl
        have h2 := (blk_cell X1.out 2).trans rfl
        have h3 := (blk_cell X1.out 3).trans rfl
        have h4 := (blk_cell X1.out 4).trans rfl
        have k0 := (blk_cell X2.out 0).trans rfl
        have k1 := (blk_cell X2.out 1).trans rfl
        have k2 := (blk_cell X2.out 2).trans rfl
        have k3 := (blk_cell X2.out 3).trans rfl
        have k4 := (blk_cell X2.out 4).trans rfl
        have k5 := (blk_cell X2.out 5).trans rfl
        have k6 := (blk_cell X2.out 6).trans rfl
        have s0 := (blk_cell Y5.out 0).trans rfl
        have s1 := (blk_cell Y5.out 1).trans rfl
        have s2 := (blk_cell Y5.out 2).trans rfl
        have s3 := (blk_cell Y5.out 3).trans rfl
        have s4 := (blk_cell Y5.out 4).trans rfl
        have t0 := (blk_cell Y8.out 0).trans rfl
        have t1 := (blk_cell Y8.out 1).trans rfl
        have t2 := (blk_cell Y8.out 2).trans rfl
        have t3 := (blk_cell Y8.out 3).trans rfl
        have t4 := (blk_cell Y8.out 4).trans rfl
        have p1 : (0 ≤ x.f1) = True := eq_true HY2.out.1
        have p2 : (x.f1 < (l.length : Int)) = True := eq_true HY2.out.2
        obtain ⟨ad, z1, hv⟩ := Kd.at_int HR5.out x.f1 HY2.out.1 HY2.out.2
        subst z1
        obtain ⟨ad', z1, hv'⟩ := Kd.at_int hr8 x.f1 HY2.out.1 HY2.out.2
        subst z1
        rw [HAA.out.2] at hv'
        clear hr8
        go_wp2
        go_quiet (fail)
        go_wp2
        go_ret
        exact ⟨rfl, pw_below_drewN HB.out _⟩
    have hd : decide (y < (l.length : Int)) = true := decide_eq_true hlt
    have HLT := Aside0.mk hlt
    have HLT2 := Aside0.mk (show y < (l.length : Int) from hlt)
    clear hlt
    have p1 : (0 ≤ y) = True := eq_true HYY.out.1
    have p2 : (y < (l.length : Int)) = True := eq_true HLT.out
    obtain ⟨ad, z1, hv⟩ := Kd.at_int HR5.out y HYY.out.1 HLT.out
    subst z1
    obtain ⟨ad', z1, hv'⟩ := Kd.at_int (Kd.C_below HL.out HB.out) y HYY.out.1 HLT.out
    subst z1
    cases hq : (y == x.f1) with
    | true =>
     have hq2 : (y != x.f1) = false := by rw [bne, hq]; rfl
     go_wp2
     go_quiet (fail)
     go_wp2
     have W1 := Aside0.mk (show wrap64 (y + 1) = y + 1 from wrap_in _ (by have := HYY.out; omega) (by have := HLT.out; have := HN.out; omega))
     go_roundg ((l.length : Int) - (y + 1)).toNat
     case measure => have h1_ := HYY.out; have h2_ := HLT.out; omega
     case rel => exact ⟨y + 1, by first | (rw [W1.out]; done) | rfl | (simp only [W1.out]; done), ⟨by have := HYY.out; have := HLT.out; omega⟩, ⟨pw_below_drewN HB.out _⟩, ⟨blk_drewN X1.out _⟩, ⟨blk_drewN X2.out _⟩, ⟨blk_drewN Y5.out _⟩, ⟨Kd.C_drewN HR5.out _⟩⟩
    | false =>
     have hq2 : (y != x.f1) = true := by rw [bne, hq]; rfl
     rw [HRD.out y HYY.out.1 (beq_eq_false_iff_ne.1 hq)] at hv
     go_wp2
     go_quiet (fail)
     go_wp2
     have W1 := Aside0.mk (show wrap64 (y + 1) = y + 1 from wrap_in _ (by have := HYY.out; omega) (by have := HLT.out; have := HN.out; omega))
     go_roundg ((l.length : Int) - (y + 1)).toNat
     case measure => have h1_ := HYY.out; have h2_ := HLT.out; omega
     case rel => exact ⟨y + 1, by first | (rw [W1.out]; done) | rfl | (simp only [W1.out]; done), ⟨by have := HYY.out; have := HLT.out; omega⟩, ⟨pw_below_drewN HB.out _⟩, ⟨blk_drewN X1.out _⟩, ⟨blk_drewN X2.out _⟩, ⟨blk_drewN Y5.out _⟩, ⟨Kd.C_drewN HR5.out _⟩⟩
end Go.Proofs.Ytbfialebaoeicaa.X
namespace Go.Proofs.Ytbfialebaoeicaa.X
open Go.RowKit Go.Proofs.YtbfialebaoeicaaW.PrintWords
set_option linter.all false
theorem law_one.calls (f b a : Int) (A : Option Addr) (c : Nat) (l : List Int) (y : Int) (x : S49) (A6 : Option Addr) (c6 : Nat) (r : Bool) (w : World) (hC : Kd.C (Kd.int .u16) w A l.length l) (hc : l.length ≤ c) (hx : Kd.C (Kd.int .i64) w A6 x.f6.length x.f6) (hc6 : x.f6.length ≤ c6) (_ : True) :
  Calls Try.prog 6 #[.agg #[.int .i64 f, .int .i64 b, .int .i64 a, .slice A l.length c, .int .u16 y], .agg #[.int .i64 x.f0, .int .i64 x.f1, .int .i64 x.f2, .int .i64 x.f3, .int .u16 x.f4, .int .i64 x.f5, .slice A6 x.f6.length c6]] w fun e w' => e = .returned (.bool true) ∧ Below w.heap.size w w' :=
 one_c f b a A c l y x A6 c6 w hC hc hx hc6
end Go.Proofs.Ytbfialebaoeicaa.X
namespace Go.Proofs.Ytbfialebaoeicaa.X
open Go.ChangeShapes Go.WideShapes Go.ChangeAt Go.RowKit Go.Proofs.YtbfialebaoeicaaW.PrintWords Go.Proofs.YtbfialebaoeicaaW.PrintLast Go.Proofs.YtbfialebaoeicaaW.PrintMore
set_option linter.all false
set_option maxRecDepth 100000
def Opens {α : Type} (d : Kd α) (t : TypeId) : Prop := ∀ (H : Type) (enc : TypeId × Value → H) (w : World) (fuel : Nat) (cs : List Value) (x : DataW H × List MemPlace),
 DataW.trod enc Try.prog w 0 (fun _ => true) true fuel t cs = some x → ∃ a, d.K w a cs
theorem Opens.int {k : IntKind} {t : TypeId} (ht : Try.prog.underlying t = some (.int k)) : Opens (Kd.int k) t := fun H enc w fuel cs x h => by
 obtain ⟨n, rfl, _⟩ := DataW.trod_int ht h
 exact ⟨n, rfl⟩
theorem Opens.bool {t : TypeId} (ht : Try.prog.underlying t = some .bool) : Opens Kd.bool t := fun H enc w fuel cs x h => by
 obtain ⟨n, rfl, _⟩ := DataW.trod_bool ht h
 exact ⟨n, rfl⟩
theorem Opens.slice {α : Type} {d : Kd α} {t e : TypeId} (e' : Nat) (ht : Try.prog.underlying t = some (.slice e)) (hd : Opens d e) (hs : d.sz = Try.prog.cellsOf e) : Opens (Kd.slice e' d) t := fun H enc w fuel cs x h => by
 rcases Go.Deep.open_slice ht h with ⟨rfl, _⟩ | ⟨a, len, cap, m, n, D, Pl, rfl, _, hl, hm, hmm, _, hx⟩
 ·exact ⟨[], none, 0, rfl, Nat.le_refl _, ⟨rfl, by simp, fun h => absurd h (by simp)⟩⟩
 ·have hlm : len ≤ m := by rw [hmm]; split <;> omega
  have key : ∀ j, j ≤ len → ∃ xs : List α, xs.length = j ∧ ∀ i p, xs[i]? = some p → ∃ c, c.length = d.sz ∧ d.K w p c ∧ ∀ q u, c[q]? = some u → w.cell? (a.add (i * d.sz + q)) = some u := by
   intro j
   induction j with
   | zero => exact fun _ => ⟨[], rfl, fun i p h => by simp at h⟩
   | succ j ih =>
    intro hj
    obtain ⟨xs, h1, h2⟩ := ih (by omega)
    obtain ⟨cs', h3, h4⟩ := hx j (by omega)
    obtain ⟨p, hp⟩ := hd H enc w n cs' _ h4
    obtain ⟨_, h5, h6⟩ := World.cells?_some h3
    refine ⟨xs ++ [p], by simp [h1], fun i q hq => ?_⟩
    by_cases hi : i < j
    ·rw [List.getElem?_append_left (by omega)] at hq
     exact h2 i q hq
    ·have hi' : i = j := by
      have := (List.getElem?_eq_some_iff.1 hq).1
      simp [h1] at this; omega
     subst hi'
     rw [List.getElem?_append_right (by omega), h1, Nat.sub_self] at hq
     simp at hq
     subst hq
     refine ⟨cs', by rw [h5, hs], hp, fun z u hz => ?_⟩
     have hzl := (List.getElem?_eq_some_iff.1 hz).1
     have := h6 z (by omega)
     rw [Go.Deep.add_add, ← hs] at this
     rw [this, hz]
  obtain ⟨xs, h1, h2⟩ := key len (Nat.le_refl _)
  have hmx : maxLen ≤ 9223372036854775807 := by decide
  exact ⟨xs, some a, cap, by rw [h1], by rw [h1]; exact hl, ⟨rfl, by omega, fun _ => ⟨a, rfl, h2⟩⟩⟩
theorem Opens.iso {α β : Type} {d : Kd α} {t : TypeId} (f : β → α) (g : α → β) (hg : ∀ y, f (g y) = y) (h : Opens d t) : Opens (Kd.iso d f) t := fun H enc w fuel cs x hx => by
 obtain ⟨a, ha⟩ := h H enc w fuel cs x hx
 exact ⟨g a, show d.K w (f (g a)) cs by rw [hg]; exact ha⟩
def OpensF {α : Type} (d : Kd α) (fs : List Field) (off : Nat) : Prop := ∀ (H : Type) (enc : TypeId × Value → H) (w : World) (n : Nat) (cs : List Value), cs.length = off + d.sz →
 (∀ f ∈ fs, ∃ y, DataW.trod enc Try.prog w 0 (fun _ => true) true n f.type ((cs.drop f.offset).take (Try.prog.cellsOf f.type)) = some y) → ∃ a, d.K w a (cs.drop off)
theorem OpensF.one {α : Type} {d : Kd α} {f : Field} {off : Nat} (ho : f.offset = off) (hd : Opens d f.type) (hs : Try.prog.cellsOf f.type = d.sz) : OpensF d [f] off := fun H enc w n cs hl h => by
 obtain ⟨y, hy⟩ := h f (List.mem_cons_self ..)
 rw [ho, hs, List.take_of_length_le (by rw [List.length_drop]; omega)] at hy
 exact hd H enc w n _ _ hy
theorem OpensF.cons {α β : Type} {d : Kd α} {d2 : Kd β} {f : Field} {fs : List Field} {off : Nat} (ho : f.offset = off) (hd : Opens d f.type) (hs : Try.prog.cellsOf f.type = d.sz) (h2 : OpensF d2 fs (off + d.sz)) : OpensF (Kd.pair d d2) (f :: fs) off := fun H enc w n cs hl h => by
 obtain ⟨y, hy⟩ := h f (List.mem_cons_self ..)
 rw [ho, hs] at hy
 obtain ⟨a, ha⟩ := hd H enc w n _ _ hy
 have hl' : cs.length = off + (d.sz + d2.sz) := hl
 obtain ⟨b, hb⟩ := h2 H enc w n cs (by omega) fun g hg => h g (List.mem_cons_of_mem _ hg)
 refine ⟨(a, b), _, _, ?_, ha, hb⟩
 rw [show cs.drop (off + d.sz) = (cs.drop off).drop d.sz by rw [List.drop_drop], List.take_append_drop]
theorem Opens.struct {α : Type} {d : Kd α} {t : TypeId} {fs : Array Field} (ht : Try.prog.underlying t = some (.struct fs)) (hs : Try.prog.cellsOf t = d.sz) (h : OpensF d fs.toList 0) : Opens d t := fun H enc w fuel cs x hx => by
 obtain ⟨xs, n, _, _, hl, hlen, hf⟩ := DataW.trod_struct ht hx
 have := h H enc w n cs (by omega) fun f hm => by
  obtain ⟨i, hi, e⟩ := List.getElem_of_mem hm
  have hi' : i < fs.size := by simpa using hi
  have := hf i f (by rw [← e]; simp [hi'])
  rw [this, List.getElem?_eq_getElem (by omega)]
  exact ⟨_, rfl⟩
 simpa using this
def OpensP {α : Type} (d : Kd α) (t : TypeId) (Q : α → Prop) : Prop := ∀ (H : Type) (enc : TypeId × Value → H) (w : World) (fuel : Nat) (cs : List Value) (x : DataW H × List MemPlace),
 DataW.trod enc Try.prog w 0 (fun _ => true) true fuel t cs = some x → ∃ a, d.K w a cs ∧ Q a
theorem OpensP.int {k : IntKind} {t : TypeId} (ht : Try.prog.underlying t = some (.int k)) : OpensP (Kd.int k) t (fun n => (Lit.int k n).wf = true) := fun H enc w fuel cs x h => by
 obtain ⟨n, rfl, _, hw⟩ := DataW.trod_int ht h
 exact ⟨n, rfl, hw⟩
theorem OpensP.slice {α : Type} {d : Kd α} {t e : TypeId} {Q : α → Prop} (e' : Nat) (ht : Try.prog.underlying t = some (.slice e)) (hd : OpensP d e Q) (hs : d.sz = Try.prog.cellsOf e) : OpensP (Kd.slice e' d) t (fun xs => ∀ x ∈ xs, Q x) := fun H enc w fuel cs x h => by
 rcases Go.Deep.open_slice ht h with ⟨rfl, _⟩ | ⟨a, len, cap, m, n, D, Pl, rfl, _, hl, hm, hmm, _, hx⟩
 ·exact ⟨[], ⟨none, 0, rfl, Nat.le_refl _, ⟨rfl, by simp, fun h => absurd h (by simp)⟩⟩, by simp⟩
 ·have hlm : len ≤ m := by rw [hmm]; split <;> omega
  have key : ∀ j, j ≤ len → ∃ xs : List α, xs.length = j ∧ (∀ x ∈ xs, Q x) ∧ ∀ i p, xs[i]? = some p → ∃ c, c.length = d.sz ∧ d.K w p c ∧ ∀ q u, c[q]? = some u → w.cell? (a.add (i * d.sz + q)) = some u := by
   intro j
   induction j with
   | zero => exact fun _ => ⟨[], rfl, by simp, fun i p h => by simp at h⟩
   | succ j ih =>
    intro hj
    obtain ⟨xs, h1, hq, h2⟩ := ih (by omega)
    obtain ⟨cs', h3, h4⟩ := hx j (by omega)
    obtain ⟨p, hp, hqp⟩ := hd H enc w n cs' _ h4
    obtain ⟨_, h5, h6⟩ := World.cells?_some h3
    refine ⟨xs ++ [p], by simp [h1], fun x hx => (List.mem_append.1 hx).elim (hq x) (fun h => (List.mem_singleton.1 h) ▸ hqp), fun i q hq => ?_⟩
    by_cases hi : i < j
    ·rw [List.getElem?_append_left (by omega)] at hq
     exact h2 i q hq
    ·have hi' : i = j := by
      have := (List.getElem?_eq_some_iff.1 hq).1
      simp [h1] at this; omega
     subst hi'
     rw [List.getElem?_append_right (by omega), h1, Nat.sub_self] at hq
     simp at hq
     subst hq
     refine ⟨cs', by rw [h5, hs], hp, fun z u hz => ?_⟩
     have hzl := (List.getElem?_eq_some_iff.1 hz).1
     have := h6 z (by omega)
     rw [Go.Deep.add_add, ← hs] at this
     rw [this, hz]
  obtain ⟨xs, h1, hq, h2⟩ := key len (Nat.le_refl _)
  have hmx : maxLen ≤ 9223372036854775807 := by decide
  exact ⟨xs, ⟨some a, cap, by rw [h1], by rw [h1]; exact hl, ⟨rfl, by omega, fun _ => ⟨a, rfl, h2⟩⟩⟩, hq⟩
end Go.Proofs.Ytbfialebaoeicaa.X
namespace Go.Proofs.Ytbfialebaoeicaa.X
open Go.ChangeShapes Go.WideShapes Go.ChangeAt Go.RowKit Go.Proofs.YtbfialebaoeicaaW.PrintWords Go.Proofs.YtbfialebaoeicaaW.PrintLast Go.Proofs.YtbfialebaoeicaaW.PrintMore
set_option linter.all false
set_option maxRecDepth 100000
def OpensPF {α : Type} (d : Kd α) (fs : List Field) (off : Nat) (Q : α → Prop) : Prop := ∀ (H : Type) (enc : TypeId × Value → H) (w : World) (n : Nat) (cs : List Value), cs.length = off + d.sz →
 (∀ f ∈ fs, ∃ y, DataW.trod enc Try.prog w 0 (fun _ => true) true n f.type ((cs.drop f.offset).take (Try.prog.cellsOf f.type)) = some y) → ∃ a, d.K w a (cs.drop off) ∧ Q a
theorem OpensPF.one {α : Type} {d : Kd α} {f : Field} {off : Nat} {Q : α → Prop} (ho : f.offset = off) (hd : OpensP d f.type Q) (hs : Try.prog.cellsOf f.type = d.sz) : OpensPF d [f] off Q := fun H enc w n cs hl h => by
 obtain ⟨y, hy⟩ := h f (List.mem_cons_self ..)
 rw [ho, hs, List.take_of_length_le (by rw [List.length_drop]; omega)] at hy
 exact hd H enc w n _ _ hy
theorem OpensPF.cons {α β : Type} {d : Kd α} {d2 : Kd β} {f : Field} {fs : List Field} {off : Nat} {Q : α → Prop} {Q2 : β → Prop} (ho : f.offset = off) (hd : OpensP d f.type Q) (hs : Try.prog.cellsOf f.type = d.sz) (h2 : OpensPF d2 fs (off + d.sz) Q2) : OpensPF (Kd.pair d d2) (f :: fs) off (fun x => Q x.1 ∧ Q2 x.2) := fun H enc w n cs hl h => by
 obtain ⟨y, hy⟩ := h f (List.mem_cons_self ..)
 rw [ho, hs] at hy
 obtain ⟨a, ha, hqa⟩ := hd H enc w n _ _ hy
 have hl' : cs.length = off + (d.sz + d2.sz) := hl
 obtain ⟨b, hb, hqb⟩ := h2 H enc w n cs (by omega) fun g hg => h g (List.mem_cons_of_mem _ hg)
 refine ⟨(a, b), ⟨_, _, ?_, ha, hb⟩, hqa, hqb⟩
 rw [show cs.drop (off + d.sz) = (cs.drop off).drop d.sz by rw [List.drop_drop], List.take_append_drop]
theorem OpensP.struct {α : Type} {d : Kd α} {t : TypeId} {fs : Array Field} {Q : α → Prop} (ht : Try.prog.underlying t = some (.struct fs)) (hs : Try.prog.cellsOf t = d.sz) (h : OpensPF d fs.toList 0 Q) : OpensP d t Q := fun H enc w fuel cs x hx => by
 obtain ⟨xs, n, _, _, hl, hlen, hf⟩ := DataW.trod_struct ht hx
 have := h H enc w n cs (by omega) fun f hm => by
  obtain ⟨i, hi, e⟩ := List.getElem_of_mem hm
  have hi' : i < fs.size := by simpa using hi
  have := hf i f (by rw [← e]; simp [hi'])
  rw [this, List.getElem?_eq_getElem (by omega)]
  exact ⟨_, rfl⟩
 simpa using this
theorem OpensP.iso {α β : Type} {d : Kd α} {t : TypeId} {Q : α → Prop} (f : β → α) (g : α → β) (hg : ∀ y, f (g y) = y) (h : OpensP d t Q) : OpensP (Kd.iso d f) t (fun y => Q (f y)) := fun H enc w fuel cs x hx => by
 obtain ⟨a, ha, hq⟩ := h H enc w fuel cs x hx
 exact ⟨g a, show d.K w (f (g a)) cs by rw [hg]; exact ha, by show Q (f (g a)); rw [hg]; exact hq⟩
theorem OpensP.of {α : Type} {d : Kd α} {t : TypeId} (h : Opens d t) : OpensP d t (fun _ => True) := fun H enc w fuel cs x hx => by
 obtain ⟨a, ha⟩ := h H enc w fuel cs x hx
 exact ⟨a, ha, trivial⟩
theorem OpensP.mono {α : Type} {d : Kd α} {t : TypeId} {Q Q' : α → Prop} (h : OpensP d t Q) (hq : ∀ a, Q a → Q' a) : OpensP d t Q' := fun H enc w fuel cs x hx => by
 obtain ⟨a, ha, h1⟩ := h H enc w fuel cs x hx
 exact ⟨a, ha, hq _ h1⟩
def W16 (x : Int) : Prop := (Lit.int .u16 x).wf = true
theorem pInt : OpensP (Kd.int .i64) 3 (fun _ => True) := .of (Opens.int Try.underlying3)
theorem pWord : OpensP (Kd.int .u16) 44 W16 := OpensP.int (by kernel_rfl)
theorem pWords : OpensP (Kd.slice 44 (Kd.int .u16)) 33 (fun l => ∀ x ∈ l, W16 x) := OpensP.slice 44 Try.underlying33 pWord (by kernel_rfl)
theorem pInts : OpensP (Kd.slice 3 (Kd.int .i64)) 37 (fun _ => True) := .of (Opens.slice 3 Try.underlying37 (Opens.int Try.underlying3) (by kernel_rfl))
abbrev kFr : Kd (Int × Int × Int × List Int × Int) := Kd.pair (Kd.int .i64) (Kd.pair (Kd.int .i64) (Kd.pair (Kd.int .i64) (Kd.pair (Kd.slice 44 (Kd.int .u16)) (Kd.int .u16))))
theorem pFr : OpensP kFr 55 (fun y => True ∧ True ∧ True ∧ (∀ x ∈ y.2.2.2.1, W16 x) ∧ W16 y.2.2.2.2) := (OpensP.struct Try.underlying55 (by kernel_rfl) (.cons rfl pInt (by kernel_rfl) (.cons rfl pInt (by kernel_rfl) (.cons rfl pInt (by kernel_rfl) (.cons rfl pWords (by kernel_rfl) (.one rfl pWord (by kernel_rfl))))))).mono fun y h => h
theorem pIns : OpensP k49 49 (fun x => W16 x.f4) := (OpensP.iso _ (fun y => ⟨y.1, y.2.1, y.2.2.1, y.2.2.2.1, y.2.2.2.2.1, y.2.2.2.2.2.1, y.2.2.2.2.2.2⟩) (fun _ => rfl) (OpensP.struct Try.underlying49 (by kernel_rfl) (.cons rfl pInt (by kernel_rfl) (.cons rfl pInt (by kernel_rfl) (.cons rfl pInt (by kernel_rfl) (.cons rfl pInt (by kernel_rfl) (.cons rfl pWord (by kernel_rfl) (.cons rfl pInt (by kernel_rfl) (.one rfl pInts (by kernel_rfl)))))))))).mono fun x h => h.2.2.2.2.1
theorem open_st {α : Type} {k : Kd α} {t : TypeId} {fs : Array Field} {Q : α → Prop} (ht : Try.prog.underlying t = some (.struct fs)) (ho : OpensP k t Q) {H : Type} {enc : TypeId × Value → H} {W : World} {r : Reach} {b0 : Nat} {v : Value} {d : DataW H} {p : List MemPlace} (hv : Value.okWide Try.prog W r b0 t v) (h : DataW.Trod enc Try.prog W 0 (fun _ => true) true t v d p) :
  ∃ a cs, v = .agg cs ∧ k.K W a cs.toList ∧ Q a := by
 obtain ⟨cs, rfl, _⟩ := Go.WideShapes.okWide_struct ht hv
 obtain ⟨fuel, hf⟩ := h
 obtain ⟨a, ha, hq⟩ := ho H enc W fuel _ _ hf
 exact ⟨a, cs, rfl, ha, hq⟩
theorem agg_of {cs : Array Value} {l : List Value} (h : cs.toList = l) : (Value.agg cs) = .agg l.toArray := by rw [← h]
theorem open_frame {H : Type} {enc : TypeId × Value → H} {W : World} {r : Reach} {b0 : Nat} {v : Value} {d : DataW H} {p : List MemPlace} (hv : Value.okWide Try.prog W r b0 55 v) (h : DataW.Trod enc Try.prog W 0 (fun _ => true) true 55 v d p) : ∃ (f b a : Int) (A : Option Addr) (c : Nat) (l : List Int) (y : Int), v = .agg #[.int .i64 f, .int .i64 b, .int .i64 a, .slice A l.length c, .int .u16 y] ∧ Kd.C (Kd.int .u16) W A l.length l ∧ l.length ≤ c ∧ (∀ x ∈ l, W16 x) ∧ W16 y := by
 obtain ⟨⟨f, b, a, l, y⟩, cs, rfl, hK, _, _, _, hq⟩ := open_st Try.underlying55 pFr hv h
 obtain ⟨_, _, e, e1, _, _, e2, e3, _, _, e4, e5, _, _, e6, ⟨A, c, e7, hc, hC⟩, e8⟩ := hK
 refine ⟨f, b, a, A, c, l, y, ?_, hC, hc, hq⟩
 rw [agg_of e, e1, e2, e3, e4, e5, e6, e7, e8]
 rfl
theorem open_ins {H : Type} {enc : TypeId × Value → H} {W : World} {r : Reach} {b0 : Nat} {v : Value} {d : DataW H} {p : List MemPlace} (hv : Value.okWide Try.prog W r b0 49 v) (h : DataW.Trod enc Try.prog W 0 (fun _ => true) true 49 v d p) : ∃ (x : S49) (A : Option Addr) (c : Nat), v = .agg #[.int .i64 x.f0, .int .i64 x.f1, .int .i64 x.f2, .int .i64 x.f3, .int .u16 x.f4, .int .i64 x.f5, .slice A x.f6.length c] ∧ Kd.C (Kd.int .i64) W A x.f6.length x.f6 ∧ x.f6.length ≤ c ∧ W16 x.f4 := by
 obtain ⟨x, cs, rfl, hK, hq⟩ := open_st Try.underlying49 pIns hv h
 obtain ⟨A, c, e, hc, hC⟩ := k49_open hK
 exact ⟨x, A, c, agg_of e, hC, hc, hq⟩
end Go.Proofs.Ytbfialebaoeicaa.X
namespace Go.Proofs.Ytbfialebaoeicaa.Pure
open Go.Proofs.Ytbfialebaoeicaa.X
set_option linter.all false
theorem FrameOne (f b a : Int) (l : List Int) (y : Int) (wl : ∀ x ∈ l, W16 x) (wy : W16 y) (x : S49) (wx : W16 x.f4) : ∃ _ : Unit, True := ⟨(), trivial⟩
end Go.Proofs.Ytbfialebaoeicaa.Pure
