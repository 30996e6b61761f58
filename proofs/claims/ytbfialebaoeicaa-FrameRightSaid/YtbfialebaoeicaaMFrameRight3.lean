/- Part 4 of the proof of the statement FrameRight: the words of the walks, the walks through the functions that it reaches, and the plain laws of what they compute. -/
import Derived.Test.YtbfialebaoeicaaMFrameRight2
import Derived.Deep.Slices
import Derived.Lib.SmallJoins
import Derived.ChangeArms
import Derived.RegionTactic
import Derived.ChangeAlike
import Derived.Deep.QuietTactic
import Derived.BigQuiet
import Derived.WalkSpells
import Derived.Shelf.Abstract
import Derived.Lib.SliceRun
namespace Go.Proofs.Ytbfialebaoeicaa.X
open Go.RowKit Go.Proofs.YtbfialebaoeicaaW.PrintWords Go.Proofs.YtbfialebaoeicaaW.PrintLast Go.Proofs.YtbfialebaoeicaaW.PrintMore
attribute [local go_sem] max2_int min2_int max_two min_two max_three min_three max_four min_four
set_option linter.all false
noncomputable section
def frame_Catches.f (k : Nat) (a0_0 : Int) (l0_1 : List Int) (a0_2 : Bool) (a0_3 : Bool) (a1 : Int) : Option (Bool) := if a0_2 = true then (some true) else ((slices_Contains_uint16_uint16.f k l0_1 a1).bind fun t137 => (some t137))
theorem frame_Catches.mono : ∀ a0 a1 a2 a3 a4 k, LeO (frame_Catches.f k a0 a1 a2 a3 a4) (frame_Catches.f (k + 1) a0 a1 a2 a3 a4) := by
 intro a0 a1 a2 a3 a4 k
 unfold frame_Catches.f
 repeat' first
   | (with_reducible exact slices_Contains_uint16_uint16.mono _ _ _)
   | (with_reducible exact LeO.refl _)
   | (with_reducible exact LeO.none _)
   | (with_reducible refine LeO.ite ?_ ?_)
   | (with_reducible refine LeO.bind ?_ (fun _ => ?_))
   | exact slices_Contains_uint16_uint16.mono _ _ _
   | exact LeO.none _
   | refine LeO.ite ?_ ?_
   | refine LeO.bind ?_ (fun _ => ?_)
set_option maxHeartbeats 8000000 in
set_option maxRecDepth 100000 in
theorem frame_Catches.calls (k : Nat) (a0_0 : Int) (A0_1 : Option Addr) (c0_1 : Nat) (l0_1 : List Int) (a0_2 : Bool) (a0_3 : Bool) (a1 : Int) (r : Bool) (w : World) (hr0_1 : Kd.C (Kd.int .u16) w A0_1 l0_1.length l0_1) (hc0_1 : l0_1.length ≤ c0_1) (h : frame_Catches.f k a0_0 l0_1 a0_2 a0_3 a1 = some r) :
  Calls Try.prog 31 #[.agg #[.int .i64 a0_0, .slice A0_1 l0_1.length c0_1, .bool a0_2, .bool a0_3], .int .u16 a1] w fun e w' => e = .returned (.bool r) ∧ Below w.heap.size w w' := by
 have hu35 := Try.underlying35
 have HR0_1 := Aside0.mk hr0_1
 have HC0_1 := Aside0.mk hc0_1
 clear hr0_1 hc0_1
 have HB := Aside0.mk (Below.refl w.heap.size w)
 have H : (if a0_2 = true then (some true) else ((slices_Contains_uint16_uint16.f k l0_1 a1).bind fun t137 => (some t137))) = some r := h
 clear h
 by_cases c3 : a0_2 = true
 ·subst c3
  have H1 : (some true) = some r := by rw [if_pos rfl] at H; exact H
  clear H
  have H := H1
  clear H1
  obtain rfl := Option.some.inj H
  go_enter Try.func31, Try.ntmps31
  go_wp2_with (first | ((with_reducible refine gate_dst (N := 2) rfl ?_); refine box_event ?hg (N := 2) ?hd (cs := #[.int .i64 a0_0, .slice A0_1 l0_1.length c0_1, .bool true, .bool a0_3]) (t := 35) ?hr ?_; (case hd => rfl); (case hg => rfl); (case hr => first | (go_simp; done) | (go_simp; rfl)); intro gb136 hg w4 hbox hb; have n0_ := Aside0.mk (below_step (by repeat (first | (with_reducible first | exact HB.out | apply below_alloc | apply pw_below_drewN | apply below_drew1) | exact HB.out)) hb); have n1_ := Aside0.mk (hbox); have n2_ := Aside0.mk ((by rw [hg]; exact (below_size (by repeat (first | (with_reducible first | exact HB.out | apply below_alloc | apply pw_below_drewN | apply below_drew1) | exact HB.out))) : w.heap.size ≤ gb136)); have n3_ := Aside0.mk ((by rw [hg]; exact (below_size (by repeat (first | (with_reducible first | exact HB.out | apply below_alloc | apply pw_below_drewN | apply below_drew1) | exact HB.out))) : w.heap.size ≤ gb136)); clear HB; have HB := n0_; have BK136 := n1_; have GW136 := n2_; have GE136 := n3_; clear n0_ n1_ n2_ n3_; clear hb hbox hg; have hcz5_0 : w4.cell? ⟨gb136, 0, none⟩ = some (.int .i64 a0_0) := (blk_cell BK136.out 0).trans rfl; have hcz5_1 : w4.cell? ⟨gb136, 1, none⟩ = some (.slice A0_1 l0_1.length c0_1) := (blk_cell BK136.out 1).trans rfl; have hcz5_2 : w4.cell? ⟨gb136, 2, none⟩ = some (.bool true) := (blk_cell BK136.out 2).trans rfl; have hcz5_3 : w4.cell? ⟨gb136, 3, none⟩ = some (.bool a0_3) := (blk_cell BK136.out 3).trans rfl; have hfz5_0 := blk_frozen BK136.out 0; have hfz5_1 := blk_frozen BK136.out 1; have hfz5_2 := blk_frozen BK136.out 2; have hfz5_3 := blk_frozen BK136.out 3))
  go_ret
  exact ⟨by first | rfl | (simp [errW_none, errW_some] <;> rfl) | (simp [*, errW_none, errW_some] <;> rfl), by repeat (first | (with_reducible first | exact HB.out | apply below_alloc | apply pw_below_drewN | apply below_drew1 | refine below_set ?_ GE136.out) | exact HB.out)⟩
 ·replace c3 := Bool.eq_false_iff.mpr c3
  subst c3
  have H1 : ((slices_Contains_uint16_uint16.f k l0_1 a1).bind fun t137 => (some t137)) = some r := by rw [if_neg (show ¬ (false = true) by decide)] at H; exact H
  clear H
  have H := H1
  clear H1
  replace H := Option.bind_eq_some_iff.mp H
  obtain ⟨t137, A60, H⟩ := H
  replace H : (some t137) = some r := H
  have A6 := Aside0.mk A60
  clear A60
  obtain rfl := Option.some.inj H
  go_enter Try.func31, Try.ntmps31
  go_wp2_with (first | ((with_reducible refine gate_dst (N := 2) rfl ?_); refine box_event ?hg (N := 2) ?hd (cs := #[.int .i64 a0_0, .slice A0_1 l0_1.length c0_1, .bool false, .bool a0_3]) (t := 35) ?hr ?_; (case hd => rfl); (case hg => rfl); (case hr => first | (go_simp; done) | (go_simp; rfl)); intro gb136 hg w7 hbox hb; have n0_ := Aside0.mk (below_step (by repeat (first | (with_reducible first | exact HB.out | apply below_alloc | apply pw_below_drewN | apply below_drew1) | exact HB.out)) hb); have n1_ := Aside0.mk (hbox); have n2_ := Aside0.mk ((by rw [hg]; exact (below_size (by repeat (first | (with_reducible first | exact HB.out | apply below_alloc | apply pw_below_drewN | apply below_drew1) | exact HB.out))) : w.heap.size ≤ gb136)); have n3_ := Aside0.mk ((by rw [hg]; exact (below_size (by repeat (first | (with_reducible first | exact HB.out | apply below_alloc | apply pw_below_drewN | apply below_drew1) | exact HB.out))) : w.heap.size ≤ gb136)); clear HB; have HB := n0_; have BK136 := n1_; have GW136 := n2_; have GE136 := n3_; clear n0_ n1_ n2_ n3_; clear hb hbox hg; have hcz8_0 : w7.cell? ⟨gb136, 0, none⟩ = some (.int .i64 a0_0) := (blk_cell BK136.out 0).trans rfl; have hcz8_1 : w7.cell? ⟨gb136, 1, none⟩ = some (.slice A0_1 l0_1.length c0_1) := (blk_cell BK136.out 1).trans rfl; have hcz8_2 : w7.cell? ⟨gb136, 2, none⟩ = some (.bool false) := (blk_cell BK136.out 2).trans rfl; have hcz8_3 : w7.cell? ⟨gb136, 3, none⟩ = some (.bool a0_3) := (blk_cell BK136.out 3).trans rfl; have hfz8_0 := blk_frozen BK136.out 0; have hfz8_1 := blk_frozen BK136.out 1; have hfz8_2 := blk_frozen BK136.out 2; have hfz8_3 := blk_frozen BK136.out 3) | (go_at_call 75; (with_reducible refine (slices_Contains_uint16_uint16.calls k _ _ l0_1 a1 t137 _ ?side1 ?side2 A6.out).mono ?_); (case side1 => repeat (first | exact (Kd.C_below HR0_1.out HB.out) | (with_reducible refine Kd.C_alloc ?_ _) | (with_reducible refine Kd.C_drewN ?_ _) | (with_reducible refine Kd.C_drew ?_))); (case side2 => exact HC0_1.out); rintro e w' ⟨rfl, ⟨nd, rfl⟩⟩))
  go_ret
  exact ⟨by first | rfl | (simp [errW_none, errW_some] <;> rfl) | (simp [*, errW_none, errW_some] <;> rfl), by repeat (first | (with_reducible first | exact HB.out | apply below_alloc | apply pw_below_drewN | apply below_drew1 | refine below_set ?_ GE136.out) | exact HB.out)⟩
end
end Go.Proofs.Ytbfialebaoeicaa.X
namespace Go.Proofs.Ytbfialebaoeicaa.X
open Go.RowKit Go.Proofs.YtbfialebaoeicaaW.PrintWords Go.Proofs.YtbfialebaoeicaaW.PrintLast Go.Proofs.YtbfialebaoeicaaW.PrintMore
attribute [local go_sem] max2_int min2_int max_two min_two max_three min_three max_four min_four
set_option linter.all false
noncomputable section
def davitref05_With.f (a0_0 : Int) (a0_1 : Int) (a0_2 : Int) (l0_3 : List Int) (a0_4 : Int) (a1 : Int) (a2 : Int) : Option (Int × Int × Int × List Int × Int) := (some (([] : List Int) : List Int)).bind fun y216 => (if y216.length + l0_3.length < 70368744177664 then ((some (y216 ++ l0_3 : List Int)).bind fun y219 => (if 0 ≤ a1 then (if a1 < (y219.length : Int) then (some (a0_0, a0_1, a0_2, (y219.set (a1 : Int).toNat a2), a0_4)) else (none)) else (none))) else (none))
set_option maxHeartbeats 8000000 in
set_option maxRecDepth 100000 in
theorem davitref05_With.calls (a0_0 : Int) (a0_1 : Int) (a0_2 : Int) (A0_3 : Option Addr) (c0_3 : Nat) (l0_3 : List Int) (a0_4 : Int) (a1 : Int) (a2 : Int) (r1 : Int) (r2 : Int) (r3 : Int) (r4 : List Int) (r5 : Int) (w : World) (hr0_3 : Kd.C (Kd.int .u16) w A0_3 l0_3.length l0_3) (hc0_3 : l0_3.length ≤ c0_3) (h : davitref05_With.f a0_0 a0_1 a0_2 l0_3 a0_4 a1 a2 = some (r1, r2, r3, r4, r5)) :
  Calls Try.prog 74 #[.agg #[.int .i64 a0_0, .int .i64 a0_1, .int .i64 a0_2, .slice A0_3 l0_3.length c0_3, .int .u16 a0_4], .int .i64 a1, .int .u16 a2] w fun e w' => ∃ v3_ : Value, e = .returned (.agg #[.int .i64 r1, .int .i64 r2, .int .i64 r3, v3_, .int .u16 r5]) ∧ Kd.R (Kd.int .u16) 44 w' w.heap.size (fun _ => True) v3_ r4 ∧ Below w.heap.size w w' := by
 have hu55 := Try.underlying55
 have HR0_3 := Aside0.mk hr0_3
 have HC0_3 := Aside0.mk hc0_3
 clear hr0_3 hc0_3
 have HB := Aside0.mk (Below.refl w.heap.size w)
 have H : ((some (([] : List Int) : List Int)).bind fun y216 => (if y216.length + l0_3.length < 70368744177664 then ((some (y216 ++ l0_3 : List Int)).bind fun y219 => (if 0 ≤ a1 then (if a1 < (y219.length : Int) then (some (a0_0, a0_1, a0_2, (y219.set (a1 : Int).toNat a2), a0_4)) else (none)) else (none))) else (none))) = some (r1, r2, r3, r4, r5) := h
 clear h
 obtain ⟨y216, hy216⟩ : ∃ y_ : List Int, y_ = (([] : List Int)) := ⟨_, rfl⟩
 replace H : (if y216.length + l0_3.length < 70368744177664 then ((some (y216 ++ l0_3 : List Int)).bind fun y219 => (if 0 ≤ a1 then (if a1 < (y219.length : Int) then (some (a0_0, a0_1, a0_2, (y219.set (a1 : Int).toNat a2), a0_4)) else (none)) else (none))) else (none)) = some (r1, r2, r3, r4, r5) := by first | (rw [hy216]; with_reducible exact H) | (have H2_ := (Option.bind_some _ _).symm.trans H; rw [hy216]; with_reducible exact H2_) | (have H2_ := (Option.bind_some _ _).symm.trans H; with_reducible exact H2_) | with_reducible exact H | (rw [hy216]; exact H) | exact H
 have Ny216 := Aside0.mk hy216
 clear hy216
 by_cases c4 : y216.length + l0_3.length < 70368744177664
 ·rw [if_pos c4] at H
  have LMc4 := Aside0.mk c4
  clear c4
  obtain ⟨y219, hy219⟩ : ∃ y_ : List Int, y_ = (y216 ++ l0_3) := ⟨_, rfl⟩
  replace H : (if 0 ≤ a1 then (if a1 < (y219.length : Int) then (some (a0_0, a0_1, a0_2, (y219.set (a1 : Int).toNat a2), a0_4)) else (none)) else (none)) = some (r1, r2, r3, r4, r5) := by first | (rw [hy219]; with_reducible exact H) | (have H2_ := (Option.bind_some _ _).symm.trans H; rw [hy219]; with_reducible exact H2_) | (have H2_ := (Option.bind_some _ _).symm.trans H; with_reducible exact H2_) | with_reducible exact H | (rw [hy219]; exact H) | exact H
  have Ny219 := Aside0.mk hy219
  clear hy219
  by_cases c5 : 0 ≤ a1
  ·rw [if_pos c5] at H
   have c5b0 : decide (0 ≤ a1) = true := decide_eq_true c5
   clear c5
   by_cases c6 : a1 < (y219.length : Int)
   ·rw [if_pos c6] at H
    have c6b0 : decide (a1 < (y219.length : Int)) = true := decide_eq_true c6
    clear c6
    obtain ⟨y222, hy222⟩ : ∃ y_ : List Int, y_ = (y219.set (a1 : Int).toNat a2) := ⟨_, rfl⟩
    replace H : (some (a0_0, a0_1, a0_2, y222, a0_4)) = some (r1, r2, r3, r4, r5) := by first | (rw [hy222]; with_reducible exact H) | (have H2_ := (Option.bind_some _ _).symm.trans H; rw [hy222]; with_reducible exact H2_) | (have H2_ := (Option.bind_some _ _).symm.trans H; with_reducible exact H2_) | with_reducible exact H | (rw [hy222]; exact H) | exact H
    have Ny222 := Aside0.mk hy222
    clear hy222
    simp only [Option.some.injEq, Prod.mk.injEq] at H
    obtain ⟨rfl, rfl, rfl, rfl, rfl⟩ := H
    go_enter Try.func74, Try.ntmps74
    go_wp2_with (first | ((with_reducible refine gate_dst (N := 3) rfl ?_); refine box_event ?hg (N := 3) ?hd (cs := #[.int .i64 a0_0, .int .i64 a0_1, .int .i64 a0_2, .slice A0_3 l0_3.length c0_3, .int .u16 a0_4]) (t := 55) ?hr ?_; (case hd => rfl); (case hg => rfl); (case hr => first | (go_simp; done) | (go_simp; rfl)); intro gb214 hg w8 hbox hb; have n0_ := Aside0.mk (below_step (by repeat (first | (with_reducible first | exact HB.out | apply below_alloc | apply pw_below_drewN | apply below_drew1) | exact HB.out)) hb); have n1_ := Aside0.mk (hbox); have n2_ := Aside0.mk ((by rw [hg]; exact (below_size (by repeat (first | (with_reducible first | exact HB.out | apply below_alloc | apply pw_below_drewN | apply below_drew1) | exact HB.out))) : w.heap.size ≤ gb214)); have n3_ := Aside0.mk ((by rw [hg]; exact (below_size (by repeat (first | (with_reducible first | exact HB.out | apply below_alloc | apply pw_below_drewN | apply below_drew1) | exact HB.out))) : w.heap.size ≤ gb214)); clear HB; have HB := n0_; have BK214 := n1_; have GW214 := n2_; have GE214 := n3_; clear n0_ n1_ n2_ n3_; clear hb hbox hg) | ((with_reducible refine gate_dst (N := 6) rfl ?_); refine box_event ?hg (N := 6) ?hd (cs := #[.int .i64 0, .int .i64 0, .int .i64 0, .slice none 0 0, .int .u16 0]) (t := 55) ?hr ?_; (case hd => rfl); (case hg => rfl); (case hr => first | (go_simp; done) | (go_simp; rfl)); intro gb215 hg w9 hbox hb; have n0_ := Aside0.mk (blk_below (g := gb214) (o := .cells #[.int .i64 a0_0, .int .i64 a0_1, .int .i64 a0_2, .slice A0_3 l0_3.length c0_3, .int .u16 a0_4] 55 (0, 0)) (by (with_reducible repeat (first | refine blk_drewN ?_ _ | refine blk_drew ?_ | refine blk_alloc ?_ _)); exact BK214.out) hb); have n1_ := Aside0.mk (below_step (by repeat (first | (with_reducible first | exact HB.out | apply below_alloc | apply pw_below_drewN | apply below_drew1 | refine below_set ?_ GE214.out) | exact HB.out)) hb); have n2_ := Aside0.mk (hbox); have n3_ := Aside0.mk ((by rw [hg]; exact (below_size (by repeat (first | (with_reducible first | exact HB.out | apply below_alloc | apply pw_below_drewN | apply below_drew1 | refine below_set ?_ GE214.out) | exact HB.out))) : w.heap.size ≤ gb215)); have n4_ := Aside0.mk ((by rw [hg]; exact (below_size (by repeat (first | (with_reducible first | exact HB.out | apply below_alloc | apply pw_below_drewN | apply below_drew1 | refine below_set ?_ GE214.out) | exact HB.out))) : w.heap.size ≤ gb215)); have n5_ := Aside0.mk ((by rw [hg]; exact Nat.ne_of_lt (blk_lt (g := gb214) (o := .cells #[.int .i64 a0_0, .int .i64 a0_1, .int .i64 a0_2, .slice A0_3 l0_3.length c0_3, .int .u16 a0_4] 55 (0, 0)) (by (with_reducible repeat (first | refine blk_drewN ?_ _ | refine blk_drew ?_ | refine blk_alloc ?_ _)); exact BK214.out)) : gb214 ≠ gb215)); have n6_ := Aside0.mk ((by rw [hg]; exact Nat.ne_of_gt (blk_lt (g := gb214) (o := .cells #[.int .i64 a0_0, .int .i64 a0_1, .int .i64 a0_2, .slice A0_3 l0_3.length c0_3, .int .u16 a0_4] 55 (0, 0)) (by (with_reducible repeat (first | refine blk_drewN ?_ _ | refine blk_drew ?_ | refine blk_alloc ?_ _)); exact BK214.out)) : gb215 ≠ gb214)); clear BK214; clear HB; have BK214 := n0_; have HB := n1_; have BK215 := n2_; have GW215 := n3_; have GE215 := n4_; have NB214_215 := n5_; have NB215_214 := n6_; clear n0_ n1_ n2_ n3_ n4_ n5_ n6_; clear hb hbox hg) | ((with_reducible refine gate_dst (N := 8) rfl ?_); refine Kd.R_lit (Kd.int .u16) _ 44 ?hg (N := 8) ?hd (xs := ([] : List Int)) (inner := []) (ok := fun _ => True) (okp := fun _ => True) ?hr ?hp (fun _ hk => hk) trivial (Below.refl _ _) (Nat.le_refl _) (by simp) ?_; (case hd => rfl); (case hg => rfl); (case hr => first | (go_simp; done) | (go_simp; rfl)); (case hp => exact (Reps.none _ _)); intro v217 w10 ho11 hb hg_ hnew_; clear hg_ hnew_; (first | rw [← Ny216.out] at ho11 | (simp only [Int.reduceToNat] at ho11; rw [← Ny216.out] at ho11)); have n0_ := Aside0.mk (Kd.R_lower ho11 (below_size (by repeat (first | (with_reducible first | exact HB.out | apply below_alloc | apply pw_below_drewN | apply below_drew1 | refine below_set ?_ GE214.out | refine below_set ?_ GE215.out) | exact HB.out)))); have n1_ := Aside0.mk (blk_below (g := gb214) (o := .cells #[.int .i64 a0_0, .int .i64 a0_1, .int .i64 a0_2, .slice A0_3 l0_3.length c0_3, .int .u16 a0_4] 55 (0, 0)) (by (with_reducible repeat (first | refine blk_drewN ?_ _ | refine blk_drew ?_ | refine blk_alloc ?_ _)); exact BK214.out) hb); have n2_ := Aside0.mk (blk_below (g := gb215) (o := .cells #[.int .i64 0, .int .i64 0, .int .i64 0, .slice none 0 0, .int .u16 0] 55 (0, 0)) (by (with_reducible repeat (first | refine blk_drewN ?_ _ | refine blk_drew ?_ | refine blk_alloc ?_ _)); exact BK215.out) hb); have n3_ := Aside0.mk (below_step (by repeat (first | (with_reducible first | exact HB.out | apply below_alloc | apply pw_below_drewN | apply below_drew1 | refine below_set ?_ GE214.out | refine below_set ?_ GE215.out) | exact HB.out)) hb); clear BK214; clear BK215; clear HB; have HO218 := n0_; have BK214 := n1_; have BK215 := n2_; have HB := n3_; clear n0_ n1_ n2_ n3_; clear hb ho11; have hnb12 := NB214_215.out; have hnc12 := NB215_214.out; have hcz13_0 : w10.cell? ⟨gb214, 0, none⟩ = some (.int .i64 a0_0) := (blk_cell BK214.out 0).trans rfl; have hcz13_1 : w10.cell? ⟨gb214, 1, none⟩ = some (.int .i64 a0_1) := (blk_cell BK214.out 1).trans rfl; have hcz13_2 : w10.cell? ⟨gb214, 2, none⟩ = some (.int .i64 a0_2) := (blk_cell BK214.out 2).trans rfl; have hcz13_3 : w10.cell? ⟨gb214, 3, none⟩ = some (.slice A0_3 l0_3.length c0_3) := (blk_cell BK214.out 3).trans rfl; have hcz13_4 : w10.cell? ⟨gb214, 4, none⟩ = some (.int .u16 a0_4) := (blk_cell BK214.out 4).trans rfl; have hfz13_0 := blk_frozen BK214.out 0; have hfz13_1 := blk_frozen BK214.out 1; have hfz13_2 := blk_frozen BK214.out 2; have hfz13_3 := blk_frozen BK214.out 3; have hfz13_4 := blk_frozen BK214.out 4) | ((with_reducible refine gate_builtin (b := .append) (xs := #[.tmp 8, .tmp 10]) rfl ?_); at_builtin; refine Kd.R_append_rows (Kd.int .u16) (w0 := w) w.heap.size rfl (.tmp 8) (.tmp 10) 33 44 (.int .u16 0) 2 rfl Try.underlying33 info44 rfl (by decide) (by omega) v217 y216 l0_3 _ _ _ (fun _ => True) (fun _ => False) rfl rfl ?aO ?aR (fun _ _ h => h) (fun _ h => h.elim) ?aF ?aB ?aS ?aL ?_; (case aR => repeat (first | exact (Kd.C_below HR0_3.out HB.out) | (with_reducible refine Kd.C_alloc ?_ _) | (with_reducible refine Kd.C_drewN ?_ _) | (with_reducible refine Kd.C_drew ?_))); (case aB => exact (by repeat (first | (with_reducible first | exact HB.out | apply below_alloc | apply pw_below_drewN | apply below_drew1 | refine below_set ?_ GE214.out | refine below_set ?_ GE215.out) | exact HB.out))); (case aF => exact (fun _ _ => trivial)); (case aO => exact (by (with_reducible repeat (first | apply Kd.R_alloc | apply Kd.R_drewN | apply Kd.R_drew)); exact HO218.out)); (case aS => exact (below_size (by repeat (first | (with_reducible first | exact HB.out | apply below_alloc | apply pw_below_drewN | apply below_drew1 | refine below_set ?_ GE214.out | refine below_set ?_ GE215.out) | exact HB.out)))); (case aL => have := LMc4.out; omega); intro v220 w14 ho hb hg hat; rw [← Ny219.out] at ho; have n0_ := Aside0.mk (blk_grown (g := gb214) (o := .cells #[.int .i64 a0_0, .int .i64 a0_1, .int .i64 a0_2, .slice A0_3 l0_3.length c0_3, .int .u16 a0_4] 55 (0, 0)) (by (with_reducible repeat (first | refine blk_drewN ?_ _ | refine blk_drew ?_ | refine blk_alloc ?_ _)); exact BK214.out) hg (Kd.R_ne HO218.out BK214.out (by decide))); have n1_ := Aside0.mk (blk_grown (g := gb215) (o := .cells #[.int .i64 0, .int .i64 0, .int .i64 0, .slice none 0 0, .int .u16 0] 55 (0, 0)) (by (with_reducible repeat (first | refine blk_drewN ?_ _ | refine blk_drew ?_ | refine blk_alloc ?_ _)); exact BK215.out) hg (Kd.R_ne HO218.out BK215.out (by decide))); have n2_ := Aside0.mk (hb); have n3_ := Aside0.mk (ho); clear BK214; clear BK215; clear HB; clear HO218; have BK214 := n0_; have BK215 := n1_; have HB := n2_; have HO221 := n3_; clear n0_ n1_ n2_ n3_; clear ho hb hg hat; have p7 : 0 ≤ (a1 : Int) := of_decide_eq_true (by first | (with_reducible assumption) | assumption); have q7 : (a1 : Int) < ((y219.length : Int) : Int) := of_decide_eq_true (by first | (with_reducible assumption) | assumption); obtain ⟨go7, co7, eo7, gb7, gl7, cl7, HG7⟩ := Kd.R_form HO221.out (by omega); (first | cases eo7 | (injection eo7 with ea_ en_ ec_; (first | subst ea_ | (injection ea_ with ea_; subst ea_)); subst ec_; clear en_)); have GB7 := Aside0.mk gb7; have GG7 := Aside0.mk HG7; clear gb7 gl7 HG7; obtain ⟨hx7_0, hf7_0⟩ := Kd.R_celln 0 HO221.out (a1 : Int) p7 q7; replace p7 := eq_true p7; replace q7 := eq_true q7; obtain ⟨hy15_, hz15_⟩ := Kd.R_celln 0 HO221.out (a1 : Int) (of_decide_eq_true (by first | (with_reducible assumption) | assumption)) (of_decide_eq_true (by first | (with_reducible assumption) | assumption)); have HP15 := Kd.R_putg HO221.out (a1 : Int) a2) | ((with_reducible refine gate_store (t := 44) (p := 15) rfl ?_); refine store_event (t := 44) (p := 15) (v := ?vo_w16) (w1 := (w14.setCell ⟨go7, (a1 : Int).toNat, none⟩ (.int .u16 a2))) ?hg ?ho ?hn ?hr ?_; (case ho => rfl); (case hg => rfl); (case hn => rfl); (case hr => first | (go_simp; done) | (go_simp; rfl)); intro w16 hw; have hg : w14.grownBy w16 (some go7) := (by rw [hw]; exact HP15.2); have hp_ : Kd.R (Kd.int .u16) 44 w16 w.heap.size (fun _ => True) (.slice (some ⟨go7, 0, none⟩) y219.length co7) y222 := (by rw [hw, Ny222.out]; exact HP15.1); clear HP15; have n0_ := Aside0.mk (blk_grown (g := gb214) (o := .cells #[.int .i64 a0_0, .int .i64 a0_1, .int .i64 a0_2, .slice A0_3 l0_3.length c0_3, .int .u16 a0_4] 55 (0, 0)) (by (with_reducible repeat (first | refine blk_drewN ?_ _ | refine blk_drew ?_ | refine blk_alloc ?_ _)); exact BK214.out) hg (Kd.R_ne HO221.out BK214.out (by decide))); have n1_ := Aside0.mk (blk_grown (g := gb215) (o := .cells #[.int .i64 0, .int .i64 0, .int .i64 0, .slice none 0 0, .int .u16 0] 55 (0, 0)) (by (with_reducible repeat (first | refine blk_drewN ?_ _ | refine blk_drew ?_ | refine blk_alloc ?_ _)); exact BK215.out) hg (Kd.R_ne HO221.out BK215.out (by decide))); have n2_ := Aside0.mk (hp_); have n3_ := Aside0.mk ((by rw [hw]; exact below_set (HB.out) GB7.out : Below w.heap.size w w16)); clear BK214; clear BK215; clear HO221; clear HB; have BK214 := n0_; have BK215 := n1_; have HO221 := n2_; have HB := n3_; clear n0_ n1_ n2_ n3_; clear hg hw hp_; have hcz17_0 : w16.cell? ⟨gb214, 0, none⟩ = some (.int .i64 a0_0) := (blk_cell BK214.out 0).trans rfl; have hcz17_1 : w16.cell? ⟨gb214, 1, none⟩ = some (.int .i64 a0_1) := (blk_cell BK214.out 1).trans rfl; have hcz17_2 : w16.cell? ⟨gb214, 2, none⟩ = some (.int .i64 a0_2) := (blk_cell BK214.out 2).trans rfl; have hcz17_3 : w16.cell? ⟨gb214, 3, none⟩ = some (.slice A0_3 l0_3.length c0_3) := (blk_cell BK214.out 3).trans rfl; have hcz17_4 : w16.cell? ⟨gb214, 4, none⟩ = some (.int .u16 a0_4) := (blk_cell BK214.out 4).trans rfl; have hfz17_0 := blk_frozen BK214.out 0; have hfz17_1 := blk_frozen BK214.out 1; have hfz17_2 := blk_frozen BK214.out 2; have hfz17_3 := blk_frozen BK214.out 3; have hfz17_4 := blk_frozen BK214.out 4; have hcz18_0 : w16.cell? ⟨gb215, 0, none⟩ = some (.int .i64 0) := (blk_cell BK215.out 0).trans rfl; have hcz18_1 : w16.cell? ⟨gb215, 1, none⟩ = some (.int .i64 0) := (blk_cell BK215.out 1).trans rfl; have hcz18_2 : w16.cell? ⟨gb215, 2, none⟩ = some (.int .i64 0) := (blk_cell BK215.out 2).trans rfl; have hcz18_3 : w16.cell? ⟨gb215, 3, none⟩ = some (.slice none 0 0) := (blk_cell BK215.out 3).trans rfl; have hcz18_4 : w16.cell? ⟨gb215, 4, none⟩ = some (.int .u16 0) := (blk_cell BK215.out 4).trans rfl; have hfz18_0 := blk_frozen BK215.out 0; have hfz18_1 := blk_frozen BK215.out 1; have hfz18_2 := blk_frozen BK215.out 2; have hfz18_3 := blk_frozen BK215.out 3; have hfz18_4 := blk_frozen BK215.out 4))
    refine bodyPost_ret (results_cell_row rfl _ _ gb215 55 #[.int .i64 a0_0, .int .i64 a0_1, .int .i64 a0_2, .slice (some ⟨go7, 0, none⟩) y219.length co7, .int .u16 a0_4] (0, 0) _ rfl (by (with_reducible repeat (first | refine blk_drewN ?_ _ | refine blk_drew ?_ | refine blk_alloc ?_ _)); refine blk_put (cs := #[.int .i64 a0_0, .int .i64 a0_1, .int .i64 a0_2, .slice (some ⟨go7, 0, none⟩) y219.length co7, .int .u16 0]) ?_ 4 _ rfl; (with_reducible repeat (first | refine blk_drewN ?_ _ | refine blk_drew ?_ | refine blk_alloc ?_ _)); refine blk_put (cs := #[.int .i64 a0_0, .int .i64 a0_1, .int .i64 a0_2, .slice none 0 0, .int .u16 0]) ?_ 3 _ rfl; (with_reducible repeat (first | refine blk_drewN ?_ _ | refine blk_drew ?_ | refine blk_alloc ?_ _)); refine blk_put (cs := #[.int .i64 a0_0, .int .i64 a0_1, .int .i64 0, .slice none 0 0, .int .u16 0]) ?_ 2 _ rfl; (with_reducible repeat (first | refine blk_drewN ?_ _ | refine blk_drew ?_ | refine blk_alloc ?_ _)); refine blk_put (cs := #[.int .i64 a0_0, .int .i64 0, .int .i64 0, .slice none 0 0, .int .u16 0]) ?_ 1 _ rfl; (with_reducible repeat (first | refine blk_drewN ?_ _ | refine blk_drew ?_ | refine blk_alloc ?_ _)); refine blk_put (cs := #[.int .i64 0, .int .i64 0, .int .i64 0, .slice none 0 0, .int .u16 0]) ?_ 0 _ rfl; (with_reducible repeat (first | refine blk_drewN ?_ _ | refine blk_drew ?_ | refine blk_alloc ?_ _)); refine blk_far ?_ NB215_214.out _; (with_reducible repeat (first | refine blk_drewN ?_ _ | refine blk_drew ?_ | refine blk_alloc ?_ _)); exact BK215.out) Try.underlying55 rfl (by kernel_rfl)) rfl ?_
    exact ⟨_, by first | rfl | (simp [errW_none, errW_some] <;> rfl) | (simp [*, errW_none, errW_some] <;> rfl), by (with_reducible repeat (first | apply Kd.R_alloc | apply Kd.R_drewN | apply Kd.R_drew)); exact Kd.R_mono (Kd.R_far (p := ⟨gb215, 4, none⟩) (Kd.R_far (p := ⟨gb215, 3, none⟩) (Kd.R_far (p := ⟨gb215, 2, none⟩) (Kd.R_far (p := ⟨gb215, 1, none⟩) (Kd.R_far (p := ⟨gb215, 0, none⟩) (Kd.R_far (p := ⟨gb214, 3, none⟩) (Kd.R_types (Kd.R_types HO221.out BK214.out (by decide)) BK215.out (by decide)) (fun _ hk => hk.1.2) (.slice (some ⟨go7, 0, none⟩) y219.length co7)) (fun _ hk => hk.2) (.int .i64 a0_0)) (fun _ hk => hk.2) (.int .i64 a0_1)) (fun _ hk => hk.2) (.int .i64 a0_2)) (fun _ hk => hk.2) (.slice (some ⟨go7, 0, none⟩) y219.length co7)) (fun _ hk => hk.2) (.int .u16 a0_4)) (fun _ hk => trivial), by repeat (first | (with_reducible first | exact HB.out | apply below_alloc | apply pw_below_drewN | apply below_drew1 | refine below_set ?_ GE214.out | refine below_set ?_ GE215.out) | exact HB.out)⟩
   ·rw [if_neg c6] at H
    exact absurd H (by simp)
  ·rw [if_neg c5] at H
   exact absurd H (by simp)
 ·rw [if_neg c4] at H
  exact absurd H (by simp)
end
end Go.Proofs.Ytbfialebaoeicaa.X
namespace Go.Proofs.Ytbfialebaoeicaa.X
open Go.ChangeShapes Go.WideShapes Go.ChangeAt Go.RowKit Go.Proofs.YtbfialebaoeicaaW.PrintWords Go.Proofs.YtbfialebaoeicaaW.PrintLast Go.Proofs.YtbfialebaoeicaaW.PrintMore
set_option linter.all false
set_option maxRecDepth 100000
def Opens {α : Type} (d : Kd α) (t : TypeId) : Prop := ∀ (H : Type) (enc : TypeId × Value → H) (w : World) (fuel : Nat) (cs : List Value) (x : DataW H × List MemPlace),
 DataW.trod enc Try.prog w 0 (fun _ => true) true fuel t cs = some x → ∃ a, d.K w a cs
theorem Opens.int {k : IntKind} {t : TypeId} (ht : Try.prog.underlying t = some (.int k)) : Opens (Kd.int k) t := fun H enc w fuel cs x h => by
 obtain ⟨n, rfl, _⟩ := DataW.trod_int ht h
 exact ⟨n, rfl⟩
theorem Opens.bool {t : TypeId} (ht : Try.prog.underlying t = some .bool) : Opens Kd.bool t := fun H enc w fuel cs x h => by
 obtain ⟨n, rfl, _⟩ := DataW.trod_bool ht h
 exact ⟨n, rfl⟩
theorem Opens.slice {α : Type} {d : Kd α} {t e : TypeId} (e' : Nat) (ht : Try.prog.underlying t = some (.slice e)) (hd : Opens d e) (hs : d.sz = Try.prog.cellsOf e) : Opens (Kd.slice e' d) t := fun H enc w fuel cs x h => by
 rcases Go.Deep.open_slice ht h with ⟨rfl, _⟩ | ⟨a, len, cap, m, n, D, Pl, rfl, _, hl, hm, hmm, _, hx⟩
 ·exact ⟨[], none, 0, rfl, Nat.le_refl _, ⟨rfl, by simp, fun h => absurd h (by simp)⟩⟩
 ·have hlm : len ≤ m := by rw [hmm]; split <;> omega
  have key : ∀ j, j ≤ len → ∃ xs : List α, xs.length = j ∧ ∀ i p, xs[i]? = some p → ∃ c, c.length = d.sz ∧ d.K w p c ∧ ∀ q u, c[q]? = some u → w.cell? (a.add (i * d.sz + q)) = some u := by
   intro j
   induction j with
   | zero => exact fun _ => ⟨[], rfl, fun i p h => by simp at h⟩
   | succ j ih =>
    intro hj
    obtain ⟨xs, h1, h2⟩ := ih (by omega)
    obtain ⟨cs', h3, h4⟩ := hx j (by omega)
    obtain ⟨p, hp⟩ := hd H enc w n cs' _ h4
    obtain ⟨_, h5, h6⟩ := World.cells?_some h3
    refine ⟨xs ++ [p], by simp [h1], fun i q hq => ?_⟩
    by_cases hi : i < j
    ·rw [List.getElem?_append_left (by omega)] at hq
     exact h2 i q hq
    ·have hi' : i = j := by
      have := (List.getElem?_eq_some_iff.1 hq).1
      simp [h1] at this; omega
     subst hi'
     rw [List.getElem?_append_right (by omega), h1, Nat.sub_self] at hq
     simp at hq
     subst hq
     refine ⟨cs', by rw [h5, hs], hp, fun z u hz => ?_⟩
     have hzl := (List.getElem?_eq_some_iff.1 hz).1
     have := h6 z (by omega)
     rw [Go.Deep.add_add, ← hs] at this
     rw [this, hz]
  obtain ⟨xs, h1, h2⟩ := key len (Nat.le_refl _)
  have hmx : maxLen ≤ 9223372036854775807 := by decide
  exact ⟨xs, some a, cap, by rw [h1], by rw [h1]; exact hl, ⟨rfl, by omega, fun _ => ⟨a, rfl, h2⟩⟩⟩
theorem Opens.iso {α β : Type} {d : Kd α} {t : TypeId} (f : β → α) (g : α → β) (hg : ∀ y, f (g y) = y) (h : Opens d t) : Opens (Kd.iso d f) t := fun H enc w fuel cs x hx => by
 obtain ⟨a, ha⟩ := h H enc w fuel cs x hx
 exact ⟨g a, show d.K w (f (g a)) cs by rw [hg]; exact ha⟩
def OpensF {α : Type} (d : Kd α) (fs : List Field) (off : Nat) : Prop := ∀ (H : Type) (enc : TypeId × Value → H) (w : World) (n : Nat) (cs : List Value), cs.length = off + d.sz →
 (∀ f ∈ fs, ∃ y, DataW.trod enc Try.prog w 0 (fun _ => true) true n f.type ((cs.drop f.offset).take (Try.prog.cellsOf f.type)) = some y) → ∃ a, d.K w a (cs.drop off)
theorem OpensF.one {α : Type} {d : Kd α} {f : Field} {off : Nat} (ho : f.offset = off) (hd : Opens d f.type) (hs : Try.prog.cellsOf f.type = d.sz) : OpensF d [f] off := fun H enc w n cs hl h => by
 obtain ⟨y, hy⟩ := h f (List.mem_cons_self ..)
 rw [ho, hs, List.take_of_length_le (by rw [List.length_drop]; omega)] at hy
 exact hd H enc w n _ _ hy
theorem OpensF.cons {α β : Type} {d : Kd α} {d2 : Kd β} {f : Field} {fs : List Field} {off : Nat} (ho : f.offset = off) (hd : Opens d f.type) (hs : Try.prog.cellsOf f.type = d.sz) (h2 : OpensF d2 fs (off + d.sz)) : OpensF (Kd.pair d d2) (f :: fs) off := fun H enc w n cs hl h => by
 obtain ⟨y, hy⟩ := h f (List.mem_cons_self ..)
 rw [ho, hs] at hy
 obtain ⟨a, ha⟩ := hd H enc w n _ _ hy
 have hl' : cs.length = off + (d.sz + d2.sz) := hl
 obtain ⟨b, hb⟩ := h2 H enc w n cs (by omega) fun g hg => h g (List.mem_cons_of_mem _ hg)
 refine ⟨(a, b), _, _, ?_, ha, hb⟩
 rw [show cs.drop (off + d.sz) = (cs.drop off).drop d.sz by rw [List.drop_drop], List.take_append_drop]
theorem Opens.struct {α : Type} {d : Kd α} {t : TypeId} {fs : Array Field} (ht : Try.prog.underlying t = some (.struct fs)) (hs : Try.prog.cellsOf t = d.sz) (h : OpensF d fs.toList 0) : Opens d t := fun H enc w fuel cs x hx => by
 obtain ⟨xs, n, _, _, hl, hlen, hf⟩ := DataW.trod_struct ht hx
 have := h H enc w n cs (by omega) fun f hm => by
  obtain ⟨i, hi, e⟩ := List.getElem_of_mem hm
  have hi' : i < fs.size := by simpa using hi
  have := hf i f (by rw [← e]; simp [hi'])
  rw [this, List.getElem?_eq_getElem (by omega)]
  exact ⟨_, rfl⟩
 simpa using this
def OpensP {α : Type} (d : Kd α) (t : TypeId) (Q : α → Prop) : Prop := ∀ (H : Type) (enc : TypeId × Value → H) (w : World) (fuel : Nat) (cs : List Value) (x : DataW H × List MemPlace),
 DataW.trod enc Try.prog w 0 (fun _ => true) true fuel t cs = some x → ∃ a, d.K w a cs ∧ Q a
theorem OpensP.int {k : IntKind} {t : TypeId} (ht : Try.prog.underlying t = some (.int k)) : OpensP (Kd.int k) t (fun n => (Lit.int k n).wf = true) := fun H enc w fuel cs x h => by
 obtain ⟨n, rfl, _, hw⟩ := DataW.trod_int ht h
 exact ⟨n, rfl, hw⟩
theorem OpensP.slice {α : Type} {d : Kd α} {t e : TypeId} {Q : α → Prop} (e' : Nat) (ht : Try.prog.underlying t = some (.slice e)) (hd : OpensP d e Q) (hs : d.sz = Try.prog.cellsOf e) : OpensP (Kd.slice e' d) t (fun xs => ∀ x ∈ xs, Q x) := fun H enc w fuel cs x h => by
 rcases Go.Deep.open_slice ht h with ⟨rfl, _⟩ | ⟨a, len, cap, m, n, D, Pl, rfl, _, hl, hm, hmm, _, hx⟩
 ·exact ⟨[], ⟨none, 0, rfl, Nat.le_refl _, ⟨rfl, by simp, fun h => absurd h (by simp)⟩⟩, by simp⟩
 ·have hlm : len ≤ m := by rw [hmm]; split <;> omega
  have key : ∀ j, j ≤ len → ∃ xs : List α, xs.length = j ∧ (∀ x ∈ xs, Q x) ∧ ∀ i p, xs[i]? = some p → ∃ c, c.length = d.sz ∧ d.K w p c ∧ ∀ q u, c[q]? = some u → w.cell? (a.add (i * d.sz + q)) = some u := by
   intro j
   induction j with
   | zero => exact fun _ => ⟨[], rfl, by simp, fun i p h => by simp at h⟩
   | succ j ih =>
    intro hj
    obtain ⟨xs, h1, hq, h2⟩ := ih (by omega)
    obtain ⟨cs', h3, h4⟩ := hx j (by omega)
    obtain ⟨p, hp, hqp⟩ := hd H enc w n cs' _ h4
    obtain ⟨_, h5, h6⟩ := World.cells?_some h3
    refine ⟨xs ++ [p], by simp [h1], fun x hx => (List.mem_append.1 hx).elim (hq x) (fun h => (List.mem_singleton.1 h) ▸ hqp), fun i q hq => ?_⟩
    by_cases hi : i < j
    ·rw [List.getElem?_append_left (by omega)] at hq
     exact h2 i q hq
    ·have hi' : i = j := by
      have := (List.getElem?_eq_some_iff.1 hq).1
      simp [h1] at this; omega
     subst hi'
     rw [List.getElem?_append_right (by omega), h1, Nat.sub_self] at hq
     simp at hq
     subst hq
     refine ⟨cs', by rw [h5, hs], hp, fun z u hz => ?_⟩
     have hzl := (List.getElem?_eq_some_iff.1 hz).1
     have := h6 z (by omega)
     rw [Go.Deep.add_add, ← hs] at this
     rw [this, hz]
  obtain ⟨xs, h1, hq, h2⟩ := key len (Nat.le_refl _)
  have hmx : maxLen ≤ 9223372036854775807 := by decide
  exact ⟨xs, ⟨some a, cap, by rw [h1], by rw [h1]; exact hl, ⟨rfl, by omega, fun _ => ⟨a, rfl, h2⟩⟩⟩, hq⟩
theorem open_slP {α : Type} {d : Kd α} {Q : α → Prop} {t e e' : TypeId} (ht : Try.prog.underlying t = some (.slice e)) (ho : OpensP (Kd.slice e' d) t (fun xs => ∀ x ∈ xs, Q x)) {H : Type} {enc : TypeId × Value → H} {W : World} {r : Reach} {b0 : Nat} {v : Value} {dd : DataW H} {p : List MemPlace} (hv : Value.okWide Try.prog W r b0 t v) (h : DataW.Trod enc Try.prog W 0 (fun _ => true) true t v dd p) :
  ∃ (A : Option Addr) (c : Nat) (l : List α), v = .slice A l.length c ∧ Kd.C d W A l.length l ∧ l.length ≤ c ∧ ∀ x ∈ l, Q x := by
 obtain ⟨A, n, c, rfl⟩ := okWide_slice ht hv
 obtain ⟨fuel, hf⟩ := h
 obtain ⟨l, ⟨A', c', e, hc, hC⟩, hq⟩ := ho H enc W fuel _ _ hf
 simp only [Value.cells] at e
 injection e with e _
 injection e with e1 e2 e3
 subst e1
 subst e2
 subst e3
 exact ⟨A, c, l, rfl, hC, hc, hq⟩
end Go.Proofs.Ytbfialebaoeicaa.X
namespace Go.Proofs.Ytbfialebaoeicaa.X
open Go.ChangeShapes Go.WideShapes Go.ChangeAt Go.RowKit Go.Proofs.YtbfialebaoeicaaW.PrintWords Go.Proofs.YtbfialebaoeicaaW.PrintLast Go.Proofs.YtbfialebaoeicaaW.PrintMore
set_option linter.all false
set_option maxRecDepth 100000
def OpensPF {α : Type} (d : Kd α) (fs : List Field) (off : Nat) (Q : α → Prop) : Prop := ∀ (H : Type) (enc : TypeId × Value → H) (w : World) (n : Nat) (cs : List Value), cs.length = off + d.sz →
 (∀ f ∈ fs, ∃ y, DataW.trod enc Try.prog w 0 (fun _ => true) true n f.type ((cs.drop f.offset).take (Try.prog.cellsOf f.type)) = some y) → ∃ a, d.K w a (cs.drop off) ∧ Q a
theorem OpensPF.one {α : Type} {d : Kd α} {f : Field} {off : Nat} {Q : α → Prop} (ho : f.offset = off) (hd : OpensP d f.type Q) (hs : Try.prog.cellsOf f.type = d.sz) : OpensPF d [f] off Q := fun H enc w n cs hl h => by
 obtain ⟨y, hy⟩ := h f (List.mem_cons_self ..)
 rw [ho, hs, List.take_of_length_le (by rw [List.length_drop]; omega)] at hy
 exact hd H enc w n _ _ hy
theorem OpensPF.cons {α β : Type} {d : Kd α} {d2 : Kd β} {f : Field} {fs : List Field} {off : Nat} {Q : α → Prop} {Q2 : β → Prop} (ho : f.offset = off) (hd : OpensP d f.type Q) (hs : Try.prog.cellsOf f.type = d.sz) (h2 : OpensPF d2 fs (off + d.sz) Q2) : OpensPF (Kd.pair d d2) (f :: fs) off (fun x => Q x.1 ∧ Q2 x.2) := fun H enc w n cs hl h => by
 obtain ⟨y, hy⟩ := h f (List.mem_cons_self ..)
 rw [ho, hs] at hy
 obtain ⟨a, ha, hqa⟩ := hd H enc w n _ _ hy
 have hl' : cs.length = off + (d.sz + d2.sz) := hl
 obtain ⟨b, hb, hqb⟩ := h2 H enc w n cs (by omega) fun g hg => h g (List.mem_cons_of_mem _ hg)
 refine ⟨(a, b), ⟨_, _, ?_, ha, hb⟩, hqa, hqb⟩
 rw [show cs.drop (off + d.sz) = (cs.drop off).drop d.sz by rw [List.drop_drop], List.take_append_drop]
theorem OpensP.struct {α : Type} {d : Kd α} {t : TypeId} {fs : Array Field} {Q : α → Prop} (ht : Try.prog.underlying t = some (.struct fs)) (hs : Try.prog.cellsOf t = d.sz) (h : OpensPF d fs.toList 0 Q) : OpensP d t Q := fun H enc w fuel cs x hx => by
 obtain ⟨xs, n, _, _, hl, hlen, hf⟩ := DataW.trod_struct ht hx
 have := h H enc w n cs (by omega) fun f hm => by
  obtain ⟨i, hi, e⟩ := List.getElem_of_mem hm
  have hi' : i < fs.size := by simpa using hi
  have := hf i f (by rw [← e]; simp [hi'])
  rw [this, List.getElem?_eq_getElem (by omega)]
  exact ⟨_, rfl⟩
 simpa using this
theorem OpensP.iso {α β : Type} {d : Kd α} {t : TypeId} {Q : α → Prop} (f : β → α) (g : α → β) (hg : ∀ y, f (g y) = y) (h : OpensP d t Q) : OpensP (Kd.iso d f) t (fun y => Q (f y)) := fun H enc w fuel cs x hx => by
 obtain ⟨a, ha, hq⟩ := h H enc w fuel cs x hx
 exact ⟨g a, show d.K w (f (g a)) cs by rw [hg]; exact ha, by show Q (f (g a)); rw [hg]; exact hq⟩
theorem OpensP.of {α : Type} {d : Kd α} {t : TypeId} (h : Opens d t) : OpensP d t (fun _ => True) := fun H enc w fuel cs x hx => by
 obtain ⟨a, ha⟩ := h H enc w fuel cs x hx
 exact ⟨a, ha, trivial⟩
theorem OpensP.mono {α : Type} {d : Kd α} {t : TypeId} {Q Q' : α → Prop} (h : OpensP d t Q) (hq : ∀ a, Q a → Q' a) : OpensP d t Q' := fun H enc w fuel cs x hx => by
 obtain ⟨a, ha, h1⟩ := h H enc w fuel cs x hx
 exact ⟨a, ha, hq _ h1⟩
def W16 (x : Int) : Prop := (Lit.int .u16 x).wf = true
theorem pInt : OpensP (Kd.int .i64) 3 (fun _ => True) := .of (Opens.int Try.underlying3)
theorem pBool : OpensP Kd.bool 4 (fun _ => True) := .of (Opens.bool Try.underlying4)
theorem pWord : OpensP (Kd.int .u16) 44 W16 := OpensP.int (by kernel_rfl)
theorem pWords : OpensP (Kd.slice 44 (Kd.int .u16)) 33 (fun l => ∀ x ∈ l, W16 x) := OpensP.slice 44 Try.underlying33 pWord (by kernel_rfl)
theorem pInts : OpensP (Kd.slice 3 (Kd.int .i64)) 37 (fun _ => True) := .of (Opens.slice 3 Try.underlying37 (Opens.int Try.underlying3) (by kernel_rfl))
abbrev kFr : Kd (Int × Int × Int × List Int × Int) := Kd.pair (Kd.int .i64) (Kd.pair (Kd.int .i64) (Kd.pair (Kd.int .i64) (Kd.pair (Kd.slice 44 (Kd.int .u16)) (Kd.int .u16))))
theorem pFr : OpensP kFr 55 (fun y => True ∧ True ∧ True ∧ (∀ x ∈ y.2.2.2.1, W16 x) ∧ W16 y.2.2.2.2) := (OpensP.struct Try.underlying55 (by kernel_rfl) (.cons rfl pInt (by kernel_rfl) (.cons rfl pInt (by kernel_rfl) (.cons rfl pInt (by kernel_rfl) (.cons rfl pWords (by kernel_rfl) (.one rfl pWord (by kernel_rfl))))))).mono fun y h => h
theorem pIns : OpensP k49 49 (fun x => W16 x.f4) := (OpensP.iso _ (fun y => ⟨y.1, y.2.1, y.2.2.1, y.2.2.2.1, y.2.2.2.2.1, y.2.2.2.2.2.1, y.2.2.2.2.2.2⟩) (fun _ => rfl) (OpensP.struct Try.underlying49 (by kernel_rfl) (.cons rfl pInt (by kernel_rfl) (.cons rfl pInt (by kernel_rfl) (.cons rfl pInt (by kernel_rfl) (.cons rfl pInt (by kernel_rfl) (.cons rfl pWord (by kernel_rfl) (.cons rfl pInt (by kernel_rfl) (.one rfl pInts (by kernel_rfl)))))))))).mono fun x h => h.2.2.2.2.1
theorem pPad : OpensP k35 35 (fun x => ∀ y ∈ x.f1, W16 y) := (OpensP.iso _ (fun y => ⟨y.1, y.2.1, y.2.2.1, y.2.2.2⟩) (fun _ => rfl) (OpensP.struct Try.underlying35 (by kernel_rfl) (.cons rfl pInt (by kernel_rfl) (.cons rfl pWords (by kernel_rfl) (.cons rfl pBool (by kernel_rfl) (.one rfl pBool (by kernel_rfl))))))).mono fun x h => h.2.1
theorem pEnd : OpensP k39 39 (fun _ => True) := (OpensP.iso _ (fun y => ⟨y.1, y.2.1, y.2.2.1, y.2.2.2.1, y.2.2.2.2.1, y.2.2.2.2.2.1, y.2.2.2.2.2.2.1, y.2.2.2.2.2.2.2⟩) (fun _ => rfl) (OpensP.struct Try.underlying39 (by kernel_rfl) (.cons rfl pInt (by kernel_rfl) (.cons rfl pInt (by kernel_rfl) (.cons rfl pInt (by kernel_rfl) (.cons rfl pInt (by kernel_rfl) (.cons rfl pInts (by kernel_rfl) (.cons rfl pInt (by kernel_rfl) (.cons rfl pInt (by kernel_rfl) (.one rfl pInt (by kernel_rfl))))))))))).mono fun x h => trivial
theorem pBlock : OpensP k41 41 (fun _ => True) := (OpensP.iso _ (fun y => ⟨y.1, y.2.1, y.2.2.1, y.2.2.2⟩) (fun _ => rfl) (OpensP.struct Try.underlying41 (by kernel_rfl) (.cons rfl pBool (by kernel_rfl) (.cons rfl pPad (by kernel_rfl) (.cons rfl (OpensP.slice 49 (t := 36) (e := 49) (by kernel_rfl) pIns (by kernel_rfl)) (by kernel_rfl) (.one rfl pEnd (by kernel_rfl))))))).mono fun x h => trivial
theorem pFunc : OpensP k27 27 (fun _ => True) := (OpensP.iso _ (fun y => ⟨y.1, y.2.1, y.2.2⟩) (fun _ => rfl) (OpensP.struct Try.underlying27 (by kernel_rfl) (.cons rfl pInt (by kernel_rfl) (.cons rfl pInt (by kernel_rfl) (.one rfl (OpensP.slice 41 (t := 25) (e := 41) (by kernel_rfl) pBlock (by kernel_rfl)) (by kernel_rfl)))))).mono fun x h => trivial
theorem pMods : OpensP (Kd.slice 27 k27) 22 (fun _ => True) := (OpensP.slice 27 (t := 22) (e := 27) (by kernel_rfl) pFunc (by kernel_rfl)).mono fun x h => trivial
theorem pMod : OpensP (Kd.slice 27 k27) 24 (fun _ => True) := OpensP.struct Try.underlying24 (by kernel_rfl) (.one rfl pMods (by kernel_rfl))
theorem open_st {α : Type} {k : Kd α} {t : TypeId} {fs : Array Field} {Q : α → Prop} (ht : Try.prog.underlying t = some (.struct fs)) (ho : OpensP k t Q) {H : Type} {enc : TypeId × Value → H} {W : World} {r : Reach} {b0 : Nat} {v : Value} {d : DataW H} {p : List MemPlace} (hv : Value.okWide Try.prog W r b0 t v) (h : DataW.Trod enc Try.prog W 0 (fun _ => true) true t v d p) :
  ∃ a cs, v = .agg cs ∧ k.K W a cs.toList ∧ Q a := by
 obtain ⟨cs, rfl, _⟩ := Go.WideShapes.okWide_struct ht hv
 obtain ⟨fuel, hf⟩ := h
 obtain ⟨a, ha, hq⟩ := ho H enc W fuel _ _ hf
 exact ⟨a, cs, rfl, ha, hq⟩
theorem agg_of {cs : Array Value} {l : List Value} (h : cs.toList = l) : (Value.agg cs) = .agg l.toArray := by rw [← h]
theorem open_frame {H : Type} {enc : TypeId × Value → H} {W : World} {r : Reach} {b0 : Nat} {v : Value} {d : DataW H} {p : List MemPlace} (hv : Value.okWide Try.prog W r b0 55 v) (h : DataW.Trod enc Try.prog W 0 (fun _ => true) true 55 v d p) : ∃ (f b a : Int) (A : Option Addr) (c : Nat) (l : List Int) (y : Int), v = .agg #[.int .i64 f, .int .i64 b, .int .i64 a, .slice A l.length c, .int .u16 y] ∧ Kd.C (Kd.int .u16) W A l.length l ∧ l.length ≤ c ∧ (∀ x ∈ l, W16 x) ∧ W16 y := by
 obtain ⟨⟨f, b, a, l, y⟩, cs, rfl, hK, _, _, _, hq⟩ := open_st Try.underlying55 pFr hv h
 obtain ⟨_, _, e, e1, _, _, e2, e3, _, _, e4, e5, _, _, e6, ⟨A, c, e7, hc, hC⟩, e8⟩ := hK
 refine ⟨f, b, a, A, c, l, y, ?_, hC, hc, hq⟩
 rw [agg_of e, e1, e2, e3, e4, e5, e6, e7, e8]
 rfl
theorem open_mod {H : Type} {enc : TypeId × Value → H} {W : World} {r : Reach} {b0 : Nat} {v : Value} {d : DataW H} {p : List MemPlace} (hv : Value.okWide Try.prog W r b0 24 v) (h : DataW.Trod enc Try.prog W 0 (fun _ => true) true 24 v d p) : ∃ (A : Option Addr) (c : Nat) (m : List S27), v = .agg #[.slice A m.length c] ∧ Kd.C k27 W A m.length m ∧ m.length ≤ c := by
 obtain ⟨m, cs, rfl, hK, hq⟩ := open_st Try.underlying24 pMod hv h
 obtain ⟨A, c, e, hc, hC⟩ := hK
 exact ⟨A, c, m, agg_of e, hC, hc⟩
end Go.Proofs.Ytbfialebaoeicaa.X
namespace Go.Proofs.Ytbfialebaoeicaa.X
open Go.RowKit Go.Proofs.YtbfialebaoeicaaW.PrintWords Go.Proofs.YtbfialebaoeicaaW.PrintLast Go.Proofs.YtbfialebaoeicaaW.PrintMore
set_option linter.all false
theorem with_f (F Bl At : Int) (l : List Int) (Fly n v : Int) (h : win n l.length = true) (hm : l.length ≤ 1000000) : davitref05_With.f F Bl At l Fly n v = some (F, Bl, At, l.set n.toNat v, Fly) := by
 have hw := win_at h
 unfold davitref05_With.f
 rw [Option.bind_some, if_pos (by simp; omega), Option.bind_some, List.nil_append, if_pos hw.1, if_pos hw.2]
end Go.Proofs.Ytbfialebaoeicaa.X
namespace Go.Proofs.Ytbfialebaoeicaa.X
open Go.RowKit Go.Proofs.YtbfialebaoeicaaW.PrintWords Go.Proofs.YtbfialebaoeicaaW.PrintLast Go.Proofs.YtbfialebaoeicaaW.PrintMore
set_option linter.all false
theorem any_step' {α : Type} (l : List α) (z : α) (q : α → Bool) (x : Int) (h0 : 0 ≤ x) (h1 : x < (l.length : Int)) : (l.take (x + 1).toNat).any q = ((l.take x.toNat).any q || q (l.getD x.toNat z)) := by
 have e : (x + 1).toNat = x.toNat + 1 := by omega
 have hl : x.toNat < l.length := by omega
 rw [e, List.take_succ_eq_append_getElem hl, List.any_append, List.any_cons, List.any_nil, Bool.or_false, List.getD_eq_getElem?_getD, List.getElem?_eq_getElem hl]
 rfl
theorem any_end {α : Type} (l : List α) (q : α → Bool) (x : Int) (h1 : ¬ x < (l.length : Int)) : (l.take x.toNat).any q = l.any q := by rw [List.take_of_length_le (by omega)]
theorem rd_mem0 {α : Type} (l : List α) (z : α) (x : Int) (h0 : 0 ≤ x) (h1 : x < (l.length : Int)) : l.getD x.toNat z ∈ l := by
 have hl : x.toNat < l.length := by omega
 rw [List.getD_eq_getElem?_getD, List.getElem?_eq_getElem hl]
 exact List.getElem_mem hl
theorem any_yes {α : Type} (l : List α) (z : α) (q : α → Bool) (x : Int) (h0 : 0 ≤ x) (h1 : x < (l.length : Int)) (h : q (l.getD x.toNat z) = true) : l.any q = true := List.any_eq_true.2 ⟨_, rd_mem0 l z x h0 h1, h⟩
set_option maxHeartbeats 16000000 in
set_option maxRecDepth 100000 in
theorem idx_int (A : Option Addr) (c : Nat) (l : List Int) (g : Nat) (lb : Array Value) (q : Int → Bool) (w : World) (eg : ∀ args w, (callFunc g args).run Try.prog w = .ok (.enter g args) w) (hr : Kd.C (Kd.int .i64) w A l.length l) (hp : ∀ x ∈ l, ∀ W : World, Below w.heap.size w W →  Calls Try.prog g (#[.int .i64 x] ++ lb) W fun e w' => e = .returned (.bool (q x)) ∧ Below W.heap.size W w') :
  Calls Try.prog 129 #[.slice A l.length c, .func (.func g) #[] lb] w fun e w' => (∃ i : Int, e = .returned (.int .i64 i) ∧ decide (0 ≤ i) = l.any q) ∧ Below w.heap.size w w' := by
 have HR := Aside0.mk hr
 have HP := Aside0.mk hp
 have hm := hr.2.1
 clear hr hp
 go_enter Try.func129, Try.ntmps129
 go_wp2
 go_loopg [5, 8] l.length (fun gg _ s8 wr => ∃ x : Int, s8 = .int .i64 x ∧ Aside0 (0 ≤ x ∧ x ≤ l.length ∧ (l.length : Int) - x ≤ gg) ∧ Aside0 (Below w.heap.size w wr) ∧ Aside0 ((l.take x.toNat).any q = false))
 case atStart => exact ⟨0, rfl, ⟨by omega⟩, ⟨Below.refl _ _⟩, ⟨by simp⟩⟩
 case round =>
  obtain ⟨x, rfl, HX, HB, HA⟩ := hrel
  by_cases hlt : x < (l.length : Int)
  rotate_left
  ·have hd : decide (x < (l.length : Int)) = false := decide_eq_false hlt
   have HK := Aside0.mk (show l.any q = false by rw [← any_end l q x hlt]; exact HA.out)
   clear hlt
   go_wp2
   go_ret
   exact ⟨⟨_, rfl, by rw [HK.out]; rfl⟩, HB.out⟩
  have hd : decide (x < (l.length : Int)) = true := decide_eq_true hlt
  have HLT := Aside0.mk hlt
  clear hlt
  obtain ⟨ad, e1, hx⟩ := Kd.at_int (Kd.C_below HR.out HB.out) x HX.out.1 HLT.out
  subst e1
  have HST := Aside0.mk (any_step' l 0 q x HX.out.1 HLT.out)
  have HYES := Aside0.mk (any_yes l 0 q x HX.out.1 HLT.out)
  have HME := Aside0.mk (rd_mem0 l 0 x HX.out.1 HLT.out)
  have hrd : l.getD x.toNat 0 = rd l x := rfl
  rw [hrd] at HST HYES HME
  clear hrd
  have hcall := HP.out (rd l x) HME.out wr HB.out
  have p0 : (0 ≤ x) = True := eq_true HX.out.1
  have q0 : (x < (l.length : Int)) = True := eq_true HLT.out
  have HLN := Aside0.mk hm
  cases hq : q (rd l x) with
  | true =>
   rw [hq] at hcall
   have HCL := Aside0.mk hcall
   have HQ := Aside0.mk hq
   clear hcall hq
   go_wp2_with (go_at_fn g; refine HCL.out.mono ?_; rintro e w' ⟨rfl, hb⟩; have HB2 := Aside0.mk (below_step HB.out hb); clear hb)
   go_ret
   exact ⟨⟨_, rfl, by rw [HYES.out HQ.out]; exact decide_eq_true HX.out.1⟩, HB2.out⟩
  | false =>
   rw [hq] at hcall
   have HCL := Aside0.mk hcall
   have HQ := Aside0.mk hq
   clear hcall hq
   go_wp2_with (go_at_fn g; refine HCL.out.mono ?_; rintro e w' ⟨rfl, hb⟩; have HB2 := Aside0.mk (below_step HB.out hb); clear hb)
   have W1 := Aside0.mk (show wrap64 (x + 1) = x + 1 from wrap_in _ (by have := HX.out; omega) (by have := HLT.out; have := HLN.out; omega))
   go_roundg ((l.length : Int) - (x + 1)).toNat
   case measure => have h1_ := HX.out; have h2_ := HLT.out; omega
   case rel => exact ⟨x + 1, by first | (rw [W1.out]; done) | rfl | (simp only [W1.out]; done), ⟨by have := HX.out; have := HLT.out; omega⟩, HB2, ⟨by rw [HST.out, HA.out, HQ.out]; rfl⟩⟩
set_option maxHeartbeats 16000000 in
set_option maxRecDepth 100000 in
theorem con_int (A : Option Addr) (c : Nat) (l : List Int) (g : Nat) (lb : Array Value) (q : Int → Bool) (w : World) (eg : ∀ args w, (callFunc g args).run Try.prog w = .ok (.enter g args) w) (hr : Kd.C (Kd.int .i64) w A l.length l) (hp : ∀ x ∈ l, ∀ W : World, Below w.heap.size w W →  Calls Try.prog g (#[.int .i64 x] ++ lb) W fun e w' => e = .returned (.bool (q x)) ∧ Below W.heap.size W w') :
  Calls Try.prog 122 #[.slice A l.length c, .func (.func g) #[] lb] w fun e w' => e = .returned (.bool (l.any q)) ∧ Below w.heap.size w w' := by
 have H := Aside0.mk (idx_int A c l g lb q w eg hr hp)
 clear hr hp
 go_enter Try.func122, Try.ntmps122
 go_wp2_with (go_at_call 129; (with_reducible refine H.out.mono ?_); rintro e w' ⟨⟨i, rfl, hi⟩, hb⟩; have HI := Aside0.mk hi; have HB := Aside0.mk hb; clear hi hb)
 all_goals (go_ret; exact ⟨ret_b HI.out, HB.out⟩)
set_option maxHeartbeats 16000000 in
set_option maxRecDepth 100000 in
theorem idx_ins (A : Option Addr) (c : Nat) (l : List S49) (g : Nat) (lb : Array Value) (q : S49 → Bool) (w : World) (eg : ∀ args w, (callFunc g args).run Try.prog w = .ok (.enter g args) w) (hr : Kd.C k49 w A l.length l) (hp : ∀ x ∈ l, ∀ W : World, Below w.heap.size w W → ∀ cs, k49.K W x cs → Calls Try.prog g (#[.agg cs.toArray] ++ lb) W fun e w' => e = .returned (.bool (q x)) ∧ Below W.heap.size W w') :
  Calls Try.prog 109 #[.slice A l.length c, .func (.func g) #[] lb] w fun e w' => (∃ i : Int, e = .returned (.int .i64 i) ∧ decide (0 ≤ i) = l.any q) ∧ Below w.heap.size w w' := by
 have HR := Aside0.mk hr
 have HP := Aside0.mk hp
 have hm := hr.2.1
 clear hr hp
 go_enter Try.func109, Try.ntmps109
 go_wp2
 go_loopg [5, 8] l.length (fun gg _ s8 wr => ∃ x : Int, s8 = .int .i64 x ∧ Aside0 (0 ≤ x ∧ x ≤ l.length ∧ (l.length : Int) - x ≤ gg) ∧ Aside0 (Below w.heap.size w wr) ∧ Aside0 ((l.take x.toNat).any q = false))
 case atStart => exact ⟨0, rfl, ⟨by omega⟩, ⟨Below.refl _ _⟩, ⟨by simp⟩⟩
 case round =>
  obtain ⟨x, rfl, HX, HB, HA⟩ := hrel
  by_cases hlt : x < (l.length : Int)
  rotate_left
  ·have hd : decide (x < (l.length : Int)) = false := decide_eq_false hlt
   have HK := Aside0.mk (show l.any q = false by rw [← any_end l q x hlt]; exact HA.out)
   clear hlt
   go_wp2
   go_ret
   exact ⟨⟨_, rfl, by rw [HK.out]; rfl⟩, HB.out⟩
  have hd : decide (x < (l.length : Int)) = true := decide_eq_true hlt
  have HLT := Aside0.mk hlt
  clear hlt
  obtain ⟨ad, A7, c7, e1, y0, y1, y2, y3, y4, y5, y6, hl7, hC7⟩ := at_T49 (Kd.C_below HR.out HB.out) x HX.out.1 HLT.out
  subst e1
  have HST := Aside0.mk (any_step' l z49 q x HX.out.1 HLT.out)
  have HYES := Aside0.mk (any_yes l z49 q x HX.out.1 HLT.out)
  have HME := Aside0.mk (rd_mem0 l z49 x HX.out.1 HLT.out)
  have hrd : l.getD x.toNat z49 = rd_T49 l x := rfl
  rw [hrd] at HST HYES HME
  clear hrd
  have hcall := HP.out (rd_T49 l x) HME.out wr HB.out _ (k49_mk wr (rd_T49 l x) hl7 hC7)
  clear hl7 hC7
  have p0 : (0 ≤ x) = True := eq_true HX.out.1
  have q0 : (x < (l.length : Int)) = True := eq_true HLT.out
  have HLN := Aside0.mk hm
  cases hq : q (rd_T49 l x) with
  | true =>
   rw [hq] at hcall
   have HCL := Aside0.mk hcall
   have HQ := Aside0.mk hq
   clear hcall hq
   go_wp2_with (go_at_fn g; refine HCL.out.mono ?_; rintro e w' ⟨rfl, hb⟩; have HB2 := Aside0.mk (below_step HB.out hb); clear hb)
   go_ret
   exact ⟨⟨_, rfl, by rw [HYES.out HQ.out]; exact decide_eq_true HX.out.1⟩, HB2.out⟩
  | false =>
   rw [hq] at hcall
   have HCL := Aside0.mk hcall
   have HQ := Aside0.mk hq
   clear hcall hq
   go_wp2_with (go_at_fn g; refine HCL.out.mono ?_; rintro e w' ⟨rfl, hb⟩; have HB2 := Aside0.mk (below_step HB.out hb); clear hb)
   have W1 := Aside0.mk (show wrap64 (x + 1) = x + 1 from wrap_in _ (by have := HX.out; omega) (by have := HLT.out; have := HLN.out; omega))
   go_roundg ((l.length : Int) - (x + 1)).toNat
   case measure => have h1_ := HX.out; have h2_ := HLT.out; omega
   case rel => exact ⟨x + 1, by first | (rw [W1.out]; done) | rfl | (simp only [W1.out]; done), ⟨by have := HX.out; have := HLT.out; omega⟩, HB2, ⟨by rw [HST.out, HA.out, HQ.out]; rfl⟩⟩
set_option maxHeartbeats 16000000 in
set_option maxRecDepth 100000 in
theorem con_ins (A : Option Addr) (c : Nat) (l : List S49) (g : Nat) (lb : Array Value) (q : S49 → Bool) (w : World) (eg : ∀ args w, (callFunc g args).run Try.prog w = .ok (.enter g args) w) (hr : Kd.C k49 w A l.length l) (hp : ∀ x ∈ l, ∀ W : World, Below w.heap.size w W → ∀ cs, k49.K W x cs → Calls Try.prog g (#[.agg cs.toArray] ++ lb) W fun e w' => e = .returned (.bool (q x)) ∧ Below W.heap.size W w') :
  Calls Try.prog 85 #[.slice A l.length c, .func (.func g) #[] lb] w fun e w' => e = .returned (.bool (l.any q)) ∧ Below w.heap.size w w' := by
 have H := Aside0.mk (idx_ins A c l g lb q w eg hr hp)
 clear hr hp
 go_enter Try.func85, Try.ntmps85
 go_wp2_with (go_at_call 109; (with_reducible refine H.out.mono ?_); rintro e w' ⟨⟨i, rfl, hi⟩, hb⟩; have HI := Aside0.mk hi; have HB := Aside0.mk hb; clear hi hb)
 all_goals (go_ret; exact ⟨ret_b HI.out, HB.out⟩)
set_option maxHeartbeats 16000000 in
set_option maxRecDepth 100000 in
theorem idx_func (A : Option Addr) (c : Nat) (l : List S27) (g : Nat) (lb : Array Value) (q : S27 → Bool) (w : World) (eg : ∀ args w, (callFunc g args).run Try.prog w = .ok (.enter g args) w) (hr : Kd.C k27 w A l.length l) (hp : ∀ x ∈ l, ∀ W : World, Below w.heap.size w W → ∀ cs, k27.K W x cs → Calls Try.prog g (#[.agg cs.toArray] ++ lb) W fun e w' => e = .returned (.bool (q x)) ∧ Below W.heap.size W w') :
  Calls Try.prog 82 #[.slice A l.length c, .func (.func g) #[] lb] w fun e w' => (∃ i : Int, e = .returned (.int .i64 i) ∧ decide (0 ≤ i) = l.any q) ∧ Below w.heap.size w w' := by
 have HR := Aside0.mk hr
 have HP := Aside0.mk hp
 have hm := hr.2.1
 clear hr hp
 go_enter Try.func82, Try.ntmps82
 go_wp2
 go_loopg [5, 8] l.length (fun gg _ s8 wr => ∃ x : Int, s8 = .int .i64 x ∧ Aside0 (0 ≤ x ∧ x ≤ l.length ∧ (l.length : Int) - x ≤ gg) ∧ Aside0 (Below w.heap.size w wr) ∧ Aside0 ((l.take x.toNat).any q = false))
 case atStart => exact ⟨0, rfl, ⟨by omega⟩, ⟨Below.refl _ _⟩, ⟨by simp⟩⟩
 case round =>
  obtain ⟨x, rfl, HX, HB, HA⟩ := hrel
  by_cases hlt : x < (l.length : Int)
  rotate_left
  ·have hd : decide (x < (l.length : Int)) = false := decide_eq_false hlt
   have HK := Aside0.mk (show l.any q = false by rw [← any_end l q x hlt]; exact HA.out)
   clear hlt
   go_wp2
   go_ret
   exact ⟨⟨_, rfl, by rw [HK.out]; rfl⟩, HB.out⟩
  have hd : decide (x < (l.length : Int)) = true := decide_eq_true hlt
  have HLT := Aside0.mk hlt
  clear hlt
  obtain ⟨ad, A7, c7, e1, y0, y1, y2, hl7, hC7⟩ := at_T27 (Kd.C_below HR.out HB.out) x HX.out.1 HLT.out
  subst e1
  have HST := Aside0.mk (any_step' l z27 q x HX.out.1 HLT.out)
  have HYES := Aside0.mk (any_yes l z27 q x HX.out.1 HLT.out)
  have HME := Aside0.mk (rd_mem0 l z27 x HX.out.1 HLT.out)
  have hrd : l.getD x.toNat z27 = rd_T27 l x := rfl
  rw [hrd] at HST HYES HME
  clear hrd
  have hcall := HP.out (rd_T27 l x) HME.out wr HB.out _ (k27_mk wr (rd_T27 l x) hl7 hC7)
  clear hl7 hC7
  have p0 : (0 ≤ x) = True := eq_true HX.out.1
  have q0 : (x < (l.length : Int)) = True := eq_true HLT.out
  have HLN := Aside0.mk hm
  cases hq : q (rd_T27 l x) with
  | true =>
   rw [hq] at hcall
   have HCL := Aside0.mk hcall
   have HQ := Aside0.mk hq
   clear hcall hq
   go_wp2_with (go_at_fn g; refine HCL.out.mono ?_; rintro e w' ⟨rfl, hb⟩; have HB2 := Aside0.mk (below_step HB.out hb); clear hb)
   go_ret
   exact ⟨⟨_, rfl, by rw [HYES.out HQ.out]; exact decide_eq_true HX.out.1⟩, HB2.out⟩
  | false =>
   rw [hq] at hcall
   have HCL := Aside0.mk hcall
   have HQ := Aside0.mk hq
   clear hcall hq
   go_wp2_with (go_at_fn g; refine HCL.out.mono ?_; rintro e w' ⟨rfl, hb⟩; have HB2 := Aside0.mk (below_step HB.out hb); clear hb)
   have W1 := Aside0.mk (show wrap64 (x + 1) = x + 1 from wrap_in _ (by have := HX.out; omega) (by have := HLT.out; have := HLN.out; omega))
   go_roundg ((l.length : Int) - (x + 1)).toNat
   case measure => have h1_ := HX.out; have h2_ := HLT.out; omega
   case rel => exact ⟨x + 1, by first | (rw [W1.out]; done) | rfl | (simp only [W1.out]; done), ⟨by have := HX.out; have := HLT.out; omega⟩, HB2, ⟨by rw [HST.out, HA.out, HQ.out]; rfl⟩⟩
set_option maxHeartbeats 16000000 in
set_option maxRecDepth 100000 in
theorem con_func (A : Option Addr) (c : Nat) (l : List S27) (g : Nat) (lb : Array Value) (q : S27 → Bool) (w : World) (eg : ∀ args w, (callFunc g args).run Try.prog w = .ok (.enter g args) w) (hr : Kd.C k27 w A l.length l) (hp : ∀ x ∈ l, ∀ W : World, Below w.heap.size w W → ∀ cs, k27.K W x cs → Calls Try.prog g (#[.agg cs.toArray] ++ lb) W fun e w' => e = .returned (.bool (q x)) ∧ Below W.heap.size W w') :
  Calls Try.prog 52 #[.slice A l.length c, .func (.func g) #[] lb] w fun e w' => e = .returned (.bool (l.any q)) ∧ Below w.heap.size w w' := by
 have H := Aside0.mk (idx_func A c l g lb q w eg hr hp)
 clear hr hp
 go_enter Try.func52, Try.ntmps52
 go_wp2_with (go_at_call 82; (with_reducible refine H.out.mono ?_); rintro e w' ⟨⟨i, rfl, hi⟩, hb⟩; have HI := Aside0.mk hi; have HB := Aside0.mk hb; clear hi hb)
 all_goals (go_ret; exact ⟨ret_b HI.out, HB.out⟩)
end Go.Proofs.Ytbfialebaoeicaa.X
namespace Go.Proofs.Ytbfialebaoeicaa.X
open Go.RowKit Go.Proofs.YtbfialebaoeicaaW.PrintWords Go.Proofs.YtbfialebaoeicaaW.PrintLast Go.Proofs.YtbfialebaoeicaaW.PrintMore
set_option linter.all false
set_option maxHeartbeats 16000000 in
set_option maxRecDepth 100000 in
theorem place_c (m : List S27) (A0 : Option Addr) (c0 : Nat) (f : S27) (A1 : Option Addr) (c1 : Nat) (n : Int) (w : World) :
  Calls Try.prog 104 #[.agg #[.slice A0 m.length c0, .int .i64 f.f0, .int .i64 f.f1, .slice A1 f.f2.length c1], .int .i64 n] w fun e w' => e = .returned (.bool (win n f.f1)) ∧ Below w.heap.size w w' := by
 have hu24 := Try.underlying24
 have hu27 := Try.underlying27
 have hu87 := Try.underlying87
 go_enter Try.func104, Try.ntmps104
 go_wp2_with ((with_reducible refine gate_dst (N := 2) rfl ?_); refine box_event ?hg (N := 2) ?hd (cs := #[.slice A0 m.length c0, .int .i64 f.f0, .int .i64 f.f1, .slice A1 f.f2.length c1]) (t := 87) ?hr ?_; (case hd => rfl); (case hg => rfl); (case hr => first | (go_simp; done) | (go_simp; rfl)); intro g1 hg w1 hbox hb; have HB := Aside0.mk hb; have X1 := Aside0.mk hbox; clear hbox hb hg; have k0 := (blk_cell X1.out 0).trans rfl; have k1 := (blk_cell X1.out 1).trans rfl; have k2 := (blk_cell X1.out 2).trans rfl; have k3 := (blk_cell X1.out 3).trans rfl)
 all_goals (go_ret; exact ⟨ret_b (by first | (simp [win, *]; done) | (simp [win, *]; omega)), HB.out⟩)
set_option maxHeartbeats 16000000 in
set_option maxRecDepth 100000 in
theorem goal_l (m : List S27) (A0 : Option Addr) (c0 : Nat) (f : S27) (A1 : Option Addr) (c1 : Nat) (n : Int) (w : World) (hb : Kd.C k41 w A1 f.f2.length f.f2) :
  Calls Try.prog 106 #[.agg #[.slice A0 m.length c0, .int .i64 f.f0, .int .i64 f.f1, .slice A1 f.f2.length c1], .int .i64 n] w fun e w' => e = .returned (.bool (goalR f.f2 n)) ∧ Below w.heap.size w w' := by
 have HL := Aside0.mk hb
 clear hb
 have hu24 := Try.underlying24
 have hu27 := Try.underlying27
 have hu87 := Try.underlying87
 by_cases hw : win n f.f2.length = true
 rotate_left
 ·have hw := Bool.eq_false_iff.2 hw
  have HW := Aside0.mk (show goalR f.f2 n = false by unfold goalR; rw [hw]; rfl)
  by_cases h0 : 0 ≤ n
  ·have g0 : decide (0 ≤ n) = true := decide_eq_true h0
   have g1 : decide (n < (f.f2.length : Int)) = false := decide_eq_false (by intro h; simp [win] at hw; have := hw h0; omega)
   clear hw h0
   go_enter Try.func106, Try.ntmps106
   go_wp2_with ((with_reducible refine gate_dst (N := 2) rfl ?_); refine box_event ?hg (N := 2) ?hd (cs := #[.slice A0 m.length c0, .int .i64 f.f0, .int .i64 f.f1, .slice A1 f.f2.length c1]) (t := 87) ?hr ?_; (case hd => rfl); (case hg => rfl); (case hr => first | (go_simp; done) | (go_simp; rfl)); intro g1 hg w1 hbox hb; have HB := Aside0.mk hb; have X1 := Aside0.mk hbox; clear hbox hb hg; have k0 := (blk_cell X1.out 0).trans rfl; have k1 := (blk_cell X1.out 1).trans rfl; have k2 := (blk_cell X1.out 2).trans rfl; have k3 := (blk_cell X1.out 3).trans rfl)
   go_ret
   exact ⟨ret_b HW.out.symm, HB.out⟩
  ·have g0 : decide (0 ≤ n) = false := decide_eq_false h0
   clear hw h0
   go_enter Try.func106, Try.ntmps106
   go_wp2_with ((with_reducible refine gate_dst (N := 2) rfl ?_); refine box_event ?hg (N := 2) ?hd (cs := #[.slice A0 m.length c0, .int .i64 f.f0, .int .i64 f.f1, .slice A1 f.f2.length c1]) (t := 87) ?hr ?_; (case hd => rfl); (case hg => rfl); (case hr => first | (go_simp; done) | (go_simp; rfl)); intro g1 hg w1 hbox hb; have HB := Aside0.mk hb; have X1 := Aside0.mk hbox; clear hbox hb hg; have k0 := (blk_cell X1.out 0).trans rfl; have k1 := (blk_cell X1.out 1).trans rfl; have k2 := (blk_cell X1.out 2).trans rfl; have k3 := (blk_cell X1.out 3).trans rfl)
   go_ret
   exact ⟨ret_b HW.out.symm, HB.out⟩
 have hnn := win_at hw
 have hxx := at_T41 HL.out n hnn.1 hnn.2
 obtain ⟨ad, _, _, _, _, _, _, e1, hx, _⟩ := hxx
 subst e1
 have p1 : (0 ≤ n) = True := eq_true hnn.1
 have p2 : (n < (f.f2.length : Int)) = True := eq_true hnn.2
 have HW := Aside0.mk (show goalR f.f2 n = !(rd_T41 f.f2 n).f0 by unfold goalR; rw [hw]; rfl)
 clear hnn hw
 go_enter Try.func106, Try.ntmps106
 go_wp2_with ((with_reducible refine gate_dst (N := 2) rfl ?_); refine box_event ?hg (N := 2) ?hd (cs := #[.slice A0 m.length c0, .int .i64 f.f0, .int .i64 f.f1, .slice (some ad) f.f2.length c1]) (t := 87) ?hr ?_; (case hd => rfl); (case hg => rfl); (case hr => first | (go_simp; done) | (go_simp; rfl)); intro g1 hg w1 hbox hb; have HB := Aside0.mk hb; have X1 := Aside0.mk hbox; clear hbox hb hg; have k0 := (blk_cell X1.out 0).trans rfl; have k1 := (blk_cell X1.out 1).trans rfl; have k2 := (blk_cell X1.out 2).trans rfl; have k3 := (blk_cell X1.out 3).trans rfl; have hx1 := pw_cell_below HB.out hx)
 all_goals (go_ret; exact ⟨ret_b HW.out.symm, HB.out⟩)
set_option maxHeartbeats 16000000 in
set_option maxRecDepth 100000 in
theorem land_l (m : List S27) (A0 : Option Addr) (c0 : Nat) (f : S27) (A1 : Option Addr) (c1 : Nat) (n : Int) (w : World) (hb : Kd.C k41 w A1 f.f2.length f.f2) :
  Calls Try.prog 108 #[.agg #[.slice A0 m.length c0, .int .i64 f.f0, .int .i64 f.f1, .slice A1 f.f2.length c1], .int .i64 n] w fun e w' => e = .returned (.bool (landR f.f2 n)) ∧ Below w.heap.size w w' := by
 have HL := Aside0.mk hb
 clear hb
 have hu24 := Try.underlying24
 have hu27 := Try.underlying27
 have hu87 := Try.underlying87
 by_cases hw : win n f.f2.length = true
 rotate_left
 ·have hw := Bool.eq_false_iff.2 hw
  have HW := Aside0.mk (show landR f.f2 n = false by unfold landR; rw [hw]; rfl)
  by_cases h0 : 0 ≤ n
  ·have g0 : decide (0 ≤ n) = true := decide_eq_true h0
   have g1 : decide (n < (f.f2.length : Int)) = false := decide_eq_false (by intro h; simp [win] at hw; have := hw h0; omega)
   clear hw h0
   go_enter Try.func108, Try.ntmps108
   go_wp2_with ((with_reducible refine gate_dst (N := 2) rfl ?_); refine box_event ?hg (N := 2) ?hd (cs := #[.slice A0 m.length c0, .int .i64 f.f0, .int .i64 f.f1, .slice A1 f.f2.length c1]) (t := 87) ?hr ?_; (case hd => rfl); (case hg => rfl); (case hr => first | (go_simp; done) | (go_simp; rfl)); intro g1 hg w1 hbox hb; have HB := Aside0.mk hb; have X1 := Aside0.mk hbox; clear hbox hb hg; have k0 := (blk_cell X1.out 0).trans rfl; have k1 := (blk_cell X1.out 1).trans rfl; have k2 := (blk_cell X1.out 2).trans rfl; have k3 := (blk_cell X1.out 3).trans rfl)
   go_ret
   exact ⟨ret_b HW.out.symm, HB.out⟩
  ·have g0 : decide (0 ≤ n) = false := decide_eq_false h0
   clear hw h0
   go_enter Try.func108, Try.ntmps108
   go_wp2_with ((with_reducible refine gate_dst (N := 2) rfl ?_); refine box_event ?hg (N := 2) ?hd (cs := #[.slice A0 m.length c0, .int .i64 f.f0, .int .i64 f.f1, .slice A1 f.f2.length c1]) (t := 87) ?hr ?_; (case hd => rfl); (case hg => rfl); (case hr => first | (go_simp; done) | (go_simp; rfl)); intro g1 hg w1 hbox hb; have HB := Aside0.mk hb; have X1 := Aside0.mk hbox; clear hbox hb hg; have k0 := (blk_cell X1.out 0).trans rfl; have k1 := (blk_cell X1.out 1).trans rfl; have k2 := (blk_cell X1.out 2).trans rfl; have k3 := (blk_cell X1.out 3).trans rfl)
   go_ret
   exact ⟨ret_b HW.out.symm, HB.out⟩
 have hnn := win_at hw
 have hxx := at_T41 HL.out n hnn.1 hnn.2
 obtain ⟨ad, _, _, _, _, _, _, e1, hx, _⟩ := hxx
 subst e1
 have p1 : (0 ≤ n) = True := eq_true hnn.1
 have p2 : (n < (f.f2.length : Int)) = True := eq_true hnn.2
 have HW := Aside0.mk (show landR f.f2 n = (rd_T41 f.f2 n).f0 by unfold landR; rw [hw]; rfl)
 clear hnn hw
 go_enter Try.func108, Try.ntmps108
 go_wp2_with ((with_reducible refine gate_dst (N := 2) rfl ?_); refine box_event ?hg (N := 2) ?hd (cs := #[.slice A0 m.length c0, .int .i64 f.f0, .int .i64 f.f1, .slice (some ad) f.f2.length c1]) (t := 87) ?hr ?_; (case hd => rfl); (case hg => rfl); (case hr => first | (go_simp; done) | (go_simp; rfl)); intro g1 hg w1 hbox hb; have HB := Aside0.mk hb; have X1 := Aside0.mk hbox; clear hbox hb hg; have k0 := (blk_cell X1.out 0).trans rfl; have k1 := (blk_cell X1.out 1).trans rfl; have k2 := (blk_cell X1.out 2).trans rfl; have k3 := (blk_cell X1.out 3).trans rfl; have hx1 := pw_cell_below HB.out hx)
 all_goals (go_ret; exact ⟨ret_b HW.out.symm, HB.out⟩)
set_option maxHeartbeats 16000000 in
set_option maxRecDepth 100000 in
theorem callp_c (m : List S27) (A0 : Option Addr) (c0 : Nat) (f : S27) (A1 : Option Addr) (c1 : Nat) (g : Nat) (n : Int) (w : World) (hg : w.heap[g]? = some (.cells #[.slice A0 m.length c0, .int .i64 f.f0, .int .i64 f.f1, .slice A1 f.f2.length c1] 87 (0, 0))) :
  Calls Try.prog 123 #[.int .i64 n, .pointer (some ⟨g, 0, none⟩)] w fun e w' => e = .returned (.bool (!(win n f.f1))) ∧ Below w.heap.size w w' := by
 have X1 := Aside0.mk hg
 clear hg
 have hu24 := Try.underlying24
 have hu27 := Try.underlying27
 have hu87 := Try.underlying87
 have k0 := (blk_cell X1.out 0).trans rfl
 have k1 := (blk_cell X1.out 1).trans rfl
 have k2 := (blk_cell X1.out 2).trans rfl
 have k3 := (blk_cell X1.out 3).trans rfl
 go_enter Try.func123, Try.ntmps123
 go_wp2_with (go_at_call 104; (with_reducible refine (place_c m A0 c0 f A1 c1 _ _).mono ?_); rintro e w' ⟨rfl, hb⟩; have HB := Aside0.mk hb; clear hb)
 go_ret
 exact ⟨rfl, HB.out⟩
theorem callp_p (m : List S27) (A0 : Option Addr) (c0 : Nat) (f : S27) (A1 : Option Addr) (c1 : Nat) (g : Nat) (l : List Int) (w : World) (hg : w.heap[g]? = some (.cells #[.slice A0 m.length c0, .int .i64 f.f0, .int .i64 f.f1, .slice A1 f.f2.length c1] 87 (0, 0))) : ∀ x ∈ l, ∀ W : World, Below w.heap.size w W →
  Calls Try.prog 123 (#[.int .i64 x] ++ #[.pointer (some ⟨g, 0, none⟩)]) W fun e w' => e = .returned (.bool ((fun x => !(win x f.f1)) x)) ∧ Below W.heap.size W w' := fun x _ W hW => callp_c m A0 c0 f A1 c1 g x W (blk_below hg hW)
theorem any_not {α : Type} (l : List α) (q : α → Bool) : (!(l.any fun x => !(q x))) = l.all q := by
 induction l with
 | nil => rfl
 | cons x l ih => rw [List.any_cons, List.all_cons, Bool.not_or, Bool.not_not, ih]
set_option maxHeartbeats 16000000 in
set_option maxRecDepth 100000 in
theorem call_l (m : List S27) (A0 : Option Addr) (c0 : Nat) (f : S27) (A1 : Option Addr) (c1 : Nat) (n : Int) (A2 : Option Addr) (c2 : Nat) (l : List Int) (w : World) (hm : Kd.C k27 w A0 m.length m) (hl : Kd.C (Kd.int .i64) w A2 l.length l) :
  Calls Try.prog 107 #[.agg #[.slice A0 m.length c0, .int .i64 f.f0, .int .i64 f.f1, .slice A1 f.f2.length c1], .int .i64 n, .slice A2 l.length c2] w fun e w' => e = .returned (.bool (argsR m f.f1 n l)) ∧ Below w.heap.size w w' := by
 have HM := Aside0.mk hm
 have HL := Aside0.mk hl
 clear hm hl
 have hu24 := Try.underlying24
 have hu27 := Try.underlying27
 have hu87 := Try.underlying87
 by_cases hw : win n m.length = true
 rotate_left
 ·have hw := Bool.eq_false_iff.2 hw
  have HW := Aside0.mk (show argsR m f.f1 n l = false by unfold argsR; rw [hw]; rfl)
  by_cases h0 : 0 ≤ n
  ·have g0 : decide (n < 0) = false := decide_eq_false (by omega)
   have g1 : decide ((m.length : Int) ≤ n) = true := decide_eq_true (by simp [win] at hw; have := hw h0; omega)
   clear hw h0
   go_enter Try.func107, Try.ntmps107
   go_wp2_with ((with_reducible refine gate_dst (N := 3) rfl ?_); refine box_event ?hg (N := 3) ?hd (cs := #[.slice A0 m.length c0, .int .i64 f.f0, .int .i64 f.f1, .slice A1 f.f2.length c1]) (t := 87) ?hr ?_; (case hd => rfl); (case hg => rfl); (case hr => first | (go_simp; done) | (go_simp; rfl)); intro g1 hg w1 hbox hb; have HB := Aside0.mk hb; have X1 := Aside0.mk hbox; clear hbox hb hg; have k0 := (blk_cell X1.out 0).trans rfl; have k1 := (blk_cell X1.out 1).trans rfl; have k2 := (blk_cell X1.out 2).trans rfl; have k3 := (blk_cell X1.out 3).trans rfl)
   go_ret
   exact ⟨ret_b HW.out.symm, HB.out⟩
  ·have g0 : decide (n < 0) = true := decide_eq_true (by omega)
   clear hw h0
   go_enter Try.func107, Try.ntmps107
   go_wp2_with ((with_reducible refine gate_dst (N := 3) rfl ?_); refine box_event ?hg (N := 3) ?hd (cs := #[.slice A0 m.length c0, .int .i64 f.f0, .int .i64 f.f1, .slice A1 f.f2.length c1]) (t := 87) ?hr ?_; (case hd => rfl); (case hg => rfl); (case hr => first | (go_simp; done) | (go_simp; rfl)); intro g1 hg w1 hbox hb; have HB := Aside0.mk hb; have X1 := Aside0.mk hbox; clear hbox hb hg; have k0 := (blk_cell X1.out 0).trans rfl; have k1 := (blk_cell X1.out 1).trans rfl; have k2 := (blk_cell X1.out 2).trans rfl; have k3 := (blk_cell X1.out 3).trans rfl)
   go_ret
   exact ⟨ret_b HW.out.symm, HB.out⟩
 have hnn := win_at hw
 obtain ⟨ad, _, _, e1, hx, _⟩ := at_T27 HM.out n hnn.1 hnn.2
 subst e1
 have p1 : (0 ≤ n) = True := eq_true hnn.1
 have p2 : (n < (m.length : Int)) = True := eq_true hnn.2
 have p3 : decide (n < 0) = false := decide_eq_false (by omega)
 have p4 : decide ((m.length : Int) ≤ n) = false := decide_eq_false (by omega)
 clear hnn
 cases hp : ((l.length : Int) == (rd_T27 m n).f0) with
 | false =>
  have hp1 : ((l.length : Int) != (rd_T27 m n).f0) = true := by rw [bne, hp]; rfl
  have HW := Aside0.mk (show argsR m f.f1 n l = false by unfold argsR; rw [decide_eq_false (beq_eq_false_iff_ne.1 hp), Bool.and_false]; rfl)
  go_enter Try.func107, Try.ntmps107
  go_wp2_with ((with_reducible refine gate_dst (N := 3) rfl ?_); refine box_event ?hg (N := 3) ?hd (cs := #[.slice (some ad) m.length c0, .int .i64 f.f0, .int .i64 f.f1, .slice A1 f.f2.length c1]) (t := 87) ?hr ?_; (case hd => rfl); (case hg => rfl); (case hr => first | (go_simp; done) | (go_simp; rfl)); intro g1 hg w1 hbox hb; have HB := Aside0.mk hb; have X1 := Aside0.mk hbox; clear hbox hb hg; have k0 := (blk_cell X1.out 0).trans rfl; have k1 := (blk_cell X1.out 1).trans rfl; have k2 := (blk_cell X1.out 2).trans rfl; have k3 := (blk_cell X1.out 3).trans rfl; have hx1 := pw_cell_below HB.out hx)
  go_ret
  exact ⟨ret_b HW.out.symm, HB.out⟩
 | true =>
  have hp1 : ((l.length : Int) != (rd_T27 m n).f0) = false := by rw [bne, hp]; rfl
  have HW := Aside0.mk (show argsR m f.f1 n l = (!(l.any fun x => !(win x f.f1))) by rw [any_not]; unfold argsR; rw [hw, decide_eq_true (beq_iff_eq.1 hp)]; rfl)
  go_enter Try.func107, Try.ntmps107
  go_wp2_with (first | ((with_reducible refine gate_dst (N := 3) rfl ?_); refine box_event ?hg (N := 3) ?hd (cs := #[.slice (some ad) m.length c0, .int .i64 f.f0, .int .i64 f.f1, .slice A1 f.f2.length c1]) (t := 87) ?hr ?_; (case hd => rfl); (case hg => rfl); (case hr => first | (go_simp; done) | (go_simp; rfl)); intro g1 hg w1 hbox hb; have HB := Aside0.mk hb; have X1 := Aside0.mk hbox; clear hbox hb hg; have k0 := (blk_cell X1.out 0).trans rfl; have k1 := (blk_cell X1.out 1).trans rfl; have k2 := (blk_cell X1.out 2).trans rfl; have k3 := (blk_cell X1.out 3).trans rfl; have hx1 := pw_cell_below HB.out hx) | (go_at_call 122; (with_reducible refine (con_int A2 c2 l 123 #[.pointer (some ⟨g1, 0, none⟩)] (fun x => !(win x f.f1)) _ (fun args w => enters_ Try.func123 (by kernel_rfl) rfl args w) (Kd.C_below HL.out HB.out) (callp_p m (some ad) c0 f A1 c1 g1 l _ X1.out)).mono ?_); rintro e w6 ⟨rfl, hb⟩; have n0_ := Aside0.mk (below_step HB.out hb); clear HB hb; have HB := n0_; clear n0_))
  go_ret
  exact ⟨ret_b HW.out.symm, HB.out⟩
theorem set_blk {w : World} {g : Nat} {t : TypeId} {cs cs' : Array Value} (i : Nat) (u : Value) (h : w.heap[g]? = some (.cells cs t (0, 0))) (e : cs.setIfInBounds i u = cs') : (w.setCell ⟨g, i, none⟩ u).heap[g]? = some (.cells cs' t (0, 0)) := by rw [← e]; exact blk_set h i u
theorem nil_C {w : World} : Kd.C (Kd.int .i64) w none ([] : List Int).length [] := ⟨rfl, by decide, fun h => by simp at h⟩
end Go.Proofs.Ytbfialebaoeicaa.X
