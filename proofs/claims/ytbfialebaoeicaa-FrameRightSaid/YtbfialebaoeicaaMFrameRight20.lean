/- Part 21 of the proof of the statement FrameRight: the words of the walks, the walks through the functions that it reaches, and the plain laws of what they compute. -/
import Derived.Test.YtbfialebaoeicaaMFrameRight19
import Derived.RegionTactic
import Derived.ChangeAlike
import Derived.Deep.QuietTactic
import Derived.BigQuiet
import Derived.StillTailTactics
namespace Go.Proofs.Ytbfialebaoeicaa.X
open Go.RowKit Go.Proofs.YtbfialebaoeicaaW.PrintWords Go.Proofs.YtbfialebaoeicaaW.PrintLast Go.Proofs.YtbfialebaoeicaaW.PrintMore
attribute [local go_sem] max2_int min2_int max_two min_two max_three min_three max_four min_four
set_option linter.all false
noncomputable section
mutual
def davitref05_New.j0 : Nat → Int → List Int → Bool → List (S27) → Option (Int × Int × Int × List Int × Int × Int)
 | 0, _, _, _, _ => none
 | k + 1, x1, x2, x29, x294000 => if x29 = true then (some (0, 0, 0, ([] : List Int), 0, 1)) else (davitref05_New.l0 k x1 x2 0 x294000 x1 0 0 ([] : List Int) 0)
def davitref05_New.l0 : Nat → Int → List Int → Int → List (S27) → Int → Int → Int → List Int → Int → Option (Int × Int × Int × List Int × Int × Int)
 | 0, _, _, _, _, _, _, _, _, _ => none
 | k + 1, x1, x2, x9, x294000, x297000, x297001, x297002, x297003, x297004 => if 0 ≤ x1 then (if x1 < (x294000.length : Int) then (if x9 < ((rd_T27 x294000 x1).f1) then (if x9 < (x2.length : Int) then (if 0 ≤ x9 then (if x297003.length < 70368744177664 then (davitref05_New.l0 k x1 x2 (wrap64 (x9 + 1)) x294000 x297000 x297001 x297002 (x297003 ++ [rd x2 x9]) x297004) else (none)) else (none)) else (if x297003.length < 70368744177664 then (davitref05_New.l0 k x1 x2 (wrap64 (x9 + 1)) x294000 x297000 x297001 x297002 (x297003 ++ [0]) x297004) else (none))) else (some (x297000, x297001, x297002, x297003, x297004, 0))) else (none)) else (none)
end
def davitref05_New.f (k : Nat) (l0_0 : List (S27)) (a1 : Int) (l2 : List Int) : Option (Int × Int × Int × List Int × Int × Int) := if a1 < 0 then (davitref05_New.j0 k a1 l2 true l0_0) else (if a1 ≥ (l0_0.length : Int) then (davitref05_New.j0 k a1 l2 true l0_0) else (if 0 ≤ a1 then (if a1 < (l0_0.length : Int) then (davitref05_New.j0 k a1 l2 ((l2.length : Int) != ((rd_T27 l0_0 a1).f0)) l0_0) else (none)) else (none)))
theorem davitref05_New.mono_l : ∀ k, (∀ y0 y1 y2 y3, LeO (davitref05_New.j0 k y0 y1 y2 y3) (davitref05_New.j0 (k + 1) y0 y1 y2 y3)) ∧ (∀ y0 y1 y2 y3 y4 y5 y6 y7 y8, LeO (davitref05_New.l0 k y0 y1 y2 y3 y4 y5 y6 y7 y8) (davitref05_New.l0 (k + 1) y0 y1 y2 y3 y4 y5 y6 y7 y8))
 | 0 => ⟨fun _ _ _ _ r h => by simp [davitref05_New.j0] at h, fun _ _ _ _ _ _ _ _ _ r h => by simp [davitref05_New.l0] at h⟩
 | k + 1 => by
  obtain ⟨ih0, ih1⟩ := davitref05_New.mono_l k
  refine ⟨?_, ?_⟩
  ·intro y0 y1 y2 y3
   unfold davitref05_New.j0
   repeat' first
   | (with_reducible exact ih0 _ _ _ _)
   | (with_reducible exact ih1 _ _ _ _ _ _ _ _ _)
   | (with_reducible exact LeO.refl _)
   | (with_reducible exact LeO.none _)
   | (with_reducible refine LeO.ite ?_ ?_)
   | (with_reducible refine LeO.bind ?_ (fun _ => ?_))
   | exact ih0 _ _ _ _
   | exact ih1 _ _ _ _ _ _ _ _ _
   | exact LeO.none _
   | refine LeO.ite ?_ ?_
   | refine LeO.bind ?_ (fun _ => ?_)
  ·intro y0 y1 y2 y3 y4 y5 y6 y7 y8
   unfold davitref05_New.l0
   repeat' first
   | (with_reducible exact ih0 _ _ _ _)
   | (with_reducible exact ih1 _ _ _ _ _ _ _ _ _)
   | (with_reducible exact LeO.refl _)
   | (with_reducible exact LeO.none _)
   | (with_reducible refine LeO.ite ?_ ?_)
   | (with_reducible refine LeO.bind ?_ (fun _ => ?_))
   | exact ih0 _ _ _ _
   | exact ih1 _ _ _ _ _ _ _ _ _
   | exact LeO.none _
   | refine LeO.ite ?_ ?_
   | refine LeO.bind ?_ (fun _ => ?_)
theorem davitref05_New.mono : ∀ a0 a1 a2 k, LeO (davitref05_New.f k a0 a1 a2) (davitref05_New.f (k + 1) a0 a1 a2) := by
 intro a0 a1 a2 k
 obtain ⟨ih0, ih1⟩ := davitref05_New.mono_l k
 unfold davitref05_New.f
 repeat' first
   | (with_reducible exact ih0 _ _ _ _)
   | (with_reducible exact ih1 _ _ _ _ _ _ _ _ _)
   | (with_reducible exact LeO.refl _)
   | (with_reducible exact LeO.none _)
   | (with_reducible refine LeO.ite ?_ ?_)
   | (with_reducible refine LeO.bind ?_ (fun _ => ?_))
   | exact ih0 _ _ _ _
   | exact ih1 _ _ _ _ _ _ _ _ _
   | exact LeO.none _
   | refine LeO.ite ?_ ?_
   | refine LeO.bind ?_ (fun _ => ?_)
def davitref05_New.T8 : Bool × List (List Nat × List Nat) := (true, [([], []), ([0], [0]), ([], []), ([], []), ([2, 3], [2, 3]), ([4], [4]), ([5], [5]), ([1, 6], [1, 6]), ([0, 1, 2, 3, 4, 5, 6, 7], []), ([8, 7, 7, 0, 1, 2, 3, 4, 5, 6, 7], [7, 8])])
def davitref05_New.B8 : List Nat := [0, 1, 0, 0, 12, 28, 60, 127, 255, 511]
theorem davitref05_New.tab8 : rtab .any (opsOf Try.f37 8) = davitref05_New.T8 := by kernel_rfl
theorem davitref05_New.bits8 : waitsOk davitref05_New.T8.2 davitref05_New.B8 = true := by kernel_rfl
set_option maxHeartbeats 8000000 in
set_option maxRecDepth 100000 in
theorem davitref05_New.calls (k : Nat) (A0_0 : Option Addr) (c0_0 : Nat) (l0_0 : List (S27)) (a1 : Int) (A2 : Option Addr) (c2 : Nat) (l2 : List Int) (r1 : Int) (r2 : Int) (r3 : Int) (r4 : List Int) (r5 : Int) (r6 : Int) (w : World) (hr0_0 : Kd.C k27 w A0_0 l0_0.length l0_0) (hc0_0 : l0_0.length ≤ c0_0) (hr2 : Kd.C (Kd.int .u16) w A2 l2.length l2) (hc2 : l2.length ≤ c2) (h : davitref05_New.f k l0_0 a1 l2 = some (r1, r2, r3, r4, r5, r6)) :
  Calls Try.prog 37 #[.agg #[.slice A0_0 l0_0.length c0_0], .int .i64 a1, .slice A2 l2.length c2] w fun e w' => ∃ v3_ : Value, e = .returned (.tuple #[.agg #[.int .i64 r1, .int .i64 r2, .int .i64 r3, v3_, .int .u16 r5], .int .i64 r6]) ∧ Kd.R (Kd.int .u16) 44 w' w.heap.size (fun _ => True) v3_ r4 ∧ Below w.heap.size w w' := by
 have hu24 := Try.underlying24
 have hu55 := Try.underlying55
 have HR0_0 := Aside0.mk hr0_0
 have HC0_0 := Aside0.mk hc0_0
 clear hr0_0 hc0_0
 have HR2 := Aside0.mk hr2
 have HC2 := Aside0.mk hc2
 clear hr2 hc2
 have HB := Aside0.mk (Below.refl w.heap.size w)
 have H : (if a1 < 0 then (davitref05_New.j0 k a1 l2 true l0_0) else (if a1 ≥ (l0_0.length : Int) then (davitref05_New.j0 k a1 l2 true l0_0) else (if 0 ≤ a1 then (if a1 < (l0_0.length : Int) then (davitref05_New.j0 k a1 l2 ((l2.length : Int) != ((rd_T27 l0_0 a1).f0)) l0_0) else (none)) else (none)))) = some (r1, r2, r3, r4, r5, r6) := h
 clear h
 have HC4 := Aside0.mk H
 clear H
 go_enter Try.func37, Try.ntmps37
 go_upto_region 1 with (first | ((with_reducible refine gate_dst (N := 3) rfl ?_); (try (refine gate_guard (by rfl) ?_; dsimp only)); refine box_event ?hg (N := 3) ?hd (cs := #[.slice A0_0 l0_0.length c0_0]) (t := 24) ?hr ?_; (case hd => rfl); (case hg => rfl); (case hr => first | (go_simp; done) | (go_simp; rfl)); intro gb293 hg w5 hbox hb; have n0_ := Aside0.mk (below_step (by repeat (first | (with_reducible first | exact HB.out | apply below_alloc | apply pw_below_drewN | apply below_drew1) | exact HB.out)) hb); have n1_ := Aside0.mk (hbox); have n2_ := Aside0.mk ((by rw [hg]; exact (below_size (by repeat (first | (with_reducible first | exact HB.out | apply below_alloc | apply pw_below_drewN | apply below_drew1) | exact HB.out))) : w.heap.size ≤ gb293)); have n3_ := Aside0.mk ((by rw [hg]; exact (below_size (by repeat (first | (with_reducible first | exact HB.out | apply below_alloc | apply pw_below_drewN | apply below_drew1) | exact HB.out))) : w.heap.size ≤ gb293)); clear HB; have HB := n0_; have BK293 := n1_; have GW293 := n2_; have GE293 := n3_; clear n0_ n1_ n2_ n3_; clear hb hbox hg) | ((with_reducible refine gate_dst (N := 6) rfl ?_); (try (refine gate_guard (by rfl) ?_; dsimp only)); refine box_event ?hg (N := 6) ?hd (cs := #[.int .i64 0, .int .i64 0, .int .i64 0, .slice none 0 0, .int .u16 0]) (t := 55) ?hr ?_; (case hd => rfl); (case hg => rfl); (case hr => first | (go_simp; done) | (go_simp; rfl)); intro gb294 hg w6 hbox hb; have n0_ := Aside0.mk (blk_below (g := gb293) (o := .cells #[.slice A0_0 l0_0.length c0_0] 24 (0, 0)) (by (with_reducible repeat (first | refine blk_drewN ?_ _ | refine blk_drew ?_ | refine blk_alloc ?_ _)); exact BK293.out) hb); have n1_ := Aside0.mk (below_step (by repeat (first | (with_reducible first | exact HB.out | apply below_alloc | apply pw_below_drewN | apply below_drew1 | refine below_set ?_ GE293.out) | exact HB.out)) hb); have n2_ := Aside0.mk (hbox); have n3_ := Aside0.mk ((by rw [hg]; exact (below_size (by repeat (first | (with_reducible first | exact HB.out | apply below_alloc | apply pw_below_drewN | apply below_drew1 | refine below_set ?_ GE293.out) | exact HB.out))) : w.heap.size ≤ gb294)); have n4_ := Aside0.mk ((by rw [hg]; exact (below_size (by repeat (first | (with_reducible first | exact HB.out | apply below_alloc | apply pw_below_drewN | apply below_drew1 | refine below_set ?_ GE293.out) | exact HB.out))) : w.heap.size ≤ gb294)); have n5_ := Aside0.mk ((by rw [hg]; exact Nat.ne_of_lt (blk_lt (g := gb293) (o := .cells #[.slice A0_0 l0_0.length c0_0] 24 (0, 0)) (by (with_reducible repeat (first | refine blk_drewN ?_ _ | refine blk_drew ?_ | refine blk_alloc ?_ _)); exact BK293.out)) : gb293 ≠ gb294)); have n6_ := Aside0.mk ((by rw [hg]; exact Nat.ne_of_gt (blk_lt (g := gb293) (o := .cells #[.slice A0_0 l0_0.length c0_0] 24 (0, 0)) (by (with_reducible repeat (first | refine blk_drewN ?_ _ | refine blk_drew ?_ | refine blk_alloc ?_ _)); exact BK293.out)) : gb294 ≠ gb293)); clear BK293; clear HB; have BK293 := n0_; have HB := n1_; have BK294 := n2_; have GW294 := n3_; have GE294 := n4_; have NB293_294 := n5_; have NB294_293 := n6_; clear n0_ n1_ n2_ n3_ n4_ n5_ n6_; clear hb hbox hg))
 (try simp only [Act.put, List.setIfInBounds_toArray, List.set_cons_zero, List.set_cons_succ])
 go_cut [29] (fun v29 wc => ∃ (kq : Nat) (x29_3 : Bool), v29 = .bool x29_3 ∧ Aside0 (davitref05_New.j0 kq a1 l2 x29_3 l0_0 = some (r1, r2, r3, r4, r5, r6)) ∧ Aside0 (kq ≤ k) ∧ Aside0 (wc.heap[gb293]? = some (.cells #[(.slice A0_0 l0_0.length c0_0)] 24 (0, 0))) ∧ Aside0 (wc.heap[gb294]? = some (.cells #[.int .i64 0, .int .i64 0, .int .i64 0, (.slice none 0 0), .int .u16 0] 55 (0, 0))) ∧ Aside0 (Below w.heap.size w wc))
 case first =>
  have H := HC4.out
  clear HC4
  by_cases c7 : a1 < 0
  ·rw [if_pos c7] at H
   have c7b0 : decide (a1 < 0) = true := decide_eq_true c7
   clear c7
   (first | rw [c7b0] | (simp only [i64_w, i32_w]; rw [c7b0]) | skip)
   have H' := Aside0.mk H
   clear H
   go_wp2
   go_meet
   case rel => exact ⟨_, (true), (by first | rfl | (simp; done) | (simp [*]; done)), H', ⟨by first | omega | exact Nat.le_refl _⟩, ⟨by (with_reducible repeat (first | refine blk_drewN ?_ _ | refine blk_drew ?_ | refine blk_alloc ?_ _)); exact BK293.out⟩, ⟨by (with_reducible repeat (first | refine blk_drewN ?_ _ | refine blk_drew ?_ | refine blk_alloc ?_ _)); exact BK294.out⟩, ⟨by repeat (first | (with_reducible first | exact HB.out | apply below_alloc | apply pw_below_drewN | apply below_drew1 | refine below_set ?_ GE293.out | refine below_set ?_ GE294.out) | exact HB.out)⟩⟩
  ·rw [if_neg c7] at H
   have c7b0 : decide (a1 < 0) = false := decide_eq_false c7
   clear c7
   (first | rw [c7b0] | (simp only [i64_w, i32_w]; rw [c7b0]) | skip)
   by_cases c8 : a1 ≥ (l0_0.length : Int)
   ·rw [if_pos c8] at H
    have c8b0 : decide ((l0_0.length : Int) ≤ a1) = true := decide_eq_true c8
    clear c8
    have H' := Aside0.mk H
    clear H
    have hnb9 := NB293_294.out
    have hnc9 := NB294_293.out
    have hcz10_0 : w6.cell? ⟨gb293, 0, none⟩ = some (.slice A0_0 l0_0.length c0_0) := (blk_cell BK293.out 0).trans rfl
    have hfz10_0 := blk_frozen BK293.out 0
    go_wp2
    go_meet
    case rel => exact ⟨_, (true), (by first | rfl | (simp; done) | (simp [*]; done)), H', ⟨by first | omega | exact Nat.le_refl _⟩, ⟨by (with_reducible repeat (first | refine blk_drewN ?_ _ | refine blk_drew ?_ | refine blk_alloc ?_ _)); exact BK293.out⟩, ⟨by (with_reducible repeat (first | refine blk_drewN ?_ _ | refine blk_drew ?_ | refine blk_alloc ?_ _)); exact BK294.out⟩, ⟨by repeat (first | (with_reducible first | exact HB.out | apply below_alloc | apply pw_below_drewN | apply below_drew1 | refine below_set ?_ GE293.out | refine below_set ?_ GE294.out) | exact HB.out)⟩⟩
   ·rw [if_neg c8] at H
    have c8b0 : decide ((l0_0.length : Int) ≤ a1) = false := decide_eq_false c8
    clear c8
    by_cases c11 : 0 ≤ a1
    ·rw [if_pos c11] at H
     have c11b0 : decide (0 ≤ a1) = true := decide_eq_true c11
     clear c11
     by_cases c12 : a1 < (l0_0.length : Int)
     ·rw [if_pos c12] at H
      have c12b0 : decide (a1 < (l0_0.length : Int)) = true := decide_eq_true c12
      clear c12
      have H' := Aside0.mk H
      clear H
      have hnb13 := NB293_294.out
      have hnc13 := NB294_293.out
      have hcz14_0 : w6.cell? ⟨gb293, 0, none⟩ = some (.slice A0_0 l0_0.length c0_0) := (blk_cell BK293.out 0).trans rfl
      have hfz14_0 := blk_frozen BK293.out 0
      have p295 : 0 ≤ (a1 : Int) := of_decide_eq_true (by first | (with_reducible assumption) | assumption)
      have q295 : a1 < (l0_0.length : Int) := of_decide_eq_true (by first | (with_reducible assumption) | assumption)
      obtain ⟨ad295, A295_2, c295_2, e295, hx295_0, hx295_1, hx295_2, hl295_2, hi295_2⟩ := at_T27 HR0_0.out a1 p295 q295
      cases e295
      replace hx295_0 := (HB.out.cell (World.block_lt_of_cell? w _ hx295_0)).trans hx295_0
      replace hx295_1 := (HB.out.cell (World.block_lt_of_cell? w _ hx295_1)).trans hx295_1
      replace hx295_2 := (HB.out.cell (World.block_lt_of_cell? w _ hx295_2)).trans hx295_2
      have HR295_2 := Aside0.mk hi295_2
      have HC295_2 := Aside0.mk hl295_2
      clear hi295_2 hl295_2
      replace p295 := eq_true p295
      replace q295 := eq_true q295
      go_wp2
      go_meet
      case rel => exact ⟨_, (((l2.length : Int) != ((rd_T27 l0_0 a1).f0))), (by first | rfl | (simp; done) | (simp [*]; done)), H', ⟨by first | omega | exact Nat.le_refl _⟩, ⟨by (with_reducible repeat (first | refine blk_drewN ?_ _ | refine blk_drew ?_ | refine blk_alloc ?_ _)); exact BK293.out⟩, ⟨by (with_reducible repeat (first | refine blk_drewN ?_ _ | refine blk_drew ?_ | refine blk_alloc ?_ _)); exact BK294.out⟩, ⟨by repeat (first | (with_reducible first | exact HB.out | apply below_alloc | apply pw_below_drewN | apply below_drew1 | refine below_set ?_ GE293.out | refine below_set ?_ GE294.out) | exact HB.out)⟩⟩
     ·rw [if_neg c12] at H
      exact absurd H (by simp)
    ·rw [if_neg c11] at H
     exact absurd H (by simp)
 case rest =>
  clear HC4
  try clear c1
  try clear c2
  try clear p2
  try clear q2
  try clear hx2
  try clear c3
  try clear c7
  try clear c7b0
  try clear c8
  try clear c8b0
  try clear c9
  try clear c11
  try clear c11b0
  try clear c12
  try clear c12b0
  try clear c13
  try clear hcz10_0
  try clear hcz14_0
  try clear hfz10_0
  try clear hfz14_0
  try clear hx295_0
  try clear hx295_1
  try clear hx295_2
  try clear p295
  try clear q295
  obtain ⟨kq, x29_3, rfl, HA, HJ3, BK293, BK294, HB⟩ := hcut
  cases kq with
  | zero => exact absurd HA.out (by simp [davitref05_New.j0])
  | succ kj3 =>
   have H := HA.out
   clear HA
   simp only [davitref05_New.j0] at H
   by_cases c15 : x29_3 = true
   ·subst c15
    have H1 : (some (0, 0, 0, ([] : List Int), 0, 1)) = some (r1, r2, r3, r4, r5, r6) := by rw [if_pos rfl] at H; exact H
    clear H
    have H := H1
    clear H1
    simp only [Option.some.injEq, Prod.mk.injEq] at H
    obtain ⟨rfl, rfl, rfl, rfl, rfl, rfl⟩ := H
    have hnb16 := NB294_293.out
    have hnc16 := NB293_294.out
    have hcz17_0 : wc.cell? ⟨gb294, 0, none⟩ = some (.int .i64 0) := (blk_cell BK294.out 0).trans rfl
    have hcz17_1 : wc.cell? ⟨gb294, 1, none⟩ = some (.int .i64 0) := (blk_cell BK294.out 1).trans rfl
    have hcz17_2 : wc.cell? ⟨gb294, 2, none⟩ = some (.int .i64 0) := (blk_cell BK294.out 2).trans rfl
    have hcz17_3 : wc.cell? ⟨gb294, 3, none⟩ = some (.slice none 0 0) := (blk_cell BK294.out 3).trans rfl
    have hcz17_4 : wc.cell? ⟨gb294, 4, none⟩ = some (.int .u16 0) := (blk_cell BK294.out 4).trans rfl
    have hfz17_0 := blk_frozen BK294.out 0
    have hfz17_1 := blk_frozen BK294.out 1
    have hfz17_2 := blk_frozen BK294.out 2
    have hfz17_3 := blk_frozen BK294.out 3
    have hfz17_4 := blk_frozen BK294.out 4
    go_wp2
    refine bodyPost_ret (results_ct rfl _ _ gb294 55 #[.int .i64 0, .int .i64 0, .int .i64 0, .slice none 0 0, .int .u16 0] (0, 0) _ rfl (by (with_reducible repeat (first | refine blk_drewN ?_ _ | refine blk_drew ?_ | refine blk_alloc ?_ _)); refine blk_put (cs := #[.int .i64 0, .int .i64 0, .int .i64 0, .slice none 0 0, .int .u16 0]) ?_ 4 _ rfl; (with_reducible repeat (first | refine blk_drewN ?_ _ | refine blk_drew ?_ | refine blk_alloc ?_ _)); refine blk_put (cs := #[.int .i64 0, .int .i64 0, .int .i64 0, .slice none 0 0, .int .u16 0]) ?_ 3 _ rfl; (with_reducible repeat (first | refine blk_drewN ?_ _ | refine blk_drew ?_ | refine blk_alloc ?_ _)); refine blk_put (cs := #[.int .i64 0, .int .i64 0, .int .i64 0, .slice none 0 0, .int .u16 0]) ?_ 2 _ rfl; (with_reducible repeat (first | refine blk_drewN ?_ _ | refine blk_drew ?_ | refine blk_alloc ?_ _)); refine blk_put (cs := #[.int .i64 0, .int .i64 0, .int .i64 0, .slice none 0 0, .int .u16 0]) ?_ 1 _ rfl; (with_reducible repeat (first | refine blk_drewN ?_ _ | refine blk_drew ?_ | refine blk_alloc ?_ _)); refine blk_put (cs := #[.int .i64 0, .int .i64 0, .int .i64 0, .slice none 0 0, .int .u16 0]) ?_ 0 _ rfl; (with_reducible repeat (first | refine blk_drewN ?_ _ | refine blk_drew ?_ | refine blk_alloc ?_ _)); exact BK294.out) Try.underlying55 rfl (by kernel_rfl)) rfl ?_
    exact ⟨_, by first | rfl | (simp [errW_none, errW_some] <;> rfl) | (simp [*, errW_none, errW_some] <;> rfl), by first | exact Kd.R_nil _ _ _ _ _ | exact Kd.N_nil _ _ _ _ _ | exact Kd.V_nil _ _ _ _ _ | exact Kd.Q_nil _ _ _ _ _ | exact Kd.S_nil _ _ _ _ _, by repeat (first | (with_reducible first | exact HB.out | apply below_alloc | apply pw_below_drewN | apply below_drew1 | refine below_set ?_ GE293.out | refine below_set ?_ GE294.out) | exact HB.out)⟩
   ·replace c15 := Bool.eq_false_iff.mpr c15
    subst c15
    have H1 : (davitref05_New.l0 kj3 a1 l2 0 l0_0 a1 0 0 ([] : List Int) 0) = some (r1, r2, r3, r4, r5, r6) := by rw [if_neg (show ¬ (false = true) by decide)] at H; exact H
    clear H
    have H := H1
    clear H1
    have H' := Aside0.mk H
    clear H
    go_wp2_with (first | ((with_reducible refine gate_dst (N := 8) rfl ?_); (try (refine gate_guard (by rfl) ?_; dsimp only)); refine box_event ?hg (N := 8) ?hd (cs := #[.int .i64 0, .int .i64 0, .int .i64 0, .slice none 0 0, .int .u16 0]) (t := 55) ?hr ?_; (case hd => rfl); (case hg => rfl); (case hr => first | (go_simp; done) | (go_simp; rfl)); intro gb296 hg w18 hbox hb; have n0_ := Aside0.mk (blk_below (g := gb293) (o := .cells #[.slice A0_0 l0_0.length c0_0] 24 (0, 0)) (by (with_reducible repeat (first | refine blk_drewN ?_ _ | refine blk_drew ?_ | refine blk_alloc ?_ _)); exact BK293.out) hb); have n1_ := Aside0.mk (blk_below (g := gb294) (o := .cells #[.int .i64 0, .int .i64 0, .int .i64 0, .slice none 0 0, .int .u16 0] 55 (0, 0)) (by (with_reducible repeat (first | refine blk_drewN ?_ _ | refine blk_drew ?_ | refine blk_alloc ?_ _)); exact BK294.out) hb); have n2_ := Aside0.mk (below_step (by repeat (first | (with_reducible first | exact HB.out | apply below_alloc | apply pw_below_drewN | apply below_drew1 | refine below_set ?_ GE293.out | refine below_set ?_ GE294.out) | exact HB.out)) hb); have n3_ := Aside0.mk (hbox); have n4_ := Aside0.mk ((by rw [hg]; exact (below_size (by repeat (first | (with_reducible first | exact HB.out | apply below_alloc | apply pw_below_drewN | apply below_drew1 | refine below_set ?_ GE293.out | refine below_set ?_ GE294.out) | exact HB.out))) : w.heap.size ≤ gb296)); have n5_ := Aside0.mk ((by rw [hg]; exact (below_size (by repeat (first | (with_reducible first | exact HB.out | apply below_alloc | apply pw_below_drewN | apply below_drew1 | refine below_set ?_ GE293.out | refine below_set ?_ GE294.out) | exact HB.out))) : w.heap.size ≤ gb296)); have n6_ := Aside0.mk ((by rw [hg]; exact Nat.ne_of_lt (blk_lt (g := gb293) (o := .cells #[.slice A0_0 l0_0.length c0_0] 24 (0, 0)) (by (with_reducible repeat (first | refine blk_drewN ?_ _ | refine blk_drew ?_ | refine blk_alloc ?_ _)); exact BK293.out)) : gb293 ≠ gb296)); have n7_ := Aside0.mk ((by rw [hg]; exact Nat.ne_of_gt (blk_lt (g := gb293) (o := .cells #[.slice A0_0 l0_0.length c0_0] 24 (0, 0)) (by (with_reducible repeat (first | refine blk_drewN ?_ _ | refine blk_drew ?_ | refine blk_alloc ?_ _)); exact BK293.out)) : gb296 ≠ gb293)); have n8_ := Aside0.mk ((by rw [hg]; exact Nat.ne_of_lt (blk_lt (g := gb294) (o := .cells #[.int .i64 0, .int .i64 0, .int .i64 0, .slice none 0 0, .int .u16 0] 55 (0, 0)) (by (with_reducible repeat (first | refine blk_drewN ?_ _ | refine blk_drew ?_ | refine blk_alloc ?_ _)); exact BK294.out)) : gb294 ≠ gb296)); have n9_ := Aside0.mk ((by rw [hg]; exact Nat.ne_of_gt (blk_lt (g := gb294) (o := .cells #[.int .i64 0, .int .i64 0, .int .i64 0, .slice none 0 0, .int .u16 0] 55 (0, 0)) (by (with_reducible repeat (first | refine blk_drewN ?_ _ | refine blk_drew ?_ | refine blk_alloc ?_ _)); exact BK294.out)) : gb296 ≠ gb294)); clear BK293; clear BK294; clear HB; have BK293 := n0_; have BK294 := n1_; have HB := n2_; have BK296 := n3_; have GW296 := n4_; have GE296 := n5_; have NB293_296 := n6_; have NB296_293 := n7_; have NB294_296 := n8_; have NB296_294 := n9_; clear n0_ n1_ n2_ n3_ n4_ n5_ n6_ n7_ n8_ n9_; clear hb hbox hg; have hnb19 := NB296_293.out; have hnc19 := NB293_296.out; have hnb20 := NB296_294.out; have hnc20 := NB294_296.out; have hcz21_0 : w18.cell? ⟨gb296, 0, none⟩ = some (.int .i64 0) := (blk_cell BK296.out 0).trans rfl; have hcz21_1 : w18.cell? ⟨gb296, 1, none⟩ = some (.int .i64 0) := (blk_cell BK296.out 1).trans rfl; have hcz21_2 : w18.cell? ⟨gb296, 2, none⟩ = some (.int .i64 0) := (blk_cell BK296.out 2).trans rfl; have hcz21_3 : w18.cell? ⟨gb296, 3, none⟩ = some (.slice none 0 0) := (blk_cell BK296.out 3).trans rfl; have hcz21_4 : w18.cell? ⟨gb296, 4, none⟩ = some (.int .u16 0) := (blk_cell BK296.out 4).trans rfl; have hfz21_0 := blk_frozen BK296.out 0; have hfz21_1 := blk_frozen BK296.out 1; have hfz21_2 := blk_frozen BK296.out 2; have hfz21_3 := blk_frozen BK296.out 3; have hfz21_4 := blk_frozen BK296.out 4))
    go_loopg [9] kj3 (fun kq v9 w' => ∃ (x9_2 : Int) (x297003_2 : List Int) (u297003 : Value), v9 = .int .i64 x9_2 ∧ Aside0 (davitref05_New.l0 kq a1 l2 x9_2 l0_0 a1 0 0 x297003_2 0 = some (r1, r2, r3, r4, r5, r6)) ∧ Aside0 (kq ≤ kj3) ∧ Aside0 (Kd.R (Kd.int .u16) 44 w' w.heap.size (fun _ => True) u297003 x297003_2) ∧ Aside0 (w'.heap[gb293]? = some (.cells #[(.slice A0_0 l0_0.length c0_0)] 24 (0, 0))) ∧ Aside0 (w'.heap[gb294]? = some (.cells #[.int .i64 0, .int .i64 0, .int .i64 0, (.slice none 0 0), .int .u16 0] 55 (0, 0))) ∧ Aside0 (w'.heap[gb296]? = some (.cells #[.int .i64 a1, .int .i64 0, .int .i64 0, u297003, .int .u16 0] 55 (0, 0))) ∧ Aside0 (Below w.heap.size w w'))
    case atStart => exact ⟨(0), (([] : List Int)), (.slice none 0 0), (by first | rfl | (simp; done) | (simp [*]; done)), H', ⟨Nat.le_refl _⟩, ⟨by first | exact Kd.R_nil _ _ _ _ _ | exact Kd.N_nil _ _ _ _ _ | exact Kd.V_nil _ _ _ _ _ | exact Kd.Q_nil _ _ _ _ _ | exact Kd.S_nil _ _ _ _ _⟩, ⟨by (with_reducible repeat (first | refine blk_drewN ?_ _ | refine blk_drew ?_ | refine blk_alloc ?_ _)); refine blk_far ?_ NB293_296.out _; (with_reducible repeat (first | refine blk_drewN ?_ _ | refine blk_drew ?_ | refine blk_alloc ?_ _)); refine blk_far ?_ NB293_296.out _; (with_reducible repeat (first | refine blk_drewN ?_ _ | refine blk_drew ?_ | refine blk_alloc ?_ _)); refine blk_far ?_ NB293_296.out _; (with_reducible repeat (first | refine blk_drewN ?_ _ | refine blk_drew ?_ | refine blk_alloc ?_ _)); refine blk_far ?_ NB293_296.out _; (with_reducible repeat (first | refine blk_drewN ?_ _ | refine blk_drew ?_ | refine blk_alloc ?_ _)); refine blk_far ?_ NB293_296.out _; (with_reducible repeat (first | refine blk_drewN ?_ _ | refine blk_drew ?_ | refine blk_alloc ?_ _)); exact BK293.out⟩, ⟨by (with_reducible repeat (first | refine blk_drewN ?_ _ | refine blk_drew ?_ | refine blk_alloc ?_ _)); refine blk_far ?_ NB294_296.out _; (with_reducible repeat (first | refine blk_drewN ?_ _ | refine blk_drew ?_ | refine blk_alloc ?_ _)); refine blk_far ?_ NB294_296.out _; (with_reducible repeat (first | refine blk_drewN ?_ _ | refine blk_drew ?_ | refine blk_alloc ?_ _)); refine blk_far ?_ NB294_296.out _; (with_reducible repeat (first | refine blk_drewN ?_ _ | refine blk_drew ?_ | refine blk_alloc ?_ _)); refine blk_far ?_ NB294_296.out _; (with_reducible repeat (first | refine blk_drewN ?_ _ | refine blk_drew ?_ | refine blk_alloc ?_ _)); refine blk_far ?_ NB294_296.out _; (with_reducible repeat (first | refine blk_drewN ?_ _ | refine blk_drew ?_ | refine blk_alloc ?_ _)); exact BK294.out⟩, ⟨by (with_reducible repeat (first | refine blk_drewN ?_ _ | refine blk_drew ?_ | refine blk_alloc ?_ _)); refine blk_put (cs := #[.int .i64 a1, .int .i64 0, .int .i64 0, .slice none 0 0, .int .u16 0]) ?_ 4 _ rfl; (with_reducible repeat (first | refine blk_drewN ?_ _ | refine blk_drew ?_ | refine blk_alloc ?_ _)); refine blk_put (cs := #[.int .i64 a1, .int .i64 0, .int .i64 0, .slice none 0 0, .int .u16 0]) ?_ 3 _ rfl; (with_reducible repeat (first | refine blk_drewN ?_ _ | refine blk_drew ?_ | refine blk_alloc ?_ _)); refine blk_put (cs := #[.int .i64 a1, .int .i64 0, .int .i64 0, .slice none 0 0, .int .u16 0]) ?_ 2 _ rfl; (with_reducible repeat (first | refine blk_drewN ?_ _ | refine blk_drew ?_ | refine blk_alloc ?_ _)); refine blk_put (cs := #[.int .i64 a1, .int .i64 0, .int .i64 0, .slice none 0 0, .int .u16 0]) ?_ 1 _ rfl; (with_reducible repeat (first | refine blk_drewN ?_ _ | refine blk_drew ?_ | refine blk_alloc ?_ _)); refine blk_put (cs := #[.int .i64 0, .int .i64 0, .int .i64 0, .slice none 0 0, .int .u16 0]) ?_ 0 _ rfl; (with_reducible repeat (first | refine blk_drewN ?_ _ | refine blk_drew ?_ | refine blk_alloc ?_ _)); exact BK296.out⟩, ⟨by repeat (first | (with_reducible first | exact HB.out | apply below_alloc | apply pw_below_drewN | apply below_drew1 | refine below_set ?_ GE293.out | refine below_set ?_ GE294.out | refine below_set ?_ GE296.out) | exact HB.out)⟩⟩
    case round =>
     clear H'
     try clear c1
     try clear c2
     try clear p2
     try clear q2
     try clear hx2
     try clear c3
     try clear c7
     try clear c7b0
     try clear c8
     try clear c8b0
     try clear c9
     try clear c11
     try clear c11b0
     try clear c12
     try clear c12b0
     try clear c13
     try clear c15
     try clear c16
     try clear c19
     try clear c20
     try clear hcz10_0
     try clear hcz14_0
     try clear hcz17_0
     try clear hcz17_1
     try clear hcz17_2
     try clear hcz17_3
     try clear hcz17_4
     try clear hcz21_0
     try clear hcz21_1
     try clear hcz21_2
     try clear hcz21_3
     try clear hcz21_4
     try clear hfz10_0
     try clear hfz14_0
     try clear hfz17_0
     try clear hfz17_1
     try clear hfz17_2
     try clear hfz17_3
     try clear hfz17_4
     try clear hfz21_0
     try clear hfz21_1
     try clear hfz21_2
     try clear hfz21_3
     try clear hfz21_4
     try clear hx295_0
     try clear hx295_1
     try clear hx295_2
     try clear p2
     try clear p295
     try clear q2
     try clear q295
     obtain ⟨x9_2, x297003_2, u297003, rfl, HA, HK2, HO_297003, BK293, BK294, BK296, HB⟩ := hrel
     cases gk with
     | zero => exact absurd HA.out (by simp [davitref05_New.l0])
     | succ k2 =>
      have H := HA.out
      clear HA
      simp only [davitref05_New.l0] at H
      by_cases c22 : 0 ≤ a1
      ·rw [if_pos c22] at H
       have c22b0 : decide (0 ≤ a1) = true := decide_eq_true c22
       clear c22
       by_cases c23 : a1 < (l0_0.length : Int)
       ·rw [if_pos c23] at H
        have c23b0 : decide (a1 < (l0_0.length : Int)) = true := decide_eq_true c23
        clear c23
        by_cases c24 : x9_2 < ((rd_T27 l0_0 a1).f1)
        ·rw [if_pos c24] at H
         have c24b0 : decide (x9_2 < ((rd_T27 l0_0 a1).f1)) = true := decide_eq_true c24
         clear c24
         by_cases c25 : x9_2 < (l2.length : Int)
         ·rw [if_pos c25] at H
          have c25b0 : decide (x9_2 < (l2.length : Int)) = true := decide_eq_true c25
          clear c25
          by_cases c26 : 0 ≤ x9_2
          ·rw [if_pos c26] at H
           have c26b0 : decide (0 ≤ x9_2) = true := decide_eq_true c26
           clear c26
           by_cases c27 : x297003_2.length < 70368744177664
           ·rw [if_pos c27] at H
            have LMc27 := Aside0.mk c27
            clear c27
            obtain ⟨y299, hy299⟩ : ∃ y_ : List Int, y_ = (x297003_2 ++ [rd l2 x9_2]) := ⟨_, rfl⟩
            replace H : (davitref05_New.l0 k2 a1 l2 (wrap64 (x9_2 + 1)) l0_0 a1 0 0 y299 0) = some (r1, r2, r3, r4, r5, r6) := by first | (rw [hy299]; with_reducible exact H) | (have H2_ := (Option.bind_some _ _).symm.trans H; rw [hy299]; with_reducible exact H2_) | (have H2_ := (Option.bind_some _ _).symm.trans H; with_reducible exact H2_) | with_reducible exact H | (rw [hy299]; exact H) | exact H
            have Ny299 := Aside0.mk hy299
            clear hy299
            have H' := Aside0.mk H
            clear H
            have hnb28 := NB293_294.out
            have hnc28 := NB294_293.out
            have hnb29 := NB293_296.out
            have hnc29 := NB296_293.out
            have hcz30_0 : wr.cell? ⟨gb293, 0, none⟩ = some (.slice A0_0 l0_0.length c0_0) := (blk_cell BK293.out 0).trans rfl
            have hfz30_0 := blk_frozen BK293.out 0
            have p297 : 0 ≤ (a1 : Int) := of_decide_eq_true (by first | (with_reducible assumption) | assumption)
            have q297 : a1 < (l0_0.length : Int) := of_decide_eq_true (by first | (with_reducible assumption) | assumption)
            obtain ⟨ad297, A297_2, c297_2, e297, hx297_0, hx297_1, hx297_2, hl297_2, hi297_2⟩ := at_T27 HR0_0.out a1 p297 q297
            cases e297
            replace hx297_0 := (HB.out.cell (World.block_lt_of_cell? w _ hx297_0)).trans hx297_0
            replace hx297_1 := (HB.out.cell (World.block_lt_of_cell? w _ hx297_1)).trans hx297_1
            replace hx297_2 := (HB.out.cell (World.block_lt_of_cell? w _ hx297_2)).trans hx297_2
            have HR297_2 := Aside0.mk hi297_2
            have HC297_2 := Aside0.mk hl297_2
            clear hi297_2 hl297_2
            replace p297 := eq_true p297
            replace q297 := eq_true q297
            try go_wp2
            have n0_ := Aside0.mk (Kd.R_drew HO_297003.out)
            have n1_ := Aside0.mk (blk_drew BK293.out)
            have n2_ := Aside0.mk (blk_drew BK294.out)
            have n3_ := Aside0.mk (blk_drew BK296.out)
            have n4_ := Aside0.mk (below_drew1 HB.out)
            clear HO_297003
            clear BK293
            clear BK294
            clear BK296
            clear HB
            have HO_297003 := n0_
            have BK293 := n1_
            have BK294 := n2_
            have BK296 := n3_
            have HB := n4_
            clear n0_ n1_ n2_ n3_ n4_
            have p298 : 0 ≤ (x9_2 : Int) := of_decide_eq_true (by first | (with_reducible assumption) | assumption)
            have q298 : x9_2 < (l2.length : Int) := of_decide_eq_true (by first | (with_reducible assumption) | assumption)
            obtain ⟨ad298, e298, hx298_0⟩ := Kd.at_int HR2.out x9_2 p298 q298
            have hw298_0 := hx298_0
            cases e298
            replace hx298_0 := (HB.out.cell (World.block_lt_of_cell? w _ hx298_0)).trans hx298_0
            replace p298 := eq_true p298
            replace q298 := eq_true q298
            refine start_ (n := 10) (S := fun w' => w'.cell? ⟨gb296, 0, none⟩ = some (.int .i64 a1) ∧ w'.cell? ⟨gb296, 1, none⟩ = some (.int .i64 0) ∧ w'.cell? ⟨gb296, 2, none⟩ = some (.int .i64 0) ∧ w'.cell? ⟨gb296, 3, none⟩ = some (u297003) ∧ w'.cell? ⟨gb296, 4, none⟩ = some (.int .u16 0) ∧ w'.cell? (ad298.add (x9_2).toNat) = some (.int .u16 (rd l2 x9_2))) (ds := [9]) #[false, false, false, false, false, false, false, false, false, false] (by kernel_rfl) rfl rfl ⟨(blk_cell BK296.out 0).trans rfl, (blk_cell BK296.out 1).trans rfl, (blk_cell BK296.out 2).trans rfl, (blk_cell BK296.out 3).trans rfl, (blk_cell BK296.out 4).trans rfl, ((HB.out.cell (World.block_lt_of_cell? w _ hw298_0)).trans hw298_0)⟩ (fun hHeld => ?_); refine with_tabW davitref05_New.tab8 davitref05_New.bits8 (fun HT_ HW_ => ?_)
            generalize wr.drew = w31 at HO_297003 BK293 BK294 BK296 HB hx298_0 hHeld ⊢
            refine pure_ (i := 0) (N := some 47) (v := ?_) (a' := ?_) #[true, false, false, false, false, false, false, false, false, false] rfl rfl (any_of HT_.out (by kernel_rfl)) (fun _ _ _ h => h) (Or.inl ⟨by rfl, ?_⟩) ?_ ?_
            rotate_left
            ·intro w'
             go_simp
             with_reducible rfl
            rotate_left
            ·simp only [Act.put, List.setIfInBounds_toArray, List.set_cons_zero, List.set_cons_succ, i64_w, i32_w]
             rfl
            refine pure_ (i := 2) (N := some 49) (v := ?_) (a' := ?_) #[true, false, true, false, false, false, false, false, false, false] rfl rfl (any_of HT_.out (by kernel_rfl)) (fun _ _ _ h => h) (Or.inl ⟨by rfl, ?_⟩) ?_ ?_
            rotate_left
            ·intro w'
             go_simp
             with_reducible rfl
            rotate_left
            ·simp only [Act.put, List.setIfInBounds_toArray, List.set_cons_zero, List.set_cons_succ, i64_w, i32_w]
             rfl
            refine pure_ (i := 3) (N := some 50) (v := ?_) (a' := ?_) #[true, false, true, true, false, false, false, false, false, false] rfl rfl (any_of HT_.out (by kernel_rfl)) (fun _ _ _ h => h) (Or.inl ⟨by rfl, ?_⟩) ?_ ?_
            rotate_left
            ·intro w'
             go_simp
             with_reducible rfl
            rotate_left
            ·simp only [Act.put, List.setIfInBounds_toArray, List.set_cons_zero, List.set_cons_succ, i64_w, i32_w]
             rfl
            refine pure_ (i := 4) (N := some 51) (v := ?_) (a' := ?_) #[true, false, true, true, true, false, false, false, false, false] rfl rfl (any_of HT_.out (by kernel_rfl)) (fun _ _ _ h => h) (Or.inl ⟨by rfl, ?_⟩) ?_ ?_
            rotate_left
            ·intro w'
             go_simp
             with_reducible rfl
            rotate_left
            ·simp only [Act.put, List.setIfInBounds_toArray, List.set_cons_zero, List.set_cons_succ, i64_w, i32_w]
             rfl
            refine take_ (i := 1) (N := some 48) (v := ?_) (a' := ?_) #[true, true, true, true, true, false, false, false, false, false] rfl rfl (take_ofW HT_.out HW_.out (by kernel_rfl)) (fun _ _ _ h => h) (Or.inl ⟨by rfl, ?_⟩) hHeld ?_ ?_
            rotate_left
            ·rintro w' ⟨s0, s1, s2, s3, s4, s5⟩
             go_simp
             with_reducible rfl
            rotate_left
            ·simp only [Act.put, List.setIfInBounds_toArray, List.set_cons_zero, List.set_cons_succ, i64_w, i32_w]
             rfl
            refine take_ (i := 5) (N := some 52) (v := ?_) (a' := ?_) #[true, true, true, true, true, true, false, false, false, false] rfl rfl (take_ofW HT_.out HW_.out (by kernel_rfl)) (fun _ _ _ h => h) (Or.inl ⟨by rfl, ?_⟩) hHeld ?_ ?_
            rotate_left
            ·rintro w' ⟨s0, s1, s2, s3, s4, s5⟩
             go_simp
             with_reducible rfl
            rotate_left
            ·simp only [Act.put, List.setIfInBounds_toArray, List.set_cons_zero, List.set_cons_succ, i64_w, i32_w]
             rfl
            refine one_ (i := 6) (N := some 53) #[true, true, true, true, true, true, true, false, false, false] rfl rfl (one_of HT_.out (by kernel_rfl)) (by decide) (fun K hK => ?_)
            refine value_ (w1 := ?_) (v := ?_) (by rfl) rfl ?_ ?_
            rotate_left 2
            ·go_simp
             constructor
             ·rfl
             ·rfl
            refine hK.out _ _ ⟨(blk_cell (blk_alloc BK296.out _) 0).trans rfl, (blk_cell (blk_alloc BK296.out _) 1).trans rfl, (blk_cell (blk_alloc BK296.out _) 2).trans rfl, (blk_cell (blk_alloc BK296.out _) 3).trans rfl, (blk_cell (blk_alloc BK296.out _) 4).trans rfl, (World.cell?_alloc_lt _ _ _ (World.block_lt_of_cell? _ _ (((HB.out.cell (World.block_lt_of_cell? w _ hw298_0)).trans hw298_0)))).trans (((HB.out.cell (World.block_lt_of_cell? w _ hw298_0)).trans hw298_0))⟩ (fun hHeld => ?_)
            clear hK K
            refine norm_ (a' := ?_) ?_ ?_
            rotate_left
            ·show Act.put _ (some 53) _ = _
             simp only [Act.put, List.setIfInBounds_toArray, List.set_cons_zero, List.set_cons_succ, i64_w, i32_w]
             rfl
            refine one_ (i := 7) (N := some 54) #[true, true, true, true, true, true, true, true, false, false] rfl rfl (one_of HT_.out (by kernel_rfl)) (by decide) (fun K hK => ?_)
            refine Kd.R_append_step (Kd.int .u16) (w0 := w) w.heap.size (by rfl) (.tmp 48) (.tmp 53) 33 44 (.int .u16 0) 2 rfl Try.underlying33 info44 rfl (by decide) (by omega) u297003 x297003_2 (rd l2 x9_2) [.int .u16 (rd l2 x9_2)] (fun _ => True) (fun _ => False) rfl rfl ?aP (fun _ hk => hk.elim) ?aF ?aO ?aB ?aS ?aL ?_
            (case aP => exact rfl)
            (case aB => exact (by repeat (first | (with_reducible first | exact HB.out | apply below_alloc | apply pw_below_drewN | apply below_drew1 | refine below_set ?_ GE293.out | refine below_set ?_ GE294.out | refine below_set ?_ GE296.out) | exact HB.out)))
            (case aF => exact (fun _ _ => trivial))
            (case aO => exact (by (with_reducible repeat (first | apply Kd.R_alloc | apply Kd.R_drewN | apply Kd.R_drew)); exact HO_297003.out))
            (case aS => exact (below_size (by repeat (first | (with_reducible first | exact HB.out | apply below_alloc | apply pw_below_drewN | apply below_drew1 | refine below_set ?_ GE293.out | refine below_set ?_ GE294.out | refine below_set ?_ GE296.out) | exact HB.out))))
            (case aL => have := LMc27.out; omega)
            intro v300 w32 ho hb hg hat
            rw [← Ny299.out] at ho
            have n0_ := Aside0.mk (blk_grown (g := gb293) (o := .cells #[.slice (some ad297) l0_0.length c0_0] 24 (0, 0)) (by (with_reducible repeat (first | refine blk_drewN ?_ _ | refine blk_drew ?_ | refine blk_alloc ?_ _)); exact BK293.out) hg (Kd.R_ne HO_297003.out BK293.out (by decide)))
            have n1_ := Aside0.mk (blk_grown (g := gb294) (o := .cells #[.int .i64 0, .int .i64 0, .int .i64 0, .slice none 0 0, .int .u16 0] 55 (0, 0)) (by (with_reducible repeat (first | refine blk_drewN ?_ _ | refine blk_drew ?_ | refine blk_alloc ?_ _)); exact BK294.out) hg (Kd.R_ne HO_297003.out BK294.out (by decide)))
            have n2_ := Aside0.mk (blk_grown (g := gb296) (o := .cells #[.int .i64 a1, .int .i64 0, .int .i64 0, u297003, .int .u16 0] 55 (0, 0)) (by (with_reducible repeat (first | refine blk_drewN ?_ _ | refine blk_drew ?_ | refine blk_alloc ?_ _)); exact BK296.out) hg (Kd.R_ne HO_297003.out BK296.out (by decide)))
            have n3_ := Aside0.mk (hb)
            have n4_ := Aside0.mk (ho)
            clear BK293
            clear BK294
            clear BK296
            clear HB
            clear HO_297003
            have BK293 := n0_
            have BK294 := n1_
            have BK296 := n2_
            have HB := n3_
            have HO301 := n4_
            clear n0_ n1_ n2_ n3_ n4_
            clear ho hb hg hat
            obtain ⟨Ao33, co33, eo33⟩ := Kd.R_slice HO301.out
            (first | subst eo33 | (injection eo33 with f1_ f2_ f3_; have f4_ := f1_.symm; have f5_ := f3_.symm; clear f1_ f2_ f3_; subst f4_; subst f5_))
            refine hK.out _ _ ⟨(blk_cell BK296.out 0).trans rfl, (blk_cell BK296.out 1).trans rfl, (blk_cell BK296.out 2).trans rfl, (blk_cell BK296.out 3).trans rfl, (blk_cell BK296.out 4).trans rfl, ((HB.out.cell (World.block_lt_of_cell? w _ hw298_0)).trans hw298_0)⟩ (fun hHeld => ?_)
            clear hK K
            refine norm_ (a' := ?_) ?_ ?_
            rotate_left
            ·show Act.put _ (some 54) _ = _
             simp only [Act.put, List.setIfInBounds_toArray, List.set_cons_zero, List.set_cons_succ, i64_w, i32_w]
             rfl
            refine pure_ (i := 8) (N := some 55) (v := ?_) (a' := ?_) #[true, true, true, true, true, true, true, true, true, false] rfl rfl (any_of HT_.out (by kernel_rfl)) (fun _ _ _ h => h) (Or.inl ⟨by rfl, ?_⟩) ?_ ?_
            rotate_left
            ·intro w'
             go_simp
             with_reducible rfl
            rotate_left
            ·simp only [Act.put, List.setIfInBounds_toArray, List.set_cons_zero, List.set_cons_succ, i64_w, i32_w]
             rfl
            refine last_ (i := 9) (N := none) #[true, true, true, true, true, true, true, true, true, true] rfl rfl (one_of HT_.out (by kernel_rfl)) (by decide) (fun K hK => ?_)
            have hs34 : w32.cell? ⟨gb296, 3, none⟩ = some (u297003) := (blk_cell BK296.out 3).trans rfl
            have hfs34 := blk_frozen BK296.out 3
            have hns34_0 := NB293_296.out
            have hns34_1 := NB294_296.out
            have hms34_0 := NB296_293.out
            have hms34_1 := NB296_294.out
            refine skip_ (w1 := ?_) (by rfl) rfl ?_ ?_
            rotate_left
            ·go_simp
             rfl
            refine hK.out _ _ ?_
            clear hK K
            refine done_ (done_of HT_.out (by kernel_rfl)) ?_
            try go_wp2
            go_roundg k2
            case measure => have := HJ3.out; have := HK2.out; omega
            case rel => exact ⟨(wrap64 (x9_2 + 1)), (y299), (.slice Ao33 y299.length co33), (by first | rfl | (simp; done) | (simp [*]; done)), H', ⟨by have := HJ3.out; have := HK2.out; omega⟩, ⟨by (with_reducible repeat (first | apply Kd.R_alloc | apply Kd.R_drewN | apply Kd.R_drew)); exact Kd.R_mono (Kd.R_far (p := ⟨gb296, 3, none⟩) (Kd.R_types HO301.out BK296.out (by decide)) (fun _ hk => hk.2) (.slice Ao33 y299.length co33)) (fun _ hk => trivial)⟩, ⟨by (with_reducible repeat (first | refine blk_drewN ?_ _ | refine blk_drew ?_ | refine blk_alloc ?_ _)); refine blk_far ?_ NB293_296.out _; (with_reducible repeat (first | refine blk_drewN ?_ _ | refine blk_drew ?_ | refine blk_alloc ?_ _)); exact BK293.out⟩, ⟨by (with_reducible repeat (first | refine blk_drewN ?_ _ | refine blk_drew ?_ | refine blk_alloc ?_ _)); refine blk_far ?_ NB294_296.out _; (with_reducible repeat (first | refine blk_drewN ?_ _ | refine blk_drew ?_ | refine blk_alloc ?_ _)); exact BK294.out⟩, ⟨by (with_reducible repeat (first | refine blk_drewN ?_ _ | refine blk_drew ?_ | refine blk_alloc ?_ _)); refine blk_put (cs := #[.int .i64 a1, .int .i64 0, .int .i64 0, u297003, .int .u16 0]) ?_ 3 _ rfl; (with_reducible repeat (first | refine blk_drewN ?_ _ | refine blk_drew ?_ | refine blk_alloc ?_ _)); exact BK296.out⟩, ⟨by repeat (first | (with_reducible first | exact HB.out | apply below_alloc | apply pw_below_drewN | apply below_drew1 | refine below_set ?_ GE293.out | refine below_set ?_ GE294.out | refine below_set ?_ GE296.out) | exact HB.out)⟩⟩
           ·rw [if_neg c27] at H
            exact absurd H (by simp)
          ·rw [if_neg c26] at H
           exact absurd H (by simp)
         ·rw [if_neg c25] at H
          have c25b0 : decide (x9_2 < (l2.length : Int)) = false := decide_eq_false c25
          clear c25
          by_cases c35 : x297003_2.length < 70368744177664
          ·rw [if_pos c35] at H
           have LMc35 := Aside0.mk c35
           clear c35
           obtain ⟨y302, hy302⟩ : ∃ y_ : List Int, y_ = (x297003_2 ++ [0]) := ⟨_, rfl⟩
           replace H : (davitref05_New.l0 k2 a1 l2 (wrap64 (x9_2 + 1)) l0_0 a1 0 0 y302 0) = some (r1, r2, r3, r4, r5, r6) := by first | (rw [hy302]; with_reducible exact H) | (have H2_ := (Option.bind_some _ _).symm.trans H; rw [hy302]; with_reducible exact H2_) | (have H2_ := (Option.bind_some _ _).symm.trans H; with_reducible exact H2_) | with_reducible exact H | (rw [hy302]; exact H) | exact H
           have Ny302 := Aside0.mk hy302
           clear hy302
           have H' := Aside0.mk H
           clear H
           have hnb36 := NB293_294.out
           have hnc36 := NB294_293.out
           have hnb37 := NB293_296.out
           have hnc37 := NB296_293.out
           have hcz38_0 : wr.cell? ⟨gb293, 0, none⟩ = some (.slice A0_0 l0_0.length c0_0) := (blk_cell BK293.out 0).trans rfl
           have hfz38_0 := blk_frozen BK293.out 0
           have p297 : 0 ≤ (a1 : Int) := of_decide_eq_true (by first | (with_reducible assumption) | assumption)
           have q297 : a1 < (l0_0.length : Int) := of_decide_eq_true (by first | (with_reducible assumption) | assumption)
           obtain ⟨ad297, A297_2, c297_2, e297, hx297_0, hx297_1, hx297_2, hl297_2, hi297_2⟩ := at_T27 HR0_0.out a1 p297 q297
           cases e297
           replace hx297_0 := (HB.out.cell (World.block_lt_of_cell? w _ hx297_0)).trans hx297_0
           replace hx297_1 := (HB.out.cell (World.block_lt_of_cell? w _ hx297_1)).trans hx297_1
           replace hx297_2 := (HB.out.cell (World.block_lt_of_cell? w _ hx297_2)).trans hx297_2
           have HR297_2 := Aside0.mk hi297_2
           have HC297_2 := Aside0.mk hl297_2
           clear hi297_2 hl297_2
           replace p297 := eq_true p297
           replace q297 := eq_true q297
           have hnb39 := NB296_294.out
           have hnc39 := NB294_296.out
           have hcz40_0 : wr.cell? ⟨gb296, 0, none⟩ = some (.int .i64 a1) := (blk_cell BK296.out 0).trans rfl
           have hcz40_1 : wr.cell? ⟨gb296, 1, none⟩ = some (.int .i64 0) := (blk_cell BK296.out 1).trans rfl
           have hcz40_2 : wr.cell? ⟨gb296, 2, none⟩ = some (.int .i64 0) := (blk_cell BK296.out 2).trans rfl
           have hcz40_3 : wr.cell? ⟨gb296, 3, none⟩ = some (u297003) := (blk_cell BK296.out 3).trans rfl
           have hcz40_4 : wr.cell? ⟨gb296, 4, none⟩ = some (.int .u16 0) := (blk_cell BK296.out 4).trans rfl
           have hfz40_0 := blk_frozen BK296.out 0
           have hfz40_1 := blk_frozen BK296.out 1
           have hfz40_2 := blk_frozen BK296.out 2
           have hfz40_3 := blk_frozen BK296.out 3
           have hfz40_4 := blk_frozen BK296.out 4
           go_wp2_with (first | ((with_reducible refine gate_builtin (b := .append) (xs := #[.tmp 57, .tmp 58]) rfl ?_); (try (refine gate_guard (by rfl) ?_; dsimp only)); at_builtin; refine Kd.R_append (Kd.int .u16) (w0 := w) w.heap.size rfl (.tmp 57) (.tmp 58) 33 44 (.int .u16 0) 2 rfl Try.underlying33 info44 rfl (by decide) (by omega) u297003 x297003_2 0 [.int .u16 0] (fun _ => True) (fun _ => False) rfl rfl ?aP (fun _ hk => hk.elim) ?aF ?aO ?aB ?aS ?aL ?_; (case aP => exact rfl); (case aB => exact (by repeat (first | (with_reducible first | exact HB.out | apply below_alloc | apply pw_below_drewN | apply below_drew1 | refine below_set ?_ GE293.out | refine below_set ?_ GE294.out | refine below_set ?_ GE296.out) | exact HB.out))); (case aF => exact (fun _ _ => trivial)); (case aO => exact (by (with_reducible repeat (first | apply Kd.R_alloc | apply Kd.R_drewN | apply Kd.R_drew)); exact HO_297003.out)); (case aS => exact (below_size (by repeat (first | (with_reducible first | exact HB.out | apply below_alloc | apply pw_below_drewN | apply below_drew1 | refine below_set ?_ GE293.out | refine below_set ?_ GE294.out | refine below_set ?_ GE296.out) | exact HB.out)))); (case aL => have := LMc35.out; omega); intro v303 w41 ho hb hg hat; rw [← Ny302.out] at ho; have n0_ := Aside0.mk (blk_grown (g := gb293) (o := .cells #[.slice (some ad297) l0_0.length c0_0] 24 (0, 0)) (by (with_reducible repeat (first | refine blk_drewN ?_ _ | refine blk_drew ?_ | refine blk_alloc ?_ _)); exact BK293.out) hg (Kd.R_ne HO_297003.out BK293.out (by decide))); have n1_ := Aside0.mk (blk_grown (g := gb294) (o := .cells #[.int .i64 0, .int .i64 0, .int .i64 0, .slice none 0 0, .int .u16 0] 55 (0, 0)) (by (with_reducible repeat (first | refine blk_drewN ?_ _ | refine blk_drew ?_ | refine blk_alloc ?_ _)); exact BK294.out) hg (Kd.R_ne HO_297003.out BK294.out (by decide))); have n2_ := Aside0.mk (blk_grown (g := gb296) (o := .cells #[.int .i64 a1, .int .i64 0, .int .i64 0, u297003, .int .u16 0] 55 (0, 0)) (by (with_reducible repeat (first | refine blk_drewN ?_ _ | refine blk_drew ?_ | refine blk_alloc ?_ _)); exact BK296.out) hg (Kd.R_ne HO_297003.out BK296.out (by decide))); have n3_ := Aside0.mk (hb); have n4_ := Aside0.mk (ho); clear BK293; clear BK294; clear BK296; clear HB; clear HO_297003; have BK293 := n0_; have BK294 := n1_; have BK296 := n2_; have HB := n3_; have HO304 := n4_; clear n0_ n1_ n2_ n3_ n4_; clear ho hb hg hat; obtain ⟨Ao42, co42, eo42⟩ := Kd.R_slice HO304.out; subst eo42; have hcz43_0 : w41.cell? ⟨gb296, 0, none⟩ = some (.int .i64 a1) := (blk_cell BK296.out 0).trans rfl; have hcz43_1 : w41.cell? ⟨gb296, 1, none⟩ = some (.int .i64 0) := (blk_cell BK296.out 1).trans rfl; have hcz43_2 : w41.cell? ⟨gb296, 2, none⟩ = some (.int .i64 0) := (blk_cell BK296.out 2).trans rfl; have hcz43_3 : w41.cell? ⟨gb296, 3, none⟩ = some (u297003) := (blk_cell BK296.out 3).trans rfl; have hcz43_4 : w41.cell? ⟨gb296, 4, none⟩ = some (.int .u16 0) := (blk_cell BK296.out 4).trans rfl; have hfz43_0 := blk_frozen BK296.out 0; have hfz43_1 := blk_frozen BK296.out 1; have hfz43_2 := blk_frozen BK296.out 2; have hfz43_3 := blk_frozen BK296.out 3; have hfz43_4 := blk_frozen BK296.out 4))
           go_roundg k2
           case measure => have := HJ3.out; have := HK2.out; omega
           case rel => exact ⟨(wrap64 (x9_2 + 1)), (y302), (.slice Ao42 y302.length co42), (by first | rfl | (simp; done) | (simp [*]; done)), H', ⟨by have := HJ3.out; have := HK2.out; omega⟩, ⟨by (with_reducible repeat (first | apply Kd.R_alloc | apply Kd.R_drewN | apply Kd.R_drew)); exact Kd.R_mono (Kd.R_far (p := ⟨gb296, 3, none⟩) (Kd.R_types HO304.out BK296.out (by decide)) (fun _ hk => hk.2) (.slice Ao42 y302.length co42)) (fun _ hk => trivial)⟩, ⟨by (with_reducible repeat (first | refine blk_drewN ?_ _ | refine blk_drew ?_ | refine blk_alloc ?_ _)); refine blk_far ?_ NB293_296.out _; (with_reducible repeat (first | refine blk_drewN ?_ _ | refine blk_drew ?_ | refine blk_alloc ?_ _)); exact BK293.out⟩, ⟨by (with_reducible repeat (first | refine blk_drewN ?_ _ | refine blk_drew ?_ | refine blk_alloc ?_ _)); refine blk_far ?_ NB294_296.out _; (with_reducible repeat (first | refine blk_drewN ?_ _ | refine blk_drew ?_ | refine blk_alloc ?_ _)); exact BK294.out⟩, ⟨by (with_reducible repeat (first | refine blk_drewN ?_ _ | refine blk_drew ?_ | refine blk_alloc ?_ _)); refine blk_put (cs := #[.int .i64 a1, .int .i64 0, .int .i64 0, u297003, .int .u16 0]) ?_ 3 _ rfl; (with_reducible repeat (first | refine blk_drewN ?_ _ | refine blk_drew ?_ | refine blk_alloc ?_ _)); exact BK296.out⟩, ⟨by repeat (first | (with_reducible first | exact HB.out | apply below_alloc | apply pw_below_drewN | apply below_drew1 | refine below_set ?_ GE293.out | refine below_set ?_ GE294.out | refine below_set ?_ GE296.out) | exact HB.out)⟩⟩
          ·rw [if_neg c35] at H
           exact absurd H (by simp)
        ·rw [if_neg c24] at H
         have c24b0 : decide (x9_2 < ((rd_T27 l0_0 a1).f1)) = false := decide_eq_false c24
         clear c24
         simp only [Option.some.injEq, Prod.mk.injEq] at H
         obtain ⟨rfl, rfl, rfl, rfl, rfl, rfl⟩ := H
         have hnb44 := NB293_294.out
         have hnc44 := NB294_293.out
         have hnb45 := NB293_296.out
         have hnc45 := NB296_293.out
         have hcz46_0 : wr.cell? ⟨gb293, 0, none⟩ = some (.slice A0_0 l0_0.length c0_0) := (blk_cell BK293.out 0).trans rfl
         have hfz46_0 := blk_frozen BK293.out 0
         have p297 : 0 ≤ (a1 : Int) := of_decide_eq_true (by first | (with_reducible assumption) | assumption)
         have q297 : a1 < (l0_0.length : Int) := of_decide_eq_true (by first | (with_reducible assumption) | assumption)
         obtain ⟨ad297, A297_2, c297_2, e297, hx297_0, hx297_1, hx297_2, hl297_2, hi297_2⟩ := at_T27 HR0_0.out a1 p297 q297
         cases e297
         replace hx297_0 := (HB.out.cell (World.block_lt_of_cell? w _ hx297_0)).trans hx297_0
         replace hx297_1 := (HB.out.cell (World.block_lt_of_cell? w _ hx297_1)).trans hx297_1
         replace hx297_2 := (HB.out.cell (World.block_lt_of_cell? w _ hx297_2)).trans hx297_2
         have HR297_2 := Aside0.mk hi297_2
         have HC297_2 := Aside0.mk hl297_2
         clear hi297_2 hl297_2
         replace p297 := eq_true p297
         replace q297 := eq_true q297
         have hnb47 := NB296_294.out
         have hnc47 := NB294_296.out
         have hcz48_0 : wr.cell? ⟨gb296, 0, none⟩ = some (.int .i64 a1) := (blk_cell BK296.out 0).trans rfl
         have hcz48_1 : wr.cell? ⟨gb296, 1, none⟩ = some (.int .i64 0) := (blk_cell BK296.out 1).trans rfl
         have hcz48_2 : wr.cell? ⟨gb296, 2, none⟩ = some (.int .i64 0) := (blk_cell BK296.out 2).trans rfl
         have hcz48_3 : wr.cell? ⟨gb296, 3, none⟩ = some (u297003) := (blk_cell BK296.out 3).trans rfl
         have hcz48_4 : wr.cell? ⟨gb296, 4, none⟩ = some (.int .u16 0) := (blk_cell BK296.out 4).trans rfl
         have hfz48_0 := blk_frozen BK296.out 0
         have hfz48_1 := blk_frozen BK296.out 1
         have hfz48_2 := blk_frozen BK296.out 2
         have hfz48_3 := blk_frozen BK296.out 3
         have hfz48_4 := blk_frozen BK296.out 4
         have hcz49_0 : wr.cell? ⟨gb294, 0, none⟩ = some (.int .i64 0) := (blk_cell BK294.out 0).trans rfl
         have hcz49_1 : wr.cell? ⟨gb294, 1, none⟩ = some (.int .i64 0) := (blk_cell BK294.out 1).trans rfl
         have hcz49_2 : wr.cell? ⟨gb294, 2, none⟩ = some (.int .i64 0) := (blk_cell BK294.out 2).trans rfl
         have hcz49_3 : wr.cell? ⟨gb294, 3, none⟩ = some (.slice none 0 0) := (blk_cell BK294.out 3).trans rfl
         have hcz49_4 : wr.cell? ⟨gb294, 4, none⟩ = some (.int .u16 0) := (blk_cell BK294.out 4).trans rfl
         have hfz49_0 := blk_frozen BK294.out 0
         have hfz49_1 := blk_frozen BK294.out 1
         have hfz49_2 := blk_frozen BK294.out 2
         have hfz49_3 := blk_frozen BK294.out 3
         have hfz49_4 := blk_frozen BK294.out 4
         obtain ⟨Ao50, co50, eo50⟩ := Kd.R_slice HO_297003.out
         subst eo50
         go_wp2
         refine bodyPost_ret (results_ct rfl _ _ gb294 55 #[.int .i64 a1, .int .i64 0, .int .i64 0, .slice Ao50 x297003_2.length co50, .int .u16 0] (0, 0) _ rfl (by (with_reducible repeat (first | refine blk_drewN ?_ _ | refine blk_drew ?_ | refine blk_alloc ?_ _)); refine blk_put (cs := #[.int .i64 a1, .int .i64 0, .int .i64 0, .slice Ao50 x297003_2.length co50, .int .u16 0]) ?_ 4 _ rfl; (with_reducible repeat (first | refine blk_drewN ?_ _ | refine blk_drew ?_ | refine blk_alloc ?_ _)); refine blk_put (cs := #[.int .i64 a1, .int .i64 0, .int .i64 0, .slice none 0 0, .int .u16 0]) ?_ 3 _ rfl; (with_reducible repeat (first | refine blk_drewN ?_ _ | refine blk_drew ?_ | refine blk_alloc ?_ _)); refine blk_put (cs := #[.int .i64 a1, .int .i64 0, .int .i64 0, .slice none 0 0, .int .u16 0]) ?_ 2 _ rfl; (with_reducible repeat (first | refine blk_drewN ?_ _ | refine blk_drew ?_ | refine blk_alloc ?_ _)); refine blk_put (cs := #[.int .i64 a1, .int .i64 0, .int .i64 0, .slice none 0 0, .int .u16 0]) ?_ 1 _ rfl; (with_reducible repeat (first | refine blk_drewN ?_ _ | refine blk_drew ?_ | refine blk_alloc ?_ _)); refine blk_put (cs := #[.int .i64 0, .int .i64 0, .int .i64 0, .slice none 0 0, .int .u16 0]) ?_ 0 _ rfl; (with_reducible repeat (first | refine blk_drewN ?_ _ | refine blk_drew ?_ | refine blk_alloc ?_ _)); exact BK294.out) Try.underlying55 rfl (by kernel_rfl)) rfl ?_
         exact ⟨_, by first | rfl | (simp [errW_none, errW_some] <;> rfl) | (simp [*, errW_none, errW_some] <;> rfl), by (with_reducible repeat (first | apply Kd.R_alloc | apply Kd.R_drewN | apply Kd.R_drew)); exact Kd.R_mono (Kd.R_far (p := ⟨gb294, 4, none⟩) (Kd.R_far (p := ⟨gb294, 3, none⟩) (Kd.R_far (p := ⟨gb294, 2, none⟩) (Kd.R_far (p := ⟨gb294, 1, none⟩) (Kd.R_far (p := ⟨gb294, 0, none⟩) (Kd.R_types HO_297003.out BK294.out (by decide)) (fun _ hk => hk.2) (.int .i64 a1)) (fun _ hk => hk.2) (.int .i64 0)) (fun _ hk => hk.2) (.int .i64 0)) (fun _ hk => hk.2) (.slice Ao50 x297003_2.length co50)) (fun _ hk => hk.2) (.int .u16 0)) (fun _ hk => trivial), by repeat (first | (with_reducible first | exact HB.out | apply below_alloc | apply pw_below_drewN | apply below_drew1 | refine below_set ?_ GE293.out | refine below_set ?_ GE294.out | refine below_set ?_ GE296.out) | exact HB.out)⟩
       ·rw [if_neg c23] at H
        exact absurd H (by simp)
      ·rw [if_neg c22] at H
       exact absurd H (by simp)
end
end Go.Proofs.Ytbfialebaoeicaa.X
namespace Go.Proofs.Ytbfialebaoeicaa.X
open Go.RowKit Go.Proofs.YtbfialebaoeicaaW.PrintWords Go.Proofs.YtbfialebaoeicaaW.PrintLast Go.Proofs.YtbfialebaoeicaaW.PrintMore
set_option linter.all false
theorem new_l0 (m : List S27) (n : Int) (l : List Int) (R : Nat) (h0 : 0 ≤ n) (h1 : n < (m.length : Int)) (hR : (rd_T27 m n).f1 = R) (hl : l.length ≤ R) (h2 : R ≤ 256) : ∀ (d x : Nat), x + d = R →
  davitref05_New.l0 (d + 1) n l x m n 0 0 ((l ++ List.replicate (R - l.length) 0).take x) 0 = some (n, 0, 0, l ++ List.replicate (R - l.length) 0, 0, 0)
 | 0, x, hx => by
  rw [davitref05_New.l0, if_pos h0, if_pos h1, if_neg (by omega), List.take_of_length_le (by simp; omega)]
 | d + 1, x, hx => by
  have hlen : (l ++ List.replicate (R - l.length) (0 : Int)).length = R := by simp; omega
  have hxl : x < (l ++ List.replicate (R - l.length) (0 : Int)).length := by omega
  have ih := new_l0 m n l R h0 h1 hR hl h2 d (x + 1) (by omega)
  rw [List.take_succ_eq_append_getElem hxl] at ih
  rw [davitref05_New.l0, if_pos h0, if_pos h1, if_pos (by omega), wrap_in ((x : Int) + 1) (by omega) (by omega)]
  have htk : ((l ++ List.replicate (R - l.length) (0 : Int)).take x).length < 70368744177664 := by rw [List.length_take]; omega
  by_cases h3 : (x : Int) < (l.length : Int)
  ·have h3' : x < l.length := by omega
   rw [if_pos h3, if_pos (by omega), if_pos htk]
   rw [List.getElem_append_left h3'] at ih
   have hrd : rd l (x : Int) = l[x] := by unfold rd; rw [Int.toNat_natCast, List.getD_eq_getElem?_getD, List.getElem?_eq_getElem h3']; rfl
   rw [hrd]
   exact_mod_cast ih
  ·have h3' : l.length ≤ x := by omega
   rw [if_neg h3, if_pos htk]
   rw [List.getElem_append_right h3', List.getElem_replicate] at ih
   exact_mod_cast ih
def nwB (m : List S27) (n : Int) (l : List Int) : Bool := win n m.length && decide ((l.length : Int) = (rd_T27 m n).f0)
theorem nwB_eq {m : List S27} (h : rightR m = true) (n : Int) (l : List Int) : okN m n l = nwB m n l := by
 unfold okN nwB okF
 rw [h, Bool.true_and]
theorem new_f (m : List S27) (n : Int) (l : List Int) (hr : rightR m = true) : ∃ k, davitref05_New.f k m n l = some (if nwB m n l = true then (n, 0, 0, newR m n l, 0, 0) else (0, 0, 0, [], 0, 1)) := by
 unfold davitref05_New.f
 by_cases h0 : 0 ≤ n
 ·by_cases h1 : n < (m.length : Int)
  ·have hw : win n m.length = true := by unfold win; rw [decide_eq_true h0, decide_eq_true h1]; rfl
   by_cases h2 : (l.length : Int) = (rd_T27 m n).f0
   ·have hs := okF_size (show okF m n = true by unfold okF; rw [hr, hw]; rfl)
    obtain ⟨R, hR⟩ : ∃ R : Nat, (rd_T27 m n).f1 = R := ⟨(rd_T27 m n).f1.toNat, by omega⟩
    refine ⟨R + 2, ?_⟩
    rw [if_neg (by omega), if_neg (by omega), if_pos h0, if_pos h1, davitref05_New.j0, show ((l.length : Int) != (rd_T27 m n).f0) = false from bne_eq_false_iff_eq.2 h2, if_neg (by simp), show nwB m n l = true by unfold nwB; rw [hw, decide_eq_true h2]; rfl, if_pos rfl]
    unfold newR
    rw [hR, Int.toNat_natCast]
    have := new_l0 m n l R h0 h1 hR (by omega) (by omega) R 0 (by omega)
    simpa using this
   ·refine ⟨1, ?_⟩
    rw [if_neg (by omega), if_neg (by omega), if_pos h0, if_pos h1, davitref05_New.j0, show ((l.length : Int) != (rd_T27 m n).f0) = true from bne_iff_ne.2 h2, if_pos rfl, show nwB m n l = false by unfold nwB; rw [decide_eq_false h2, Bool.and_false], if_neg (by simp)]
  ·refine ⟨1, ?_⟩
   rw [if_neg (by omega), if_pos (by omega), davitref05_New.j0, if_pos rfl, show nwB m n l = false by unfold nwB win; rw [decide_eq_false h1, Bool.and_false]; rfl, if_neg (by simp)]
 ·refine ⟨1, ?_⟩
  rw [if_pos (by omega), davitref05_New.j0, if_pos rfl, show nwB m n l = false by unfold nwB win; rw [decide_eq_false h0]; rfl, if_neg (by simp)]
def nwF (m : List S27) (n : Int) (l : List Int) : Int × List Int × Int := if nwB m n l = true then (n, newR m n l, 0) else (0, [], 1)
theorem rnew_c (m : List S27) (A0 : Option Addr) (c0 : Nat) (n : Int) (A2 : Option Addr) (c2 : Nat) (l : List Int) (w : World) (hr : rightR m = true) (hm : Kd.C k27 w A0 m.length m) (hc0 : m.length ≤ c0) (hl : Kd.C (Kd.int .u16) w A2 l.length l) (hc2 : l.length ≤ c2) :
  Calls Try.prog 37 #[.agg #[.slice A0 m.length c0], .int .i64 n, .slice A2 l.length c2] w fun e w' => (∃ Ao co, e = .returned (.tuple #[.agg #[.int .i64 (nwF m n l).1, .int .i64 0, .int .i64 0, .slice Ao (nwF m n l).2.1.length co, .int .u16 0], .int .i64 (nwF m n l).2.2]) ∧ (nwF m n l).2.1.length ≤ co ∧ Kd.C (Kd.int .u16) w' Ao (nwF m n l).2.1.length (nwF m n l).2.1) ∧ Below w.heap.size w w' := by
 obtain ⟨k, hk⟩ := new_f m n l hr
 refine (davitref05_New.calls k A0 c0 m n A2 c2 l (nwF m n l).1 0 0 (nwF m n l).2.1 0 (nwF m n l).2.2 w hm hc0 hl hc2 (by rw [hk]; unfold nwF; split <;> rfl)).mono ?_
 rintro e w' ⟨v, rfl, hr, hb⟩
 obtain ⟨Ao, co, rfl, hlo, hC⟩ := Kd.R_reads hr
 exact ⟨⟨Ao, co, rfl, hlo, hC⟩, hb⟩
def RLandA (m : List S27) (F_ Bl At : Int) (A3 : Option Addr) (c3 : Nat) (l : List Int) (Fly n v : Int) (w' : World) (e : Ending) : Prop :=
 (lnB m F_ Bl At l.length n = false ∧ e = .returned (.tuple #[.agg #[.int .i64 F_, .int .i64 Bl, .int .i64 At, .slice A3 l.length c3, .int .u16 Fly], .int .i64 1])) ∨
 (lnB m F_ Bl At l.length n = true ∧ ∃ Ao co, e = .returned (.tuple #[.agg #[.int .i64 F_, .int .i64 n, .int .i64 0, .slice Ao l.length co, .int .u16 v], .int .i64 0]) ∧ l.length ≤ co ∧ Kd.C (Kd.int .u16) w' Ao l.length (l.set (lnD m F_ n).toNat v))
theorem setC {W : World} {base c : Nat} {A : Option Addr} {l : List Int} {i : Nat} {v : Int} (h : Kd.R (Kd.int .u16) 44 W base (fun _ => True) (.slice A l.length c) (l.set i v)) : Kd.C (Kd.int .u16) W A l.length (l.set i v) := by
 have h2 := (Kd.R_reads' h).2.2
 rwa [List.length_set] at h2
set_option maxHeartbeats 16000000 in
set_option maxRecDepth 100000 in
theorem rland_c (m : List S27) (A0 : Option Addr) (c0 : Nat) (F_ Bl At : Int) (A3 : Option Addr) (c3 : Nat) (l : List Int) (Fly : Int) (n v : Int) (w : World) (hm : Kd.C k27 w A0 m.length m) (hl : Kd.C (Kd.int .u16) w A3 l.length l) (hc3 : l.length ≤ c3) (hm1 : l.length ≤ 1000) (hfr : frR m F_ Bl At l.length = true) :
  Calls Try.prog 39 #[.agg #[.slice A0 m.length c0], .agg #[.int .i64 F_, .int .i64 Bl, .int .i64 At, .slice A3 l.length c3, .int .u16 Fly], .int .i64 n, .int .u16 v] w fun e w' => RLandA m F_ Bl At A3 c3 l Fly n v w' e ∧ Below w.heap.size w w' := by
 have HM := Aside0.mk hm
 have HL := Aside0.mk hl
 have HC3 := Aside0.mk hc3
 have HNN := Aside0.mk hm1
 have HFR := Aside0.mk hfr
 clear hm hl hc3 hm1 hfr
 have hu24 := Try.underlying24
 have hu27 := Try.underlying27
 have hu55 := Try.underlying55
 have hu41 := Try.underlying41
 have hu35 := Try.underlying35
 have HO := Aside0.mk (frR_open HFR.out)
 obtain ⟨ad, A1, c1, e1, y0, y1, y2, hl1, hC1⟩ := at_T27 HM.out F_ HO.out.2.1 HO.out.2.2.1
 subst e1
 have p0 : (0 ≤ F_) = True := eq_true HO.out.2.1
 have p1 : (F_ < (m.length : Int)) = True := eq_true HO.out.2.2.1
 have HC1 := Aside0.mk hC1
 clear hl1 hC1
 go_enter Try.func39, Try.ntmps39
 go_upto_region 1 with (first | ((with_reducible refine gate_dst (N := 4) rfl ?_); refine box_event ?hg (N := 4) ?hd (cs := #[.slice (some ad) m.length c0]) (t := 24) ?hr ?_; (case hd => rfl); (case hg => rfl); (case hr => first | (go_simp; done) | (go_simp; rfl)); intro g4 hg w4 hbox hb; have HB := Aside0.mk hb; have X4 := Aside0.mk hbox; clear hbox hb hg; have k0 := (blk_cell X4.out 0).trans rfl) | ((with_reducible refine gate_dst (N := 5) rfl ?_); refine box_event ?hg (N := 5) ?hd (cs := #[.int .i64 F_, .int .i64 Bl, .int .i64 At, .slice A3 l.length c3, .int .u16 Fly]) (t := 55) ?hr ?_; (case hd => rfl); (case hg => rfl); (case hr => first | (go_simp; done) | (go_simp; rfl)); intro g5 hg w5 hbox hb; have HLX5 := Aside0.mk (show w.heap.size ≤ g5 by rw [hg]; exact HB.out.size); have n0_ := Aside0.mk (below_step HB.out hb); have n1_ := Aside0.mk (blk_below X4.out hb); clear HB X4; have HB := n0_; have X4 := n1_; clear n0_ n1_; have X5 := Aside0.mk hbox; clear hbox hb hg; have h0 := (blk_cell X5.out 0).trans rfl; have h1 := (blk_cell X5.out 1).trans rfl; have h2 := (blk_cell X5.out 2).trans rfl; have h3 := (blk_cell X5.out 3).trans rfl; have h4 := (blk_cell X5.out 4).trans rfl; have zh0 := blk_frozen X5.out 0; have zh1 := blk_frozen X5.out 1; have zh2 := blk_frozen X5.out 2; have zh3 := blk_frozen X5.out 3; have zh4 := blk_frozen X5.out 4; clear k0; have k0 := (blk_cell X4.out 0).trans rfl) | ((with_reducible refine gate_dst (N := 8) rfl ?_); refine box_event ?hg (N := 8) ?hd (cs := #[.int .i64 0, .int .i64 0, .int .i64 0, .slice none 0 0, .int .u16 0]) (t := 55) ?hr ?_; (case hd => rfl); (case hg => rfl); (case hr => first | (go_simp; done) | (go_simp; rfl)); intro g8 hg w8 hbox hb; have HLX8 := Aside0.mk (show w.heap.size ≤ g8 by rw [hg]; exact HB.out.size); have HN58 := Aside0.mk (show g5 ≠ g8 by rw [hg]; exact Nat.ne_of_lt (blk_lt X5.out)); have n0_ := Aside0.mk (below_step HB.out hb); have n1_ := Aside0.mk (blk_below X4.out hb); have n2_ := Aside0.mk (blk_below X5.out hb); clear HB X4 X5; have HB := n0_; have X4 := n1_; have X5 := n2_; clear n0_ n1_ n2_; have X8 := Aside0.mk hbox; clear hbox hb hg; have r0 := (blk_cell X8.out 0).trans rfl; have r1 := (blk_cell X8.out 1).trans rfl; have r2 := (blk_cell X8.out 2).trans rfl; have r3 := (blk_cell X8.out 3).trans rfl; have r4 := (blk_cell X8.out 4).trans rfl; have zr0 := blk_frozen X8.out 0; have zr1 := blk_frozen X8.out 1; have zr2 := blk_frozen X8.out 2; have zr3 := blk_frozen X8.out 3; have zr4 := blk_frozen X8.out 4; clear k0; clear h0 zh0 h1 zh1 h2 zh2 h3 zh3 h4 zh4; have k0 := (blk_cell X4.out 0).trans rfl; have h0 := (blk_cell X5.out 0).trans rfl; have h1 := (blk_cell X5.out 1).trans rfl; have h2 := (blk_cell X5.out 2).trans rfl; have h3 := (blk_cell X5.out 3).trans rfl; have h4 := (blk_cell X5.out 4).trans rfl; have zh0 := blk_frozen X5.out 0; have zh1 := blk_frozen X5.out 1; have zh2 := blk_frozen X5.out 2; have zh3 := blk_frozen X5.out 3; have zh4 := blk_frozen X5.out 4; have u0 := pw_cell_below HB.out y0; have u1 := pw_cell_below HB.out y1; have u2 := pw_cell_below HB.out y2))
 go_cut [10] (fun v10 wc => ∃ g10 : Nat, v10 = .pointer (some ⟨g10, 0, none⟩) ∧ Aside0 (Below w.heap.size w wc) ∧ Aside0 (wc.heap[g5]? = some (.cells #[.int .i64 F_, .int .i64 Bl, .int .i64 At, .slice A3 l.length c3, .int .u16 Fly] 55 (0, 0))) ∧ Aside0 (wc.heap[g8]? = some (.cells #[.int .i64 0, .int .i64 0, .int .i64 0, .slice none 0 0, .int .u16 0] 55 (0, 0))) ∧ Aside0 (wc.heap[g10]? = some (.cells #[.int .i64 (rd_T27 m F_).f0, .int .i64 (rd_T27 m F_).f1, .slice A1 (rd_T27 m F_).f2.length c1] 27 (0, 0))) ∧ Aside0 (g10 ≠ g5 ∧ g10 ≠ g8))
 case first =>
  go_wp2
  go_meet
  exact ⟨_, rfl, ⟨below_alloc HB.out _⟩, ⟨blk_alloc X5.out _⟩, ⟨blk_alloc X8.out _⟩, ⟨blk_new _ _⟩, ⟨Nat.ne_of_gt (blk_lt X5.out), Nat.ne_of_gt (blk_lt X8.out)⟩⟩
 case rest =>
  clear k0 u0 u1 u2 HB X4 X5 X8 y0 y1 y2
  clear h0 zh0 h1 zh1 h2 zh2 h3 zh3 h4 zh4
  clear r0 zr0 r1 zr1 r2 zr2 r3 zr3 r4 zr4
  obtain ⟨g10, rfl, HB, X5, X8, X10, HNE⟩ := hcut
  have h0 := (blk_cell X5.out 0).trans rfl
  have h1 := (blk_cell X5.out 1).trans rfl
  have h2 := (blk_cell X5.out 2).trans rfl
  have h3 := (blk_cell X5.out 3).trans rfl
  have h4 := (blk_cell X5.out 4).trans rfl
  have zh0 := blk_frozen X5.out 0
  have zh1 := blk_frozen X5.out 1
  have zh2 := blk_frozen X5.out 2
  have zh3 := blk_frozen X5.out 3
  have zh4 := blk_frozen X5.out 4
  have r0 := (blk_cell X8.out 0).trans rfl
  have r1 := (blk_cell X8.out 1).trans rfl
  have r2 := (blk_cell X8.out 2).trans rfl
  have r3 := (blk_cell X8.out 3).trans rfl
  have r4 := (blk_cell X8.out 4).trans rfl
  have zr0 := blk_frozen X8.out 0
  have zr1 := blk_frozen X8.out 1
  have zr2 := blk_frozen X8.out 2
  have zr3 := blk_frozen X8.out 3
  have zr4 := blk_frozen X8.out 4
  have m0 := (blk_cell X10.out 0).trans rfl
  have m1 := (blk_cell X10.out 1).trans rfl
  have m2 := (blk_cell X10.out 2).trans rfl
  by_cases b0 : 0 ≤ n
  rotate_left
  ·have d0 : decide (n < 0) = true := decide_eq_true (by omega)
   have HZ := Aside0.mk (show lnB m F_ Bl At l.length n = false by unfold lnB win; rw [decide_eq_false b0, Bool.false_and, Bool.and_false, Bool.false_and])
   clear b0
   go_wp2
   refine bodyPost_ret (results_ct rfl _ _ g8 55 #[.int .i64 F_, .int .i64 Bl, .int .i64 At, .slice A3 l.length c3, .int .u16 Fly] (0, 0) _ rfl (set_blk _ _ (set_blk _ _ (set_blk _ _ (set_blk _ _ (set_blk _ _ (X8.out) rfl) rfl) rfl) rfl) rfl) Try.underlying55 rfl (by kernel_rfl)) rfl ?_
   exact ⟨.inl ⟨HZ.out, rfl⟩, below_set (below_set (below_set (below_set (below_set (HB.out) HLX8.out) HLX8.out) HLX8.out) HLX8.out) HLX8.out⟩
  have d0 : decide (n < 0) = false := decide_eq_false (by omega)
  by_cases b1 : n < ((rd_T27 m F_).f2.length : Int)
  rotate_left
  ·have d1 : decide (((rd_T27 m F_).f2.length : Int) ≤ n) = true := decide_eq_true (by omega)
   have HZ := Aside0.mk (show lnB m F_ Bl At l.length n = false by unfold lnB win; rw [decide_eq_false b1, Bool.and_false, Bool.and_false, Bool.false_and])
   clear b0 b1
   go_wp2
   refine bodyPost_ret (results_ct rfl _ _ g8 55 #[.int .i64 F_, .int .i64 Bl, .int .i64 At, .slice A3 l.length c3, .int .u16 Fly] (0, 0) _ rfl (set_blk _ _ (set_blk _ _ (set_blk _ _ (set_blk _ _ (set_blk _ _ (X8.out) rfl) rfl) rfl) rfl) rfl) Try.underlying55 rfl (by kernel_rfl)) rfl ?_
   exact ⟨.inl ⟨HZ.out, rfl⟩, below_set (below_set (below_set (below_set (below_set (HB.out) HLX8.out) HLX8.out) HLX8.out) HLX8.out) HLX8.out⟩
  have d1 : decide (((rd_T27 m F_).f2.length : Int) ≤ n) = false := decide_eq_false (by omega)
  have HW := Aside0.mk (And.intro b0 b1)
  have p2 : (0 ≤ n) = True := eq_true b0
  have p3 : (n < ((rd_T27 m F_).f2.length : Int)) = True := eq_true b1
  obtain ⟨ad2, A4, c4, A5, c5, A6, c6, e1, z0, z1, z2, z3, z4, z5, z6, z7, z8, z9, z10, z11, z12, z13, _⟩ := at_T41 (Kd.C_below HC1.out HB.out) n b0 b1
  subst e1
  clear z2 z3 z4 z5 z6 z7 z8 z9 z10 z11 z12 z13 b0 b1
  cases hld : (rd_T41 (rd_T27 m F_).f2 n).f0 with
  | false =>
   rw [hld] at z0
   have HZ := Aside0.mk (show lnB m F_ Bl At l.length n = false by unfold lnB; rw [hld, Bool.and_false])
   go_wp2
   refine bodyPost_ret (results_ct rfl _ _ g8 55 #[.int .i64 F_, .int .i64 Bl, .int .i64 At, .slice A3 l.length c3, .int .u16 Fly] (0, 0) _ rfl (set_blk _ _ (set_blk _ _ (set_blk _ _ (set_blk _ _ (set_blk _ _ (X8.out) rfl) rfl) rfl) rfl) rfl) Try.underlying55 rfl (by kernel_rfl)) rfl ?_
   exact ⟨.inl ⟨HZ.out, rfl⟩, below_set (below_set (below_set (below_set (below_set (HB.out) HLX8.out) HLX8.out) HLX8.out) HLX8.out) HLX8.out⟩
  | true =>
   rw [hld] at z0
   have HZ := Aside0.mk (show lnB m F_ Bl At l.length n = true by unfold lnB win; rw [HFR.out, hld, decide_eq_true HW.out.1, decide_eq_true HW.out.2]; rfl)
   have HD := Aside0.mk (lnB_dst HZ.out)
   have hzd : (rd_T41 (rd_T27 m F_).f2 n).f1.f0 = lnD m F_ n := rfl
   rw [hzd] at z1
   clear hzd
   generalize hDD : lnD m F_ n = D at *
   have HDD := Aside0.mk hDD
   clear hDD
   have hne1 := HN58.out
   have hne2 := HN58.out.symm
   have hne3 := HNE.out.1
   have hne4 := HNE.out.2
   have hne5 := HNE.out.1.symm
   have HWIN := Aside0.mk (show win D l.length = true by unfold win; rw [decide_eq_true HD.out.1, decide_eq_true HD.out.2]; rfl)
   go_upto_region 6 with (fail)
   go_cut [] (fun wc => Aside0 (Below w.heap.size w wc) ∧ Aside0 (wc.heap[g5]? = some (.cells #[.int .i64 F_, .int .i64 n, .int .i64 0, .slice A3 l.length c3, .int .u16 v] 55 (0, 0))) ∧ Aside0 (wc.heap[g8]? = some (.cells #[.int .i64 0, .int .i64 0, .int .i64 0, .slice none 0 0, .int .u16 0] 55 (0, 0))) ∧ Aside0 (wc.heap[g10]? = some (.cells #[.int .i64 (rd_T27 m F_).f0, .int .i64 (rd_T27 m F_).f1, .slice (some ad2) (rd_T27 m F_).f2.length c1] 27 (0, 0))))
   case first =>
    go_wp2
    go_meet
    exact ⟨⟨below_set (below_set (below_set (HB.out) HLX5.out) HLX5.out) HLX5.out⟩, ⟨set_blk _ _ (set_blk _ _ (set_blk _ _ (X5.out) rfl) rfl) rfl⟩, ⟨(blk_far (blk_far (blk_far X8.out (p := ⟨g5, 1, none⟩) HN58.out.symm _) (p := ⟨g5, 2, none⟩) HN58.out.symm _) (p := ⟨g5, 4, none⟩) HN58.out.symm _)⟩, ⟨(blk_far (blk_far (blk_far X10.out (p := ⟨g5, 1, none⟩) HNE.out.1 _) (p := ⟨g5, 2, none⟩) HNE.out.1 _) (p := ⟨g5, 4, none⟩) HNE.out.1 _)⟩⟩
   case rest =>
    clear h0 zh0 h1 zh1 h2 zh2 h3 zh3 h4 zh4
    clear r0 zr0 r1 zr1 r2 zr2 r3 zr3 r4 zr4
    clear m0 m1 m2 z0 z1 HB X5 X8 X10
    obtain ⟨HB, X5, X8, X10⟩ := hcut
    have h0 := (blk_cell X5.out 0).trans rfl
    have h1 := (blk_cell X5.out 1).trans rfl
    have h2 := (blk_cell X5.out 2).trans rfl
    have h3 := (blk_cell X5.out 3).trans rfl
    have h4 := (blk_cell X5.out 4).trans rfl
    have r0 := (blk_cell X8.out 0).trans rfl
    have r1 := (blk_cell X8.out 1).trans rfl
    have r2 := (blk_cell X8.out 2).trans rfl
    have r3 := (blk_cell X8.out 3).trans rfl
    have r4 := (blk_cell X8.out 4).trans rfl
    have zr0 := blk_frozen X8.out 0
    have zr1 := blk_frozen X8.out 1
    have zr2 := blk_frozen X8.out 2
    have zr3 := blk_frozen X8.out 3
    have zr4 := blk_frozen X8.out 4
    have m0 := (blk_cell X10.out 0).trans rfl
    have m1 := (blk_cell X10.out 1).trans rfl
    have m2 := (blk_cell X10.out 2).trans rfl
    obtain ⟨ad3, _, _, _, _, _, _, e3, _, w1, _⟩ := at_T41 (Kd.C_below HC1.out HB.out) n HW.out.1 HW.out.2
    injection e3 with e3
    subst e3
    rw [show (rd_T41 (rd_T27 m F_).f2 n).f1.f0 = D from HDD.out] at w1
    go_wp2
    go_still_tail 9, (by kernel_rfl)
    go_wp2_with (go_at_call 74; go_loud ((with_reducible refine (with_r F_ n 0 A3 c3 l v D v _ (Kd.C_drew (Kd.C_below HL.out HB.out)) HC3.out HWIN.out (by have := HNN.out; omega)).mono ?_); rintro e w8 ⟨⟨Ao, co, rfl, hlo, hr⟩, hb⟩; have HLO := Aside0.mk hlo; have HRO := Aside0.mk (Kd.R_lower hr HB.out.size); have hb2 := (show Below wc.heap.size wc w8 from ⟨hb.os, hb.tape, hb.output, hb.size, hb.block⟩); clear r0 zr0 r1 zr1 r2 zr2 r3 zr3 r4 zr4; have n0_ := Aside0.mk (below_step HB.out hb2); have n1_ := Aside0.mk (blk_below X8.out hb2); clear HB X8; have HB := n0_; have X8 := n1_; clear n0_ n1_; clear hlo hr hb hb2; have r0 := (blk_cell X8.out 0).trans rfl; have r1 := (blk_cell X8.out 1).trans rfl; have r2 := (blk_cell X8.out 2).trans rfl; have r3 := (blk_cell X8.out 3).trans rfl; have r4 := (blk_cell X8.out 4).trans rfl; have zr0 := blk_frozen X8.out 0; have zr1 := blk_frozen X8.out 1; have zr2 := blk_frozen X8.out 2; have zr3 := blk_frozen X8.out 3; have zr4 := blk_frozen X8.out 4))
    refine bodyPost_ret (results_ct rfl _ _ g8 55 #[.int .i64 F_, .int .i64 n, .int .i64 0, .slice Ao l.length co, .int .u16 v] (0, 0) _ rfl (set_blk _ _ (set_blk _ _ (set_blk _ _ (set_blk _ _ (set_blk _ _ (X8.out) rfl) rfl) rfl) rfl) rfl) Try.underlying55 rfl (by kernel_rfl)) rfl ?_
    refine ⟨.inr ⟨HZ.out, Ao, co, rfl, HLO.out, ?_⟩, below_set (below_set (below_set (below_set (below_set (HB.out) HLX8.out) HLX8.out) HLX8.out) HLX8.out) HLX8.out⟩
    rw [HDD.out]
    exact setC (Kd.R_mono (Kd.R_far (p := ⟨g8, 4, none⟩) (Kd.R_far (p := ⟨g8, 3, none⟩) (Kd.R_far (p := ⟨g8, 2, none⟩) (Kd.R_far (p := ⟨g8, 1, none⟩) (Kd.R_far (p := ⟨g8, 0, none⟩) (C_farg HRO.out X8.out) (fun _ hk => hk.2) _) (fun _ hk => hk.2) _) (fun _ hk => hk.2) _) (fun _ hk => hk.2) _) (fun _ hk => hk.2) _) (fun _ _ => trivial))
end Go.Proofs.Ytbfialebaoeicaa.X
namespace Go.Proofs.Ytbfialebaoeicaa.G
open Go.Proofs.Ytbfialebaoeicaa.X Go.RowKit Go.Proofs.YtbfialebaoeicaaW.PrintWords
set_option linter.all false
def Evt {α : Type} (g : Nat → Option α) (r : α) : Prop := ∃ k0, ∀ k, k0 ≤ k → g k = some r
theorem Evt.succ {α : Type} {g : Nat → Option α} {r : α} (h : Evt (fun k => g (k + 1)) r) : Evt g r := by
 obtain ⟨k0, h⟩ := h
 refine ⟨k0 + 1, fun k hk => ?_⟩
 obtain ⟨j, rfl⟩ : ∃ j, k = j + 1 := ⟨k - 1, by omega⟩
 exact h j (by omega)
theorem Evt.bind {α β : Type} {g : Nat → Option α} {h : Nat → α → Option β} {a : α} {r : β} (h1 : Evt g a) (h2 : Evt (fun k => h k a) r) : Evt (fun k => (g k).bind (h k)) r := by
 obtain ⟨k1, h1⟩ := h1
 obtain ⟨k2, h2⟩ := h2
 refine ⟨k1 + k2, fun k hk => ?_⟩
 show (g k).bind (h k) = some r
 rw [h1 k (by omega)]
 exact h2 k (by omega)
theorem Evt.pure {α : Type} (r : α) : Evt (fun _ => some r) r := ⟨0, fun _ _ => rfl⟩
theorem Evt.congr {α : Type} {g g' : Nat → Option α} {r : α} (h : Evt g' r) (e : ∀ k, g k = g' k) : Evt g r := by
 obtain ⟨k0, h⟩ := h
 exact ⟨k0, fun k hk => (e k).trans (h k hk)⟩
theorem Evt.inj {α : Type} {g : Nat → Option α} {r s : α} (h1 : Evt g r) (h2 : Evt g s) : r = s := by
 obtain ⟨k1, h1⟩ := h1
 obtain ⟨k2, h2⟩ := h2
 have e1 := h1 (k1 + k2) (by omega)
 have e2 := h2 (k1 + k2) (by omega)
 rw [e1] at e2
 exact Option.some.inj e2
theorem wrap_small (n : Int) (h0 : -9223372036854775808 ≤ n) (h1 : n ≤ 9223372036854775807) : wrap64 n = n := by unfold wrap64; omega
theorem of_getD {α : Type} {l : List α} {x : α} (h : x ∈ l) (z : α) : ∃ k, k < l.length ∧ l.getD k z = x := by
 obtain ⟨k, hk, rfl⟩ := List.getElem_of_mem h
 exact ⟨k, hk, by rw [List.getD_eq_getElem?_getD, List.getElem?_eq_getElem hk]; rfl⟩
theorem cast_succ (i : Nat) : (((i + 1 : Nat)) : Int) = (i : Int) + 1 := by omega
end Go.Proofs.Ytbfialebaoeicaa.G
