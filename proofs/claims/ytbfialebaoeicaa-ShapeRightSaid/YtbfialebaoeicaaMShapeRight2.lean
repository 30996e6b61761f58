/- Part 3 of the proof of the statement ShapeRight: the words of the walks, the walks through the functions that it reaches, and the plain laws of what they compute. -/
import Derived.Test.YtbfialebaoeicaaMShapeRight1
import Derived.RegionTactic
import Derived.ChangeAlike
import Derived.Deep.QuietTactic
import Derived.BigQuiet
import Derived.Deep.MidRow
namespace Go.Proofs.Ytbfialebaoeicaa.X
open Go.RowKit Go.Proofs.YtbfialebaoeicaaW.PrintWords Go.Proofs.YtbfialebaoeicaaW.PrintLast Go.Proofs.YtbfialebaoeicaaW.PrintMore
attribute [local go_sem] max2_int min2_int max_two min_two max_three min_three max_four min_four
set_option linter.all false
noncomputable section
def shape_Goals.j0 : Nat → Int → Bool → Bool → Int → List Int → Bool → Bool → List (S49) → Int → Int → Int → Int → List Int → Int → Int → Int → Option (List Int)
 | 0, _, _, _, _, _, _, _, _, _, _, _, _, _, _, _, _ => none
 | k + 1, x5, x6, x107000, x107001, x107002, x107003, x107004, x107005, x107006, x107007, x107008, x107009, x107010, x107011, x107012, x107013 => if x6 = true then (some (([x107011] : List Int))) else (if x5 = 3 then (some (([x107011, x107012] : List Int))) else (some ([] : List Int)))
def shape_Goals.f (k : Nat) (a0_0 : Bool) (a0_1 : Int) (l0_2 : List Int) (a0_3 : Bool) (a0_4 : Bool) (l0_5 : List (S49)) (a0_6 : Int) (a0_7 : Int) (a0_8 : Int) (a0_9 : Int) (l0_10 : List Int) (a0_11 : Int) (a0_12 : Int) (a0_13 : Int) : Option (List Int) := if a0_6 = 2 then (shape_Goals.j0 k a0_6 (a0_6 == 2) a0_0 a0_1 l0_2 a0_3 a0_4 l0_5 a0_6 a0_7 a0_8 a0_9 l0_10 a0_11 a0_12 a0_13) else (shape_Goals.j0 k a0_6 (a0_6 == 4) a0_0 a0_1 l0_2 a0_3 a0_4 l0_5 a0_6 a0_7 a0_8 a0_9 l0_10 a0_11 a0_12 a0_13)
theorem shape_Goals.mono_l : ∀ k, (∀ y0 y1 y2 y3 y4 y5 y6 y7 y8 y9 y10 y11 y12 y13 y14 y15, LeO (shape_Goals.j0 k y0 y1 y2 y3 y4 y5 y6 y7 y8 y9 y10 y11 y12 y13 y14 y15) (shape_Goals.j0 (k + 1) y0 y1 y2 y3 y4 y5 y6 y7 y8 y9 y10 y11 y12 y13 y14 y15))
 | 0 => fun _ _ _ _ _ _ _ _ _ _ _ _ _ _ _ _ r h => by simp [shape_Goals.j0] at h
 | k + 1 => by
  have ih0 := shape_Goals.mono_l k
  ·intro y0 y1 y2 y3 y4 y5 y6 y7 y8 y9 y10 y11 y12 y13 y14 y15
   unfold shape_Goals.j0
   repeat' first
   | (with_reducible exact ih0 _ _ _ _ _ _ _ _ _ _ _ _ _ _ _ _)
   | (with_reducible exact LeO.refl _)
   | (with_reducible exact LeO.none _)
   | (with_reducible refine LeO.ite ?_ ?_)
   | (with_reducible refine LeO.bind ?_ (fun _ => ?_))
   | exact ih0 _ _ _ _ _ _ _ _ _ _ _ _ _ _ _ _
   | exact LeO.none _
   | refine LeO.ite ?_ ?_
   | refine LeO.bind ?_ (fun _ => ?_)
theorem shape_Goals.mono : ∀ a0 a1 a2 a3 a4 a5 a6 a7 a8 a9 a10 a11 a12 a13 k, LeO (shape_Goals.f k a0 a1 a2 a3 a4 a5 a6 a7 a8 a9 a10 a11 a12 a13) (shape_Goals.f (k + 1) a0 a1 a2 a3 a4 a5 a6 a7 a8 a9 a10 a11 a12 a13) := by
 intro a0 a1 a2 a3 a4 a5 a6 a7 a8 a9 a10 a11 a12 a13 k
 have ih0 := shape_Goals.mono_l k
 unfold shape_Goals.f
 repeat' first
   | (with_reducible exact ih0 _ _ _ _ _ _ _ _ _ _ _ _ _ _ _ _)
   | (with_reducible exact LeO.refl _)
   | (with_reducible exact LeO.none _)
   | (with_reducible refine LeO.ite ?_ ?_)
   | (with_reducible refine LeO.bind ?_ (fun _ => ?_))
   | exact ih0 _ _ _ _ _ _ _ _ _ _ _ _ _ _ _ _
   | exact LeO.none _
   | refine LeO.ite ?_ ?_
   | refine LeO.bind ?_ (fun _ => ?_)
set_option maxHeartbeats 8000000 in
set_option maxRecDepth 100000 in
theorem shape_Goals.calls (k : Nat) (a0_0 : Bool) (a0_1 : Int) (A0_2 : Option Addr) (c0_2 : Nat) (l0_2 : List Int) (a0_3 : Bool) (a0_4 : Bool) (A0_5 : Option Addr) (c0_5 : Nat) (l0_5 : List (S49)) (a0_6 : Int) (a0_7 : Int) (a0_8 : Int) (a0_9 : Int) (A0_10 : Option Addr) (c0_10 : Nat) (l0_10 : List Int) (a0_11 : Int) (a0_12 : Int) (a0_13 : Int) (r : List Int) (w : World) (hr0_2 : Kd.C (Kd.int .u16) w A0_2 l0_2.length l0_2) (hc0_2 : l0_2.length ≤ c0_2) (hr0_5 : Kd.C k49 w A0_5 l0_5.length l0_5) (hc0_5 : l0_5.length ≤ c0_5) (hr0_10 : Kd.C (Kd.int .i64) w A0_10 l0_10.length l0_10) (hc0_10 : l0_10.length ≤ c0_10) (h : shape_Goals.f k a0_0 a0_1 l0_2 a0_3 a0_4 l0_5 a0_6 a0_7 a0_8 a0_9 l0_10 a0_11 a0_12 a0_13 = some r) :
  Calls Try.prog 23 #[.agg #[.bool a0_0, .int .i64 a0_1, .slice A0_2 l0_2.length c0_2, .bool a0_3, .bool a0_4, .slice A0_5 l0_5.length c0_5, .int .i64 a0_6, .int .i64 a0_7, .int .i64 a0_8, .int .i64 a0_9, .slice A0_10 l0_10.length c0_10, .int .i64 a0_11, .int .i64 a0_12, .int .i64 a0_13]] w fun e w' => ∃ v0_ : Value, e = .returned (v0_) ∧ Kd.R (Kd.int .i64) 3 w' w.heap.size (fun _ => True) v0_ r ∧ Below w.heap.size w w' := by
 have hu41 := Try.underlying41
 have HR0_2 := Aside0.mk hr0_2
 have HC0_2 := Aside0.mk hc0_2
 clear hr0_2 hc0_2
 have HR0_5 := Aside0.mk hr0_5
 have HC0_5 := Aside0.mk hc0_5
 clear hr0_5 hc0_5
 have HR0_10 := Aside0.mk hr0_10
 have HC0_10 := Aside0.mk hc0_10
 clear hr0_10 hc0_10
 have HB := Aside0.mk (Below.refl w.heap.size w)
 have H : (if a0_6 = 2 then (shape_Goals.j0 k a0_6 (a0_6 == 2) a0_0 a0_1 l0_2 a0_3 a0_4 l0_5 a0_6 a0_7 a0_8 a0_9 l0_10 a0_11 a0_12 a0_13) else (shape_Goals.j0 k a0_6 (a0_6 == 4) a0_0 a0_1 l0_2 a0_3 a0_4 l0_5 a0_6 a0_7 a0_8 a0_9 l0_10 a0_11 a0_12 a0_13)) = some r := h
 clear h
 have HC2 := Aside0.mk H
 clear H
 go_enter Try.func23, Try.ntmps23
 go_upto_if 6 with (first | ((with_reducible refine gate_dst (N := 1) rfl ?_); refine box_event ?hg (N := 1) ?hd (cs := #[.bool a0_0, .int .i64 a0_1, .slice A0_2 l0_2.length c0_2, .bool a0_3, .bool a0_4, .slice A0_5 l0_5.length c0_5, .int .i64 a0_6, .int .i64 a0_7, .int .i64 a0_8, .int .i64 a0_9, .slice A0_10 l0_10.length c0_10, .int .i64 a0_11, .int .i64 a0_12, .int .i64 a0_13]) (t := 41) ?hr ?_; (case hd => rfl); (case hg => rfl); (case hr => first | (go_simp; done) | (go_simp; rfl)); intro gb106 hg w3 hbox hb; have n0_ := Aside0.mk (below_step (by repeat (first | (with_reducible first | exact HB.out | apply below_alloc | apply pw_below_drewN | apply below_drew1) | exact HB.out)) hb); have n1_ := Aside0.mk (hbox); have n2_ := Aside0.mk ((by rw [hg]; exact (below_size (by repeat (first | (with_reducible first | exact HB.out | apply below_alloc | apply pw_below_drewN | apply below_drew1) | exact HB.out))) : w.heap.size ≤ gb106)); have n3_ := Aside0.mk ((by rw [hg]; exact (below_size (by repeat (first | (with_reducible first | exact HB.out | apply below_alloc | apply pw_below_drewN | apply below_drew1) | exact HB.out))) : w.heap.size ≤ gb106)); clear HB; have HB := n0_; have BK106 := n1_; have GW106 := n2_; have GE106 := n3_; clear n0_ n1_ n2_ n3_; clear hb hbox hg; have hcz4_0 : w3.cell? ⟨gb106, 0, none⟩ = some (.bool a0_0) := (blk_cell BK106.out 0).trans rfl; have hcz4_1 : w3.cell? ⟨gb106, 1, none⟩ = some (.int .i64 a0_1) := (blk_cell BK106.out 1).trans rfl; have hcz4_2 : w3.cell? ⟨gb106, 2, none⟩ = some (.slice A0_2 l0_2.length c0_2) := (blk_cell BK106.out 2).trans rfl; have hcz4_3 : w3.cell? ⟨gb106, 3, none⟩ = some (.bool a0_3) := (blk_cell BK106.out 3).trans rfl; have hcz4_4 : w3.cell? ⟨gb106, 4, none⟩ = some (.bool a0_4) := (blk_cell BK106.out 4).trans rfl; have hcz4_5 : w3.cell? ⟨gb106, 5, none⟩ = some (.slice A0_5 l0_5.length c0_5) := (blk_cell BK106.out 5).trans rfl; have hcz4_6 : w3.cell? ⟨gb106, 6, none⟩ = some (.int .i64 a0_6) := (blk_cell BK106.out 6).trans rfl; have hcz4_7 : w3.cell? ⟨gb106, 7, none⟩ = some (.int .i64 a0_7) := (blk_cell BK106.out 7).trans rfl; have hcz4_8 : w3.cell? ⟨gb106, 8, none⟩ = some (.int .i64 a0_8) := (blk_cell BK106.out 8).trans rfl; have hcz4_9 : w3.cell? ⟨gb106, 9, none⟩ = some (.int .i64 a0_9) := (blk_cell BK106.out 9).trans rfl; have hcz4_10 : w3.cell? ⟨gb106, 10, none⟩ = some (.slice A0_10 l0_10.length c0_10) := (blk_cell BK106.out 10).trans rfl; have hcz4_11 : w3.cell? ⟨gb106, 11, none⟩ = some (.int .i64 a0_11) := (blk_cell BK106.out 11).trans rfl; have hcz4_12 : w3.cell? ⟨gb106, 12, none⟩ = some (.int .i64 a0_12) := (blk_cell BK106.out 12).trans rfl; have hcz4_13 : w3.cell? ⟨gb106, 13, none⟩ = some (.int .i64 a0_13) := (blk_cell BK106.out 13).trans rfl; obtain ⟨hfz4_0, hfz4_1, hfz4_2, hfz4_3, hfz4_4, hfz4_5, hfz4_6, hfz4_7, hfz4_8, hfz4_9, hfz4_10, hfz4_11, hfz4_12, hfz4_13⟩ := fz14 BK106.out))
 (try simp only [Act.put, sA_, sZ_, sS_])
 go_cut [6] (fun v6 wc => ∃ (kq : Nat) (x6_1 : Bool), v6 = .bool x6_1 ∧ Aside0 (shape_Goals.j0 kq a0_6 x6_1 a0_0 a0_1 l0_2 a0_3 a0_4 l0_5 a0_6 a0_7 a0_8 a0_9 l0_10 a0_11 a0_12 a0_13 = some r) ∧ Aside0 (kq ≤ k) ∧ Aside0 (wc.heap[gb106]? = some (.cells #[.bool a0_0, .int .i64 a0_1, (.slice A0_2 l0_2.length c0_2), .bool a0_3, .bool a0_4, (.slice A0_5 l0_5.length c0_5), .int .i64 a0_6, .int .i64 a0_7, .int .i64 a0_8, .int .i64 a0_9, (.slice A0_10 l0_10.length c0_10), .int .i64 a0_11, .int .i64 a0_12, .int .i64 a0_13] 41 (0, 0))) ∧ Aside0 (Below w.heap.size w wc))
 case first =>
  have H := HC2.out
  clear HC2
  by_cases c5 : a0_6 = 2
  ·rw [if_pos c5] at H
   have c5b0 : (a0_6 == 2) = true := beq_iff_eq.mpr c5
   have c5b1 : (a0_6 != 2) = false := bne_eq_false_iff_eq.mpr c5
   clear c5
   (first | rw [c5b0] | (simp only [i64_w, i32_w]; rw [c5b0]) | skip)
   have H' := Aside0.mk H
   clear H
   go_wp2
   go_meet
   case rel => exact ⟨_, ((a0_6 == 2)), (by first | rfl | (simp; done) | (simp [*]; done)), H', ⟨by first | omega | exact Nat.le_refl _⟩, ⟨by (with_reducible repeat (first | refine blk_drewN ?_ _ | refine blk_drew ?_ | refine blk_alloc ?_ _)); exact BK106.out⟩, ⟨by repeat (first | (with_reducible first | exact HB.out | apply below_alloc | apply pw_below_drewN | apply below_drew1 | refine below_set ?_ GE106.out) | exact HB.out)⟩⟩
  ·rw [if_neg c5] at H
   have c5b0 : (a0_6 == 2) = false := beq_eq_false_iff_ne.mpr c5
   have c5b1 : (a0_6 != 2) = true := bne_iff_ne.mpr c5
   (first | rw [c5b0] | (simp only [i64_w, i32_w]; rw [c5b0]) | skip)
   have H' := Aside0.mk H
   clear H
   go_wp2
   go_meet
   case rel => exact ⟨_, ((a0_6 == 4)), (by first | rfl | (simp; done) | (simp [*]; done)), H', ⟨by first | omega | exact Nat.le_refl _⟩, ⟨by (with_reducible repeat (first | refine blk_drewN ?_ _ | refine blk_drew ?_ | refine blk_alloc ?_ _)); exact BK106.out⟩, ⟨by repeat (first | (with_reducible first | exact HB.out | apply below_alloc | apply pw_below_drewN | apply below_drew1 | refine below_set ?_ GE106.out) | exact HB.out)⟩⟩
 case rest =>
  clear HC2
  try clear c2
  try clear p2
  try clear c5
  try clear c5b0
  try clear c5b1
  try clear hcz4_0
  try clear hcz4_1
  try clear hcz4_10
  try clear hcz4_11
  try clear hcz4_12
  try clear hcz4_13
  try clear hcz4_2
  try clear hcz4_3
  try clear hcz4_4
  try clear hcz4_5
  try clear hcz4_6
  try clear hcz4_7
  try clear hcz4_8
  try clear hcz4_9
  try clear hfz4_0
  try clear hfz4_1
  try clear hfz4_10
  try clear hfz4_11
  try clear hfz4_12
  try clear hfz4_13
  try clear hfz4_2
  try clear hfz4_3
  try clear hfz4_4
  try clear hfz4_5
  try clear hfz4_6
  try clear hfz4_7
  try clear hfz4_8
  try clear hfz4_9
  obtain ⟨kq, x6_1, rfl, HA, HJ1, BK106, HB⟩ := hcut
  cases kq with
  | zero => exact absurd HA.out (by simp [shape_Goals.j0])
  | succ kj1 =>
   have H := HA.out
   clear HA
   simp only [shape_Goals.j0] at H
   by_cases c6 : x6_1 = true
   ·subst c6
    have H1 : (some (([a0_11] : List Int))) = some r := by rw [if_pos rfl] at H; exact H
    clear H
    have H := H1
    clear H1
    obtain ⟨y107, hy107⟩ : ∃ y_ : List Int, y_ = (([a0_11] : List Int)) := ⟨_, rfl⟩
    replace H : (some y107) = some r := by first | (rw [hy107]; with_reducible exact H) | (have H2_ := (Option.bind_some _ _).symm.trans H; rw [hy107]; with_reducible exact H2_) | (have H2_ := (Option.bind_some _ _).symm.trans H; with_reducible exact H2_) | with_reducible exact H | (rw [hy107]; exact H) | exact H
    have Ny107 := Aside0.mk hy107
    clear hy107
    obtain rfl := Option.some.inj H
    have hcz7_0 : wc.cell? ⟨gb106, 0, none⟩ = some (.bool a0_0) := (blk_cell BK106.out 0).trans rfl
    have hcz7_1 : wc.cell? ⟨gb106, 1, none⟩ = some (.int .i64 a0_1) := (blk_cell BK106.out 1).trans rfl
    have hcz7_2 : wc.cell? ⟨gb106, 2, none⟩ = some (.slice A0_2 l0_2.length c0_2) := (blk_cell BK106.out 2).trans rfl
    have hcz7_3 : wc.cell? ⟨gb106, 3, none⟩ = some (.bool a0_3) := (blk_cell BK106.out 3).trans rfl
    have hcz7_4 : wc.cell? ⟨gb106, 4, none⟩ = some (.bool a0_4) := (blk_cell BK106.out 4).trans rfl
    have hcz7_5 : wc.cell? ⟨gb106, 5, none⟩ = some (.slice A0_5 l0_5.length c0_5) := (blk_cell BK106.out 5).trans rfl
    have hcz7_6 : wc.cell? ⟨gb106, 6, none⟩ = some (.int .i64 a0_6) := (blk_cell BK106.out 6).trans rfl
    have hcz7_7 : wc.cell? ⟨gb106, 7, none⟩ = some (.int .i64 a0_7) := (blk_cell BK106.out 7).trans rfl
    have hcz7_8 : wc.cell? ⟨gb106, 8, none⟩ = some (.int .i64 a0_8) := (blk_cell BK106.out 8).trans rfl
    have hcz7_9 : wc.cell? ⟨gb106, 9, none⟩ = some (.int .i64 a0_9) := (blk_cell BK106.out 9).trans rfl
    have hcz7_10 : wc.cell? ⟨gb106, 10, none⟩ = some (.slice A0_10 l0_10.length c0_10) := (blk_cell BK106.out 10).trans rfl
    have hcz7_11 : wc.cell? ⟨gb106, 11, none⟩ = some (.int .i64 a0_11) := (blk_cell BK106.out 11).trans rfl
    have hcz7_12 : wc.cell? ⟨gb106, 12, none⟩ = some (.int .i64 a0_12) := (blk_cell BK106.out 12).trans rfl
    have hcz7_13 : wc.cell? ⟨gb106, 13, none⟩ = some (.int .i64 a0_13) := (blk_cell BK106.out 13).trans rfl
    obtain ⟨hfz7_0, hfz7_1, hfz7_2, hfz7_3, hfz7_4, hfz7_5, hfz7_6, hfz7_7, hfz7_8, hfz7_9, hfz7_10, hfz7_11, hfz7_12, hfz7_13⟩ := fz14 BK106.out
    go_wp2_with (first | ((with_reducible refine gate_dst (N := 12) rfl ?_); refine Kd.R_lit (Kd.int .i64) _ 3 ?hg (N := 12) ?hd (xs := ([a0_11] : List Int)) (inner := [.int .i64 a0_11]) (ok := fun _ => True) (okp := fun _ => True) ?hr ?hp (fun _ hk => hk) trivial (Below.refl _ _) (Nat.le_refl _) (by simp) ?_; (case hd => rfl); (case hg => rfl); (case hr => first | (go_simp; done) | (go_simp; rfl)); (case hp => exact (Reps.one (show Kd.M (Kd.int .i64) _ _ _ a0_11 [.int .i64 a0_11] from rfl) (Reps.none _ _))); intro v108 w8 ho9 hb hg_ hnew_; clear hg_ hnew_; (first | rw [← Ny107.out] at ho9 | (simp only [Int.reduceToNat] at ho9; rw [← Ny107.out] at ho9)); have n0_ := Aside0.mk (Kd.R_lower ho9 (below_size (by repeat (first | (with_reducible first | exact HB.out | apply below_alloc | apply pw_below_drewN | apply below_drew1 | refine below_set ?_ GE106.out) | exact HB.out)))); have n1_ := Aside0.mk (blk_below (g := gb106) (o := .cells #[.bool a0_0, .int .i64 a0_1, .slice A0_2 l0_2.length c0_2, .bool a0_3, .bool a0_4, .slice A0_5 l0_5.length c0_5, .int .i64 a0_6, .int .i64 a0_7, .int .i64 a0_8, .int .i64 a0_9, .slice A0_10 l0_10.length c0_10, .int .i64 a0_11, .int .i64 a0_12, .int .i64 a0_13] 41 (0, 0)) (by (with_reducible repeat (first | refine blk_drewN ?_ _ | refine blk_drew ?_ | refine blk_alloc ?_ _)); exact BK106.out) hb); have n2_ := Aside0.mk (below_step (by repeat (first | (with_reducible first | exact HB.out | apply below_alloc | apply pw_below_drewN | apply below_drew1 | refine below_set ?_ GE106.out) | exact HB.out)) hb); clear BK106; clear HB; have HO109 := n0_; have BK106 := n1_; have HB := n2_; clear n0_ n1_ n2_; clear hb ho9))
    go_ret
    exact ⟨_, by first | rfl | (simp [errW_none, errW_some] <;> rfl) | (simp [*, errW_none, errW_some] <;> rfl), by (with_reducible repeat (first | apply Kd.R_alloc | apply Kd.R_drewN | apply Kd.R_drew)); exact HO109.out, by repeat (first | (with_reducible first | exact HB.out | apply below_alloc | apply pw_below_drewN | apply below_drew1 | refine below_set ?_ GE106.out) | exact HB.out)⟩
   ·replace c6 := Bool.eq_false_iff.mpr c6
    subst c6
    have H1 : (if a0_6 = 3 then (some (([a0_11, a0_12] : List Int))) else (some ([] : List Int))) = some r := by rw [if_neg (show ¬ (false = true) by decide)] at H; exact H
    clear H
    have H := H1
    clear H1
    by_cases c10 : a0_6 = 3
    ·rw [if_pos c10] at H
     have c10b0 : (a0_6 == 3) = true := beq_iff_eq.mpr c10
     have c10b1 : (a0_6 != 3) = false := bne_eq_false_iff_eq.mpr c10
     clear c10
     obtain ⟨y110, hy110⟩ : ∃ y_ : List Int, y_ = (([a0_11, a0_12] : List Int)) := ⟨_, rfl⟩
     replace H : (some y110) = some r := by first | (rw [hy110]; with_reducible exact H) | (have H2_ := (Option.bind_some _ _).symm.trans H; rw [hy110]; with_reducible exact H2_) | (have H2_ := (Option.bind_some _ _).symm.trans H; with_reducible exact H2_) | with_reducible exact H | (rw [hy110]; exact H) | exact H
     have Ny110 := Aside0.mk hy110
     clear hy110
     obtain rfl := Option.some.inj H
     have hcz11_0 : wc.cell? ⟨gb106, 0, none⟩ = some (.bool a0_0) := (blk_cell BK106.out 0).trans rfl
     have hcz11_1 : wc.cell? ⟨gb106, 1, none⟩ = some (.int .i64 a0_1) := (blk_cell BK106.out 1).trans rfl
     have hcz11_2 : wc.cell? ⟨gb106, 2, none⟩ = some (.slice A0_2 l0_2.length c0_2) := (blk_cell BK106.out 2).trans rfl
     have hcz11_3 : wc.cell? ⟨gb106, 3, none⟩ = some (.bool a0_3) := (blk_cell BK106.out 3).trans rfl
     have hcz11_4 : wc.cell? ⟨gb106, 4, none⟩ = some (.bool a0_4) := (blk_cell BK106.out 4).trans rfl
     have hcz11_5 : wc.cell? ⟨gb106, 5, none⟩ = some (.slice A0_5 l0_5.length c0_5) := (blk_cell BK106.out 5).trans rfl
     have hcz11_6 : wc.cell? ⟨gb106, 6, none⟩ = some (.int .i64 a0_6) := (blk_cell BK106.out 6).trans rfl
     have hcz11_7 : wc.cell? ⟨gb106, 7, none⟩ = some (.int .i64 a0_7) := (blk_cell BK106.out 7).trans rfl
     have hcz11_8 : wc.cell? ⟨gb106, 8, none⟩ = some (.int .i64 a0_8) := (blk_cell BK106.out 8).trans rfl
     have hcz11_9 : wc.cell? ⟨gb106, 9, none⟩ = some (.int .i64 a0_9) := (blk_cell BK106.out 9).trans rfl
     have hcz11_10 : wc.cell? ⟨gb106, 10, none⟩ = some (.slice A0_10 l0_10.length c0_10) := (blk_cell BK106.out 10).trans rfl
     have hcz11_11 : wc.cell? ⟨gb106, 11, none⟩ = some (.int .i64 a0_11) := (blk_cell BK106.out 11).trans rfl
     have hcz11_12 : wc.cell? ⟨gb106, 12, none⟩ = some (.int .i64 a0_12) := (blk_cell BK106.out 12).trans rfl
     have hcz11_13 : wc.cell? ⟨gb106, 13, none⟩ = some (.int .i64 a0_13) := (blk_cell BK106.out 13).trans rfl
     obtain ⟨hfz11_0, hfz11_1, hfz11_2, hfz11_3, hfz11_4, hfz11_5, hfz11_6, hfz11_7, hfz11_8, hfz11_9, hfz11_10, hfz11_11, hfz11_12, hfz11_13⟩ := fz14 BK106.out
     go_wp2_with (first | ((with_reducible refine gate_dst (N := 21) rfl ?_); refine Kd.R_lit (Kd.int .i64) _ 3 ?hg (N := 21) ?hd (xs := ([a0_11, a0_12] : List Int)) (inner := [.int .i64 a0_11, .int .i64 a0_12]) (ok := fun _ => True) (okp := fun _ => True) ?hr ?hp (fun _ hk => hk) trivial (Below.refl _ _) (Nat.le_refl _) (by simp) ?_; (case hd => rfl); (case hg => rfl); (case hr => first | (go_simp; done) | (go_simp; rfl)); (case hp => exact (Reps.one (show Kd.M (Kd.int .i64) _ _ _ a0_11 [.int .i64 a0_11] from rfl) (Reps.one (show Kd.M (Kd.int .i64) _ _ _ a0_12 [.int .i64 a0_12] from rfl) (Reps.none _ _)))); intro v111 w12 ho13 hb hg_ hnew_; clear hg_ hnew_; (first | rw [← Ny110.out] at ho13 | (simp only [Int.reduceToNat] at ho13; rw [← Ny110.out] at ho13)); have n0_ := Aside0.mk (Kd.R_lower ho13 (below_size (by repeat (first | (with_reducible first | exact HB.out | apply below_alloc | apply pw_below_drewN | apply below_drew1 | refine below_set ?_ GE106.out) | exact HB.out)))); have n1_ := Aside0.mk (blk_below (g := gb106) (o := .cells #[.bool a0_0, .int .i64 a0_1, .slice A0_2 l0_2.length c0_2, .bool a0_3, .bool a0_4, .slice A0_5 l0_5.length c0_5, .int .i64 a0_6, .int .i64 a0_7, .int .i64 a0_8, .int .i64 a0_9, .slice A0_10 l0_10.length c0_10, .int .i64 a0_11, .int .i64 a0_12, .int .i64 a0_13] 41 (0, 0)) (by (with_reducible repeat (first | refine blk_drewN ?_ _ | refine blk_drew ?_ | refine blk_alloc ?_ _)); exact BK106.out) hb); have n2_ := Aside0.mk (below_step (by repeat (first | (with_reducible first | exact HB.out | apply below_alloc | apply pw_below_drewN | apply below_drew1 | refine below_set ?_ GE106.out) | exact HB.out)) hb); clear BK106; clear HB; have HO112 := n0_; have BK106 := n1_; have HB := n2_; clear n0_ n1_ n2_; clear hb ho13))
     go_ret
     exact ⟨_, by first | rfl | (simp [errW_none, errW_some] <;> rfl) | (simp [*, errW_none, errW_some] <;> rfl), by (with_reducible repeat (first | apply Kd.R_alloc | apply Kd.R_drewN | apply Kd.R_drew)); exact HO112.out, by repeat (first | (with_reducible first | exact HB.out | apply below_alloc | apply pw_below_drewN | apply below_drew1 | refine below_set ?_ GE106.out) | exact HB.out)⟩
    ·rw [if_neg c10] at H
     have c10b0 : (a0_6 == 3) = false := beq_eq_false_iff_ne.mpr c10
     have c10b1 : (a0_6 != 3) = true := bne_iff_ne.mpr c10
     obtain rfl := Option.some.inj H
     go_wp2
     go_ret
     exact ⟨_, by first | rfl | (simp [errW_none, errW_some] <;> rfl) | (simp [*, errW_none, errW_some] <;> rfl), by first | exact Kd.R_nil _ _ _ _ _ | exact Kd.N_nil _ _ _ _ _ | exact Kd.V_nil _ _ _ _ _ | exact Kd.Q_nil _ _ _ _ _ | exact Kd.S_nil _ _ _ _ _, by repeat (first | (with_reducible first | exact HB.out | apply below_alloc | apply pw_below_drewN | apply below_drew1 | refine below_set ?_ GE106.out) | exact HB.out)⟩
end
end Go.Proofs.Ytbfialebaoeicaa.X
namespace Go.Proofs.Ytbfialebaoeicaa.X
open Go.RowKit Go.Proofs.YtbfialebaoeicaaW.PrintWords Go.Proofs.YtbfialebaoeicaaW.PrintLast Go.Proofs.YtbfialebaoeicaaW.PrintMore
set_option linter.all false
theorem Q_append_rows {P : Program} {ops : Array Oper} {rest : List Oper} {o : Oper} {a : Act} {Q' : Exit → Act → World → Prop} {α : Type} (enc : α → Value) {h1 : ∀ x : α, (enc x).oneCell' = true} {w0 W : World} (base : Nat) (hgd : o.guard = none) (s x : Operand) (t e : TypeId) (z : Value) (bytes : Nat)
  (ho : o.op = .call { callee := .builtin .append, args := #[s, x], argTypes := #[t, t] })
  (ht : P.underlying t = some (.slice e)) (hinfo : (P.info? e).map (fun i => (i.zero, i.size, i.bytes)) = some (some z, 1, bytes)) (hz : z.cells.size = 1) (hb0 : 0 < bytes)
  (v : Value) (xs ys : List α) (A : Option Addr) (m c : Nat) (ok : Nat → Prop) (hs : a.eval s = v) (hx : a.eval x = .slice A m c) (hfresh : ∀ k, W.heap.size ≤ k → ok k)
  (HO : (Kd.scalar enc h1).Q e W base ok v xs) (HR : (Kd.scalar enc h1).C W A m ys) (HB : Below base w0 W) (hbase : base ≤ W.heap.size) (hl : (xs.length + m) * bytes ≤ 140737488355328)
  (h : ∀ v1 w1, (Kd.scalar enc h1).Q e w1 base ok v1 (xs ++ ys) → Below base w0 w1 → W.grownBy w1 v.ownBlock → (v1.ownBlock = v.ownBlock ∨ ∃ b, v1.ownBlock = some b ∧ W.heap.size ≤ b) → wpList P ops Q' rest (a.put o.dst v1) w1) :
  wpList P ops Q' (o :: rest) a W := by
 obtain ⟨i0, hi, hzz⟩ := Option.map_eq_some_iff.1 hinfo
 simp only [Prod.mk.injEq] at hzz
 obtain ⟨hz0, hz1, hz2⟩ := hzz
 have hm : ys.length = m := HR.1
 have hlen : xs.length + m ≤ 140737488355328 := Nat.le_trans (Nat.le_mul_of_pos_right _ hb0) hl
 obtain ⟨hok, inner, hown, hr⟩ := HO
 have hrun : ∃ v1 w1, (Builtin.append_ #[t, t] o.type #[v, .slice A m c]).run P W = .ok v1 w1 ∧ (Kd.scalar enc h1).Q e w1 base ok v1 (xs ++ ys) ∧ W.grownBy w1 v.ownBlock ∧ (v1.ownBlock = v.ownBlock ∨ ∃ b, v1.ownBlock = some b ∧ W.heap.size ≤ b) := by
  rcases Nat.eq_zero_or_pos m with h0 | hpos
  ·subst h0
   obtain rfl : ys = [] := List.eq_nil_of_length_eq_zero hm
   refine ⟨v, W, ?_, by rw [List.append_nil]; exact ⟨hok, inner, hown, hr⟩, World.grownBy.refl W _, .inl rfl⟩
   rcases hown.2 with ⟨hn, A', rfl, _⟩ | ⟨g, off, cap, cur, rfl, _, _, hnc, _⟩
   ·cases A <;> cases A' <;> simp [Builtin.append_, run_underlying ht, sizeOf, typeInfo, hi, Builtin.lenOf, Builtin.firstCells, storeCells, loadCells, loadCellsFrom, Result.andThen]
   ·cases A <;> simp [Builtin.append_, run_underlying ht, sizeOf, typeInfo, hi, Builtin.lenOf, Builtin.firstCells, hnc, storeCells, loadCells, loadCellsFrom, Result.andThen]
  ·obtain ⟨ad, rfl, _⟩ := HR.2.2 hpos
   obtain ⟨news, hnr, hnc⟩ := ReadsRow.inner_ HR
   have hone : ∀ u ∈ news, u.oneCell' = true := fun u hu => by
    obtain ⟨q, hq, rfl⟩ := List.mem_iff_getElem.1 hu
    have hl1 : news.length = ys.length := by rw [hnr.1]; exact Nat.mul_one _
    have hc := hnr.2 q _ (List.getElem?_eq_getElem (by omega : q < ys.length))
    have hc2 : (news.drop (q * 1)).take 1 = [enc ys[q]] := hc
    rw [Nat.mul_one] at hc2
    have h3 : ((news.drop q).take 1)[0]? = some news[q] := by rw [List.getElem?_take, if_pos Nat.one_pos, List.getElem?_drop]; exact List.getElem?_eq_getElem hq
    rw [hc2] at h3
    have h4 : enc ys[q] = news[q] := by simpa using h3
    rw [← h4]
    exact h1 _
   obtain ⟨v1, w1, hrun, h2, hg, hat⟩ := q_append (P := P) W base t o.type e i0 z 1 bytes ht hi hz0 hz1 hz2 hz Nat.one_pos v xs.length inner hown ad m c news (by rw [hnr.1, hm]; rfl) hnc hone hpos (by simp only [maxLen]; omega) hl hbase
   refine ⟨v1, w1, hrun, ⟨fun k hk => ?_, inner ++ news, by rw [List.length_append, hm]; exact h2, by exact Kd.reps_append (R := fun x cs => cs = [enc x]) (size := 1) hr hnr⟩, hg, hat⟩
   rcases hat with hat | ⟨b, hb, hle⟩
   ·exact hok k (hat ▸ hk)
   ·rw [hb] at hk
    injection hk with hk
    exact hfresh k (by omega)
 obtain ⟨v1, w1, hr1, h2, hg, hat⟩ := hrun
 refine wpList_plain hgd fun K hK => ?_
 unfold Oper.wp execOp
 simp only [ho, resolve, invoke, builtin, Sem.run_bind, Sem.run_pure, Result.andThen_ok, List.map_toArray, List.map_cons, List.map_nil, hs, hx, hr1]
 exact hK _ _ (h v1 w1 h2 (HB.grown hg hbase (fun k hk => (q_typed hown k hk).1)) hg hat)
end Go.Proofs.Ytbfialebaoeicaa.X
namespace Go.Proofs.Ytbfialebaoeicaa.Cl
set_option linter.all false
inductive Rch (n : Nat) (st : Nat → Bool) (gs : Nat → List Int) : Nat → Prop
 | st {i : Nat} (hi : i < n) (hs : st i = true) : Rch n st gs i
 | go {i j : Nat} (hr : Rch n st gs i) (hj : (j : Int) ∈ gs i) (hl : j < n) : Rch n st gs j
abbrev gt (out : List Bool) (i : Nat) : Bool := out.getD i false
theorem gt_lt {out : List Bool} {i : Nat} (h : gt out i = true) : i < out.length := by
 rcases Nat.lt_or_ge i out.length with hl | hl
 ·exact hl
 ·simp [gt, List.getD_eq_getElem?_getD, List.getElem?_eq_none hl] at h
theorem gt_set {out : List Bool} {k i : Nat} (hk : k < out.length) : gt (out.set k true) i = true ↔ i = k ∨ gt out i = true := by
 by_cases h : k = i
 ·subst h
  simp [gt, List.getD_eq_getElem?_getD, List.getElem?_set_self hk]
 ·simp [gt, List.getD_eq_getElem?_getD, List.getElem?_set_ne h, Ne.symm h]
def cf : List Bool → Nat
 | [] => 0
 | b :: l => (if b = true then 0 else 1) + cf l
theorem cf_le_len : ∀ l : List Bool, cf l ≤ l.length
 | [] => Nat.le_refl _
 | b :: l => by have := cf_le_len l; simp only [cf, List.length_cons]; split <;> omega
theorem cf_set : ∀ (l : List Bool) (k : Nat), k < l.length → gt l k = false → cf (l.set k true) + 1 = cf l
 | [], k, hk, _ => by simp at hk
 | b :: l, 0, _, hg => by
  have hb : b = false := by simpa [gt] using hg
  subst hb
  simp [cf]; omega
 | b :: l, k + 1, hk, hg => by
  have h := cf_set l k (by simpa using hk) (by simpa [gt] using hg)
  simp only [List.set_cons_succ, cf]
  omega
theorem cf_replicate (n : Nat) : cf (List.replicate n false) = n := by
 induction n with
 | zero => rfl
 | succ n ih => simp [List.replicate_succ, cf, ih]; omega
def ole (a b : List Bool) : Prop := a.length = b.length ∧ ∀ i, gt a i = true → gt b i = true
theorem ole_refl (a : List Bool) : ole a a := ⟨rfl, fun _ h => h⟩
theorem ole_set {a b : List Bool} (h : ole a b) {k : Nat} (hk : k < b.length) : ole a (b.set k true) :=
 ⟨by rw [List.length_set]; exact h.1, fun i hi => (gt_set hk).2 (.inr (h.2 i hi))⟩
theorem ole_cf : ∀ (a b : List Bool), ole a b → cf b ≤ cf a ∧ (cf b = cf a → b = a)
 | [], [], _ => ⟨Nat.le_refl _, fun _ => rfl⟩
 | [], _ :: _, h => by simp [ole] at h
 | _ :: _, [], h => by simp [ole] at h
 | x :: a, y :: b, h => by
  have hr : ole a b := ⟨by simpa using h.1, fun i hi => by simpa [gt] using h.2 (i + 1) (by simpa [gt] using hi)⟩
  obtain ⟨h1, h2⟩ := ole_cf a b hr
  have h0 : x = true → y = true := fun hx => by simpa [gt] using h.2 0 (by simpa [gt] using hx)
  simp only [cf]
  cases x <;> cases y <;> simp at h0 ⊢
  ·exact ⟨h1, fun e => h2 (by omega)⟩
  ·exact ⟨by omega, fun e => by omega⟩
  ·exact ⟨h1, h2⟩
theorem cf_zero : ∀ (l : List Bool), cf l = 0 → ∀ i, i < l.length → gt l i = true
 | [], _, i, hi => by simp at hi
 | b :: l, h, i, hi => by
  simp only [cf] at h
  cases b with
  | false => simp at h
  | true =>
   cases i with
   | zero => rfl
   | succ i => simpa [gt] using cf_zero l (by simpa using h) i (by simpa using hi)
section
variable {n : Nat} {st : Nat → Bool} {gs : Nat → List Int} {out : List Bool} {todo r : List Int} {x : Int}
structure Inv (n : Nat) (st : Nat → Bool) (gs : Nat → List Int) (out : List Bool) (todo : List Int) : Prop where
 len : out.length = n
 so : ∀ i, gt out i = true → Rch n st gs i
 td : ∀ i : Nat, (i : Int) ∈ todo → i < n → Rch n st gs i
 sr : ∀ i, i < n → st i = true → gt out i = true ∨ (i : Int) ∈ todo
 cl : ∀ i j : Nat, gt out i = true → (j : Int) ∈ gs i → j < n → gt out j = true ∨ (j : Int) ∈ todo
theorem Inv.skip (h : Inv n st gs out (x :: r)) (hx : x < 0 ∨ (n : Int) ≤ x ∨ gt out x.toNat = true) : Inv n st gs out r := by
 have key : ∀ i : Nat, i < n → gt out i = true ∨ (i : Int) ∈ x :: r → gt out i = true ∨ (i : Int) ∈ r := by
  intro i hi h1
  rcases h1 with h1 | h1
  ·exact .inl h1
  ·rcases List.mem_cons.1 h1 with h2 | h2
   ·rcases hx with hx | hx | hx
    ·omega
    ·omega
    ·rw [show x.toNat = i by omega] at hx; exact .inl hx
   ·exact .inr h2
 exact ⟨h.len, h.so, fun i hi hl => h.td i (List.mem_cons_of_mem _ hi) hl, fun i hi hs => key i hi (h.sr i hi hs), fun i j hi hj hl => key j hl (h.cl i j hi hj hl)⟩
theorem Inv.mark (h : Inv n st gs out (x :: r)) (h0 : 0 ≤ x) (h1 : x < n) : Inv n st gs (out.set x.toNat true) (r ++ gs x.toNat) := by
 have hk : x.toNat < out.length := by rw [h.len]; omega
 have hxr : Rch n st gs x.toNat := h.td x.toNat (by rw [Int.toNat_of_nonneg h0]; exact List.mem_cons_self) (by omega)
 have key : ∀ i : Nat, i < n → gt out i = true ∨ (i : Int) ∈ x :: r → gt (out.set x.toNat true) i = true ∨ (i : Int) ∈ r ++ gs x.toNat := by
  intro i hi h1
  rcases h1 with h1 | h1
  ·exact .inl ((gt_set hk).2 (.inr h1))
  ·rcases List.mem_cons.1 h1 with h2 | h2
   ·exact .inl ((gt_set hk).2 (.inl (by omega)))
   ·exact .inr (List.mem_append_left _ h2)
 refine ⟨by rw [List.length_set]; exact h.len, fun i hi => ?_, fun i hi hl => ?_, fun i hi hs => key i hi (h.sr i hi hs), fun i j hi hj hl => ?_⟩
 ·rcases (gt_set hk).1 hi with rfl | hi
  ·exact hxr
  ·exact h.so i hi
 ·rcases List.mem_append.1 hi with hi | hi
  ·exact h.td i (List.mem_cons_of_mem _ hi) hl
  ·exact .go hxr hi hl
 ·rcases (gt_set hk).1 hi with rfl | hi
  ·exact .inr (List.mem_append_right _ hj)
  ·exact key j hl (h.cl i j hi hj hl)
theorem Inv.done (h : Inv n st gs out []) (i : Nat) (hi : i < n) : gt out i = true ↔ Rch n st gs i := by
 refine ⟨h.so i, fun hr => ?_⟩
 clear hi
 induction hr with
 | st hi hs => rcases h.sr _ hi hs with h1 | h1; exact h1; cases h1
 | go _ hj hl ih => rcases h.cl _ _ ih hj hl with h1 | h1; exact h1; cases h1
theorem Inv.start (h1 : ∀ i : Nat, i < n → st i = true → (i : Int) ∈ todo) (h2 : ∀ i : Nat, (i : Int) ∈ todo → st i = true) : Inv n st gs (List.replicate n false) todo := by
 have no : ∀ i, gt (List.replicate n false) i = true → False := fun i hi => by
  have hl := gt_lt hi
  rw [List.length_replicate] at hl
  simp [gt, List.getD_eq_getElem?_getD, hl] at hi
 exact ⟨List.length_replicate, fun i hi => (no i hi).elim, fun i hi hl => .st hl (h2 i hi), fun i hi hs => .inr (h1 i hi hs), fun i j hi _ _ => (no i hi).elim⟩
def mu (out : List Bool) (todo : List Int) : Nat := todo.length + 2 * cf out
theorem mu_skip : mu out r + 1 = mu out (x :: r) := by simp only [mu, List.length_cons]; omega
theorem mu_mark {l : List Int} (hk : x.toNat < out.length) (hg : gt out x.toNat = false) (hl : l.length ≤ 2) : mu (out.set x.toNat true) (r ++ l) + 1 ≤ mu out (x :: r) := by
 have h := cf_set out x.toNat hk hg
 simp only [mu, List.length_append, List.length_cons]
 omega
structure RI (n : Nat) (st : Nat → Bool) (gs : Nat → List Int) (out : List Bool) : Prop where
 len : out.length = n
 so : ∀ i, gt out i = true → Rch n st gs i
 sr : ∀ i, i < n → st i = true → gt out i = true
def Clo (n : Nat) (gs : Nat → List Int) (out : List Bool) : Prop := ∀ i j : Nat, gt out i = true → (j : Int) ∈ gs i → j < n → gt out j = true
theorem RI.done (h : RI n st gs out) (hc : Clo n gs out) (i : Nat) (hi : i < n) : gt out i = true ↔ Rch n st gs i := by
 refine ⟨h.so i, fun hr => ?_⟩
 clear hi
 induction hr with
 | st hi hs => exact h.sr _ hi hs
 | go _ hj hl ih => exact hc _ _ ih hj hl
structure RR (n : Nat) (st : Nat → Bool) (gs : Nat → List Int) (o0 : List Bool) (i : Nat) (out : List Bool) : Prop where
 ri : RI n st gs out
 le : ole o0 out
 up : ∀ k j : Nat, k < i → gt o0 k = true → (j : Int) ∈ gs k → j < n → gt out j = true
 kp : Clo n gs o0 → out = o0
theorem RR.start (h : RI n st gs out) : RR n st gs out 0 out := ⟨h, ole_refl _, fun k j hk => by omega, fun _ => rfl⟩
theorem RR.put {o0 : List Bool} {i : Nat} (h : RR n st gs o0 i out) (hi : gt out i = true) (hx : x ∈ gs i) (h0 : 0 ≤ x) (h1 : x < n) : RR n st gs o0 i (out.set x.toNat true) := by
 have hk : x.toNat < out.length := by rw [h.ri.len]; omega
 have hxe : ((x.toNat : Nat) : Int) ∈ gs i := by rw [Int.toNat_of_nonneg h0]; exact hx
 refine ⟨⟨by rw [List.length_set]; exact h.ri.len, fun k hk' => ?_, fun k hk' hs => (gt_set hk).2 (.inr (h.ri.sr k hk' hs))⟩, ole_set h.le hk, fun k j hki hg hj hl => (gt_set hk).2 (.inr (h.up k j hki hg hj hl)), fun hc => ?_⟩
 ·rcases (gt_set hk).1 hk' with rfl | hk'
  ·exact .go (h.ri.so i hi) hxe (by omega)
  ·exact h.ri.so k hk'
 ·have e := h.kp hc
  subst e
  have hg := hc i x.toNat hi hxe (by omega)
  apply List.ext_getElem?
  intro q
  by_cases hq : x.toNat = q
  ·subst hq
   rw [List.getElem?_set_self hk]
   rw [gt, List.getD_eq_getElem?_getD, List.getElem?_eq_getElem hk] at hg
   rw [List.getElem?_eq_getElem hk]
   simpa using hg.symm
  ·rw [List.getElem?_set_ne hq]
theorem RR.next {o0 : List Bool} {i : Nat} (h : RR n st gs o0 i out) (hg : gt out i = true → ∀ j : Nat, (j : Int) ∈ gs i → j < n → gt out j = true) : RR n st gs o0 (i + 1) out :=
 ⟨h.ri, h.le, fun k j hk hk0 hj hl => by
  rcases Nat.lt_or_ge k i with h1 | h1
  ·exact h.up k j h1 hk0 hj hl
  ·obtain rfl : k = i := by omega
   exact hg (h.le.2 _ hk0) j hj hl, h.kp⟩
theorem RR.done {o0 : List Bool} (h : RR n st gs o0 n out) : Clo n gs out ∨ cf out + 1 ≤ cf o0 := by
 obtain ⟨h1, h2⟩ := ole_cf _ _ h.le
 rcases Nat.lt_or_ge (cf out) (cf o0) with h3 | h3
 ·exact .inr h3
 ·left
  have e := h2 (by omega)
  intro i j hi hj hl
  refine h.up i j ?_ (by rw [← e]; exact hi) hj hl
  have := gt_lt hi
  rw [h.ri.len] at this
  exact this
structure RS (n : Nat) (st : Nat → Bool) (gs : Nat → List Int) (s : Nat) (out : List Bool) : Prop where
 ri : RI n st gs out
 pr : Clo n gs out ∨ cf out + s ≤ n
theorem RS.start (h : RI n st gs out) : RS n st gs 0 out := ⟨h, .inr (by have := cf_le_len out; rw [h.len] at this; omega)⟩
theorem RS.next {o0 : List Bool} {s : Nat} (h : RS n st gs s o0) (hr : RR n st gs o0 n out) : RS n st gs (s + 1) out := by
 refine ⟨hr.ri, ?_⟩
 rcases h.pr with hc | hc
 ·left; rw [hr.kp hc]; exact hc
 ·rcases hr.done with h1 | h1
  ·exact .inl h1
  ·right; omega
theorem RS.done (h : RS n st gs n out) (i : Nat) (hi : i < n) : gt out i = true ↔ Rch n st gs i := by
 refine h.ri.done ?_ i hi
 rcases h.pr with hc | hc
 ·exact hc
 ·intro _ j _ _ hj
  exact cf_zero out (by omega) j (by rw [h.ri.len]; exact hj)
theorem same_marks {o1 o2 : List Bool} (l1 : o1.length = n) (l2 : o2.length = n) (h1 : ∀ i, i < n → (gt o1 i = true ↔ Rch n st gs i)) (h2 : ∀ i, i < n → (gt o2 i = true ↔ Rch n st gs i)) : o1 = o2 := by
 apply List.ext_getElem (by rw [l1, l2])
 intro i hi1 hi2
 have e := (h1 i (by omega)).trans (h2 i (by omega)).symm
 rw [gt, gt, List.getD_eq_getElem?_getD, List.getD_eq_getElem?_getD, List.getElem?_eq_getElem hi1, List.getElem?_eq_getElem hi2] at e
 simp only [Option.getD_some] at e
 exact Bool.eq_iff_iff.2 e
end
end Go.Proofs.Ytbfialebaoeicaa.Cl
namespace Go.Proofs.Ytbfialebaoeicaa.X
open Go.RowKit Go.Proofs.YtbfialebaoeicaaW.PrintWords Go.Proofs.YtbfialebaoeicaaW.PrintLast Go.Proofs.YtbfialebaoeicaaW.PrintMore
set_option linter.all false
theorem infoBo1 : (Try.prog.info? 4).map (fun i => (i.zero, i.size, i.bytes)) = some (some (.bool false), 1, 1) := by kernel_rfl
def glB (b : S41) : List Int := if b.f3.f0 = 2 ∨ b.f3.f0 = 4 then [b.f3.f5] else if b.f3.f0 = 3 then [b.f3.f5, b.f3.f6] else []
theorem glB_len (b : S41) : (glB b).length ≤ 2 := by unfold glB; split <;> (try split) <;> simp
def stB (bs : List S41) (i : Nat) : Bool := (rd_T41 bs (i : Int)).f0 && (rd_T41 bs (i : Int)).f1.f3
def gsB (bs : List S41) (i : Nat) : List Int := glB (rd_T41 bs (i : Int))
theorem goals_f (b : S41) : shape_Goals.f 1 b.f0 b.f1.f0 b.f1.f1 b.f1.f2 b.f1.f3 b.f2 b.f3.f0 b.f3.f1 b.f3.f2 b.f3.f3 b.f3.f4 b.f3.f5 b.f3.f6 b.f3.f7 = some (glB b) := by
 unfold shape_Goals.f shape_Goals.j0 glB
 by_cases h2 : b.f3.f0 = 2
 ·simp [h2]
 ·by_cases h4 : b.f3.f0 = 4
  ·simp [h4]
  ·by_cases h3 : b.f3.f0 = 3
   ·simp [h3]
   ·simp [h2, h3, h4]
theorem goals_c (b : S41) (A4 : Option Addr) (c4 : Nat) (A5 : Option Addr) (c5 : Nat) (A6 : Option Addr) (c6 : Nat) (w : World) (h4 : Kd.C (Kd.int .u16) w A4 b.f1.f1.length b.f1.f1) (k4 : b.f1.f1.length ≤ c4) (h5 : Kd.C k49 w A5 b.f2.length b.f2) (k5 : b.f2.length ≤ c5) (h6 : Kd.C (Kd.int .i64) w A6 b.f3.f4.length b.f3.f4) (k6 : b.f3.f4.length ≤ c6) :
  Calls Try.prog 23 #[.agg #[.bool b.f0, .int .i64 b.f1.f0, .slice A4 b.f1.f1.length c4, .bool b.f1.f2, .bool b.f1.f3, .slice A5 b.f2.length c5, .int .i64 b.f3.f0, .int .i64 b.f3.f1, .int .i64 b.f3.f2, .int .i64 b.f3.f3, .slice A6 b.f3.f4.length c6, .int .i64 b.f3.f5, .int .i64 b.f3.f6, .int .i64 b.f3.f7]] w fun e w' => (∃ A c, e = .returned (.slice A (glB b).length c) ∧ Kd.C (Kd.int .i64) w' A (glB b).length (glB b)) ∧ Below w.heap.size w w' := by
 refine (shape_Goals.calls 1 b.f0 b.f1.f0 A4 c4 b.f1.f1 b.f1.f2 b.f1.f3 A5 c5 b.f2 b.f3.f0 b.f3.f1 b.f3.f2 b.f3.f3 A6 c6 b.f3.f4 b.f3.f5 b.f3.f6 b.f3.f7 _ w h4 k4 h5 k5 h6 k6 (goals_f b)).mono ?_
 rintro e w' ⟨v, rfl, hr, hb⟩
 obtain ⟨A, c, rfl, _, hC⟩ := Kd.R_reads hr
 exact ⟨⟨A, c, rfl, hC⟩, hb⟩
structure Fill (bs : List S41) (x : Int) (td : List Int) : Prop where
 len : (td.length : Int) ≤ x
 yes : ∀ i : Nat, (i : Int) < x → stB bs i = true → (i : Int) ∈ td
 no : ∀ i : Nat, (i : Int) ∈ td → stB bs i = true
theorem Fill.nil (bs : List S41) : Fill bs 0 [] := ⟨by simp, fun i h => by omega, fun i h => by cases h⟩
theorem Fill.off {bs : List S41} {x : Int} {td : List Int} (h : Fill bs x td) (h0 : 0 ≤ x) (hs : ((rd_T41 bs x).f0 && (rd_T41 bs x).f1.f3) = false) : Fill bs (x + 1) td :=
 ⟨by have := h.len; omega, fun i hi hst => by
  by_cases e : (i : Int) = x
  ·unfold stB at hst; rw [e, hs] at hst; cases hst
  ·exact h.yes i (by omega) hst, h.no⟩
theorem Fill.on {bs : List S41} {x : Int} {td : List Int} (h : Fill bs x td) (h0 : 0 ≤ x) (hs : ((rd_T41 bs x).f0 && (rd_T41 bs x).f1.f3) = true) : Fill bs (x + 1) (td ++ [x]) :=
 ⟨by have := h.len; simp only [List.length_append, List.length_singleton]; omega, fun i hi hst => by
  by_cases e : (i : Int) = x
  ·rw [e]; simp
  ·exact List.mem_append_left _ (h.yes i (by omega) hst), fun i hi => by
  rcases List.mem_append.1 hi with h1 | h1
  ·exact h.no i h1
  ·rw [List.mem_singleton] at h1
   unfold stB; rw [h1]; exact hs⟩
theorem Fill.inv {bs : List S41} {x : Int} {td : List Int} (h : Fill bs x td) (hx : x = bs.length) : Cl.Inv bs.length (stB bs) (gsB bs) (List.replicate bs.length false) td ∧ Cl.mu (List.replicate bs.length false) td ≤ 3 * bs.length := by
 refine ⟨Cl.Inv.start (fun i hi hs => h.yes i (by omega) hs) h.no, ?_⟩
 unfold Cl.mu
 rw [Cl.cf_replicate]
 have := h.len
 omega
def ClnP (bs : List S41) (w : World) (A : Option Addr) : Prop := ∃ out : List Bool, Kd.C Kd.bool w A bs.length out ∧ out.length = bs.length ∧ ∀ i, i < bs.length → (Cl.gt out i = true ↔ Cl.Rch bs.length (stB bs) (gsB bs) i)
theorem gt_bool {out : List Bool} {x : Int} : rdOf false out x = Cl.gt out x.toNat := rfl
theorem rd_nat (bs : List S41) {x : Int} (h : 0 ≤ x) : gsB bs x.toNat = glB (rd_T41 bs x) := by unfold gsB; rw [Int.toNat_of_nonneg h]
set_option maxHeartbeats 16000000 in
set_option maxRecDepth 100000 in
theorem cleans_c (f : S27) (A1 : Option Addr) (c1 : Nat) (w : World) (hC : Kd.C k41 w A1 f.f2.length f.f2) (hn : f.f2.length ≤ 1000000) :
  Calls Try.prog 20 #[.agg #[.int .i64 f.f0, .int .i64 f.f1, .slice A1 f.f2.length c1]] w fun e w' => (∃ A, (∃ c, e = .returned (.slice A f.f2.length c)) ∧ ClnP f.f2 w' A) ∧ Below w.heap.size w w' := by
 have HC := Aside0.mk hC
 have HN := Aside0.mk hn
 clear hC hn
 have hu27 := Try.underlying27
 have hu41 := Try.underlying41
 have hu35 := Try.underlying35
 go_enter Try.func20, Try.ntmps20
 go_wp2_with (first | ((with_reducible refine gate_dst (N := 1) rfl ?_); refine box_event ?hg (N := 1) ?hd (cs := #[.int .i64 f.f0, .int .i64 f.f1, .slice A1 f.f2.length c1]) (t := 27) ?hr ?_; (case hd => rfl); (case hg => rfl); (case hr => first | (go_simp; done) | (go_simp; rfl)); intro g1 hg w1 hbox hb; have HLX1 := Aside0.mk (show w.heap.size ≤ g1 by rw [hg]; exact Nat.le_refl _); have HB := Aside0.mk hb; have X1 := Aside0.mk hbox; clear hbox hb hg; obtain ⟨h0, h1, h2⟩ := cl3 X1.out; obtain ⟨zh0, zh1, zh2⟩ := fz3 X1.out) | ((with_reducible refine gate_dst (N := 11) rfl ?_); refine Kd.R_make Kd.bool (w0 := w) w.heap.size 4 rfl (N := 11) rfl 31 (.tmp 10) (.tmp 10) rfl (f.f2.length : Int) rfl rfl Try.underlying31 _ _ infoBo1 rfl (Nat.succ_pos _) (by omega) false (ok := fun _ => True) (okp := fun _ => True) rfl (fun _ h => h) trivial (by omega) (by have := HN.out; simp; omega) HB.out HB.out.size ?_; intro v11 w11 hr hb hg hnew; obtain ⟨AO, cO, he, hl_, _⟩ := Kd.R_reads hr; rw [List.length_replicate, Int.toNat_natCast] at he; rw [Int.toNat_natCast] at hr; subst he; have RO := Aside0.mk hr; have hb1 := Below.refl; clear hb1; have X1_ := Aside0.mk (blk_grown X1.out hg (by simp)); clear h0 zh0 h1 zh1 h2 zh2 X1 HB; have HB := Aside0.mk hb; have X1 := X1_; clear X1_ hr hb hg hnew hl_; obtain ⟨h0, h1, h2⟩ := cl3 X1.out; obtain ⟨zh0, zh1, zh2⟩ := fz3 X1.out))
 clear h0 zh0 h1 zh1 h2 zh2
 go_loopg [4, 15] 1000000 (fun gg s4 s wr => ∃ (x : Int) (v4 : Value) (td : List Int), v4 = s4 ∧ s = .int .i64 x ∧ Aside0 (0 ≤ x ∧ x ≤ f.f2.length ∧ (f.f2.length : Int) - x ≤ gg) ∧ Aside0 (Fill f.f2 x td) ∧ Aside0 (Below w.heap.size w wr) ∧ Aside0 (wr.heap[g1]? = some (.cells #[.int .i64 f.f0, .int .i64 f.f1, .slice A1 f.f2.length c1] 27 (0, 0))) ∧ Aside0 (Kd.R Kd.bool 4 wr w.heap.size (fun _ => True) (.slice AO f.f2.length cO) (List.replicate f.f2.length false)) ∧ Aside0 (Kd.R (Kd.int .i64) 3 wr w.heap.size (fun _ => True) v4 td))
 case atStart => exact ⟨0, _, [], rfl, rfl, ⟨by have := HN.out; omega⟩, ⟨Fill.nil _⟩, HB, X1, RO, ⟨Kd.R_nil _ _ _ _ _⟩⟩
 case round =>
  clear HB X1 RO
  obtain ⟨x, v4, td, rfl, rfl, HX, HF, HB, X1, RO, RT⟩ := hrel
  obtain ⟨h0, h1, h2⟩ := cl3 X1.out
  by_cases hlt : x < (f.f2.length : Int)
  rotate_left
  ·skip
   have hd : decide (x < (f.f2.length : Int)) = false := decide_eq_false hlt
   have HI := Aside0.mk (HF.out.inv (show x = f.f2.length by have := HX.out; omega))
   have QT := Aside0.mk (Kd.Q_of_R RT.out)
   clear hlt RT HF HX
   go_wp2
   clear h0 h1 h2
   clear hd
   go_loopg [4] (3 * f.f2.length) (fun gg s4 wr => ∃ (v4 : Value) (td : List Int) (out : List Bool), s4 = v4 ∧ Aside0 (Cl.Inv f.f2.length (stB f.f2) (gsB f.f2) out td ∧ Cl.mu out td ≤ gg ∧ Cl.mu out td ≤ 3 * f.f2.length) ∧ Aside0 (Below w.heap.size w wr) ∧ Aside0 (wr.heap[g1]? = some (.cells #[.int .i64 f.f0, .int .i64 f.f1, .slice A1 f.f2.length c1] 27 (0, 0))) ∧ Aside0 (Kd.R Kd.bool 4 wr w.heap.size (fun _ => True) (.slice AO f.f2.length cO) out) ∧ Aside0 (Kd.Q (Kd.int .i64) 3 wr w.heap.size (fun _ => True) v4 td))
   case atStart => exact ⟨_, td, _, rfl, ⟨HI.out.1, HI.out.2, HI.out.2⟩, HB, X1, RO, QT⟩
   case round =>
    clear HB X1 RO QT HI
    obtain ⟨v4, td, out, rfl, HI, HB, X1, RO, QT⟩ := hrel
    obtain ⟨h0, h1, h2⟩ := cl3 X1.out
    obtain ⟨A4, c4, rfl, _⟩ := Kd.Q_slice QT.out
    cases td with
    | nil =>
     go_wp2
     go_ret
     exact ⟨⟨AO, ⟨cO, rfl⟩, out, by have h_ := (Kd.R_reads' RO.out); rw [HI.out.1.len] at h_; exact h_.2.2, HI.out.1.len, HI.out.1.done⟩, HB.out⟩
    | cons x r =>
     obtain ⟨g4, o4, cx, he, hg4, _⟩ := Kd.Q_form QT.out (by simp)
     injection he with he he1 he2
     clear he1
     subst he
     subst he2
     have hq1 : (1 : Int) ≤ ((x :: r).length : Int) := by simp only [List.length_cons]; omega
     obtain ⟨i0, hi0, _, hsz, _⟩ := info_parts info3
     have hcut := cut_from (P := Try.prog) 37 3 .i64 Try.underlying37 hi0 1 hsz (some ⟨g4, o4, none⟩) (x :: r).length c4 1 (by omega) hq1
     have hqd := Kd.Q_drop (k := 1) QT.out (by simp)
     obtain ⟨A', hA'⟩ : ∃ A1, A1 = (if c4 = 1 then (some ⟨g4, o4, none⟩) else ((some ⟨g4, o4, none⟩) : Option Addr).map (·.add (1 * 1))) := ⟨_, rfl⟩
     obtain ⟨c', hc'⟩ : ∃ c1, c1 = c4 - 1 := ⟨_, rfl⟩
     have QR := Aside0.mk (show Kd.Q (Kd.int .i64) 3 wr w.heap.size (fun _ => True) (.slice A' r.length c') r from by rw [hA', hc']; exact hqd)
     have hcut2 : ∀ W : World, (Instr.slice 37 (.slice (some ⟨g4, o4, none⟩) (r.length + 1) c4) (some (.int .i64 1)) none none).run Try.prog W = .ok (.slice A' r.length c') W := by rw [hA', hc']; exact hcut
     clear hcut hqd hA' hc'
     have y4 : wr.cell? ⟨g4, o4, none⟩ = some (.int .i64 x) := (Kd.Q_cell (0 : Int) QT.out 0 (by omega) (by simp only [List.length_cons]; omega)).1
     rw [show (x :: r).length = r.length + 1 from rfl]
     have HMU := Aside0.mk (show Cl.mu out r ≤ 3 * f.f2.length by have h_ := HI.out.2; have h2_ := Cl.mu_skip (out := out) (r := r) (x := x); omega)
     clear QT
     by_cases hx0 : x < 0
     ·have b0 : decide (x < 0) = true := decide_eq_true hx0
      have HQ := Aside0.mk hx0
      clear hx0
      go_wp2
      go_roundg (Cl.mu out r)
      case measure => have h_ := HI.out.2; have h2_ := Cl.mu_skip (out := out) (r := r) (x := x); omega
      case rel => exact ⟨_, r, out, rfl, ⟨HI.out.1.skip (.inl HQ.out), Nat.le_refl _, HMU.out⟩, HB, X1, RO, QR⟩
     have b0 : decide (x < 0) = false := decide_eq_false hx0
     have p1 : (0 ≤ x) = True := eq_true (by omega)
     by_cases hx1 : (f.f2.length : Int) ≤ x
     ·have b1 : decide ((f.f2.length : Int) ≤ x) = true := decide_eq_true hx1
      have HQ := Aside0.mk hx1
      clear hx0 hx1 p1
      go_wp2
      go_roundg (Cl.mu out r)
      case measure => have h_ := HI.out.2; have h2_ := Cl.mu_skip (out := out) (r := r) (x := x); omega
      case rel => exact ⟨_, r, out, rfl, ⟨HI.out.1.skip (.inr (.inl HQ.out)), Nat.le_refl _, HMU.out⟩, HB, X1, RO, QR⟩
     have b1 : decide ((f.f2.length : Int) ≤ x) = false := decide_eq_false hx1
     have HXR := Aside0.mk (show 0 ≤ x ∧ x < (f.f2.length : Int) by omega)
     have p2 : (x < (f.f2.length : Int)) = True := eq_true HXR.out.2
     clear hx0 hx1
     obtain ⟨gO, cO', he, hgO, _⟩ := Kd.R_form RO.out (by rw [HI.out.1.len]; have := HXR.out; omega)
     injection he with he he1 he2
     clear he1
     subst he
     subst he2
     have hz := Kd.R_celln false RO.out x HXR.out.1 HXR.out.2
     obtain ⟨z1, z2⟩ := hz
     rw [gt_bool] at z1
     cases hm : Cl.gt out x.toNat with
     | true =>
      rw [hm] at z1
      have z1' : wr.cell? ⟨gO, x.toNat, none⟩ = some (.bool true) := z1
      have HQ := Aside0.mk hm
      clear hm z1
      go_wp2
      go_roundg (Cl.mu out r)
      case measure => have h_ := HI.out.2; have h2_ := Cl.mu_skip (out := out) (r := r) (x := x); omega
      case rel => exact ⟨_, r, out, rfl, ⟨HI.out.1.skip (.inr (.inr HQ.out)), Nat.le_refl _, HMU.out⟩, HB, X1, RO, QR⟩
     | false =>
      rw [hm] at z1
      have z1' : wr.cell? ⟨gO, x.toNat, none⟩ = some (.bool false) := z1
      have HM := Aside0.mk hm
      clear hm z1
      have HROS := Aside0.mk (Kd.R_putn RO.out x true)
      have HGO := Aside0.mk (Kd.R_typed RO.out gO (by simp [Value.ownBlock]))
      have HGO2 := Aside0.mk hgO
      clear hgO
      go_upto_region 13 with (fail)
      go_cut [4, 7] (fun v4 v7 wd => v4 = .slice A' r.length c' ∧ v7 = .int .i64 x ∧ Aside0 (Below w.heap.size w wd) ∧ Aside0 (wd.heap[g1]? = some (.cells #[.int .i64 f.f0, .int .i64 f.f1, .slice A1 f.f2.length c1] 27 (0, 0))) ∧ Aside0 (Kd.R Kd.bool 4 wd w.heap.size (fun _ => True) (.slice (some ⟨gO, 0, none⟩) f.f2.length cO) (out.set x.toNat true)) ∧ Aside0 (Kd.Q (Kd.int .i64) 3 wd w.heap.size (fun _ => True) (.slice A' r.length c') r))
      case first =>
       obtain ⟨cells_, hgo⟩ := HGO.out
       go_wp2
       go_meet
       exact ⟨rfl, rfl, ⟨below_set HB.out HGO2.out⟩, ⟨blk_far X1.out (p := ⟨gO, _, none⟩) (blk_ne X1.out hgo (by decide)) _⟩, HROS, ⟨Kd.Q_set QR.out hgo (by decide) _ _⟩⟩
      case rest =>
       clear h0 h1 h2
       clear HB X1 RO QR HROS HGO HGO2 z1' z2 y4 hcut2 b0 b1 p1 p2
       obtain ⟨rfl, rfl, HB, X1, RO, QT⟩ := hcut
       obtain ⟨h0, h1, h2⟩ := cl3 X1.out
       have p1 : (0 ≤ x) = True := eq_true HXR.out.1
       have p2 : (x < (f.f2.length : Int)) = True := eq_true HXR.out.2
       obtain ⟨ad, B4, e4, B5, e5, B6, e6, e1, y0, y1, y2, y3, y4, y5, y6, y7, y8, y9, y10, y11, y12, y13, hrest⟩ := at_T41 (Kd.C_below HC.out HB.out) x HXR.out.1 HXR.out.2
       subst e1
       have HREST := Aside0.mk hrest
       clear hrest
       obtain ⟨b, hb⟩ : ∃ b, rd_T41 f.f2 x = b := ⟨_, rfl⟩
       rw [hb] at y0 y1 y2 y3 y4 y5 y6 y7 y8 y9 y10 y11 y12 y13 HREST
       have HBE := Aside0.mk hb
       clear hb
       go_wp2_with (first | (go_at_call 23; go_loud ((with_reducible refine (goals_c b B4 e4 B5 e5 B6 e6 _ HREST.out.2.1 HREST.out.1 HREST.out.2.2.2.1 HREST.out.2.2.1 HREST.out.2.2.2.2.2 HREST.out.2.2.2.2.1).mono ?_); rintro e w6 ⟨⟨AG, cG, rfl, hg⟩, hb⟩; clear h0 h1 h2; clear y0 y1 y2 y3 y4 y5 y6 y7 y8 y9 y10 y11 y12 y13 HREST; replace HB := Aside0.mk (below_step HB.out hb); replace X1 := Aside0.mk (blk_below X1.out hb); replace RO := Aside0.mk (Kd.R_below RO.out hb); replace QT := Aside0.mk (Kd.Q_below QT.out hb); have HG := Aside0.mk hg; clear hb hg; obtain ⟨h0, h1, h2⟩ := cl3 X1.out)) | ((with_reducible refine gate_builtin (b := .append) (xs := #[.tmp 57, .tmp 63]) rfl ?_); at_builtin; refine Q_append_rows (Value.int .i64) (w0 := w) w.heap.size rfl (.tmp 57) (.tmp 63) 37 3 (.int .i64 0) 8 rfl Try.underlying37 info3 rfl (by decide) (.slice A' r.length c') r (glB b) AG _ cG (fun _ => True) rfl rfl (fun _ _ => trivial) QT.out HG.out HB.out HB.out.size ?aL ?_; (case aL => have h1_ := HMU.out; have h2_ := glB_len b; have h3_ := HN.out; have h4_ : r.length ≤ Cl.mu out r := Nat.le_add_right _ _; omega); intro v1 w9 hq hb hg hat; have Q9 := Aside0.mk hq; have X9 := Aside0.mk (blk_grown X1.out hg (Kd.Q_ne QT.out X1.out (by decide))); have O9 := Aside0.mk (Kd.R_over' RO.out (Kd.Q_typed QT.out) (by decide) hg); clear h0 h1 h2; clear X1 RO QT HB HG; have HB := Aside0.mk hb; have X1 := X9; have RO := O9; have QT := Q9; clear X9 O9 Q9 hq hb hg hat; obtain ⟨h0, h1, h2⟩ := cl3 X1.out))
       go_roundg (Cl.mu (out.set x.toNat true) (r ++ glB b))
       case measure => have h_ := HI.out.2; have h2_ := Cl.mu_mark (out := out) (r := r) (x := x) (l := glB b) (by rw [HI.out.1.len]; have := HXR.out; omega) HM.out (glB_len b); omega
       case rel => exact ⟨_, r ++ glB b, out.set x.toNat true, rfl, ⟨by have h_ := HI.out.1.mark HXR.out.1 HXR.out.2; rw [rd_nat _ HXR.out.1, HBE.out] at h_; exact h_, Nat.le_refl _, by have h_ := HI.out.2; have h2_ := Cl.mu_mark (out := out) (r := r) (x := x) (l := glB b) (by rw [HI.out.1.len]; have := HXR.out; omega) HM.out (glB_len b); omega⟩, HB, X1, RO, QT⟩
  have hd : decide (x < (f.f2.length : Int)) = true := decide_eq_true hlt
  have HLT := Aside0.mk hlt
  clear hlt
  have p1 : (0 ≤ x) = True := eq_true HX.out.1
  have p2 : (x < (f.f2.length : Int)) = True := eq_true HLT.out
  obtain ⟨ad, A4, c4, A5, c5, A6, c6, e1, y0, y1, y2, y3, y4, y5, y6, y7, y8, y9, y10, y11, y12, y13, _⟩ := at_T41 (Kd.C_below HC.out HB.out) x HX.out.1 HLT.out
  subst e1
  obtain ⟨b, hb⟩ : ∃ b, rd_T41 f.f2 x = b := ⟨_, rfl⟩
  rw [hb] at y0 y1 y2 y3 y4 y5 y6 y7 y8 y9 y10 y11 y12 y13
  have HBE := Aside0.mk hb
  clear hb
  go_upto_region 5 with (fail)
  go_cut [5, 6, 15] from 15 to 31 (fun v5 v6 v15 wc => ∃ g6 : Nat, v5 = .int .i64 x ∧ v6 = .pointer (some ⟨g6, 0, none⟩) ∧ v15 = .int .i64 x ∧ Aside0 (Below w.heap.size w wc) ∧ Aside0 (wc.heap[g1]? = some (.cells #[.int .i64 f.f0, .int .i64 f.f1, .slice (some ad) f.f2.length c1] 27 (0, 0))) ∧ Aside0 (wc.heap[g6]? = some (.cells #[.bool b.f0, .int .i64 b.f1.f0, .slice A4 b.f1.f1.length c4, .bool b.f1.f2, .bool b.f1.f3, .slice A5 b.f2.length c5, .int .i64 b.f3.f0, .int .i64 b.f3.f1, .int .i64 b.f3.f2, .int .i64 b.f3.f3, .slice A6 b.f3.f4.length c6, .int .i64 b.f3.f5, .int .i64 b.f3.f6, .int .i64 b.f3.f7] 41 (0, 0))) ∧ Aside0 (Kd.R Kd.bool 4 wc w.heap.size (fun _ => True) (.slice AO f.f2.length cO) (List.replicate f.f2.length false)) ∧ Aside0 (Kd.R (Kd.int .i64) 3 wc w.heap.size (fun _ => True) v4 td))
  case first => go_wp2; go_meet; exact ⟨_, rfl, rfl, rfl, ⟨below_alloc HB.out _⟩, ⟨blk_alloc X1.out _⟩, ⟨blk_new _ _⟩, ⟨Kd.R_alloc RO.out _⟩, ⟨Kd.R_alloc RT.out _⟩⟩
  case rest =>
   clear y0 y1 y2 y3 y4 y5 y6 y7 y8 y9 y10 y11 y12 y13
   clear h0 h1 h2
   clear HB X1 RO RT p1 p2 hd
   obtain ⟨g6, rfl, rfl, rfl, HB, X1, X6, RO, RT⟩ := hcut
   obtain ⟨e0, e1, e2, e3, e4, e5, e6, e7, e8, e9, e10, e11, e12, e13⟩ := cl14 X6.out
   obtain ⟨h0, h1, h2⟩ := cl3 X1.out
   cases h0_ : b.f0 with
   | false =>
    rw [h0_] at e0
    have HST := Aside0.mk (show (b.f0 && b.f1.f3) = false by rw [h0_]; rfl)
    clear h0_
    go_wp2
    have W1 := Aside0.mk (show wrap64 (x + 1) = x + 1 from wrap_in _ (by have := HX.out; omega) (by have := HLT.out; have := HN.out; omega))
    go_roundg ((f.f2.length : Int) - (x + 1)).toNat
    case measure => have h1_ := HX.out; have h2_ := HLT.out; omega
    case rel => exact ⟨x + 1, _, td, rfl, by first | (rw [W1.out]; done) | rfl | (simp only [W1.out]; done), ⟨by have := HX.out; have := HLT.out; omega⟩, ⟨HF.out.off HX.out.1 (by rw [HBE.out]; exact HST.out)⟩, HB, X1, RO, RT⟩
   | true =>
    rw [h0_] at e0
    cases h4_ : b.f1.f3 with
    | false =>
     rw [h4_] at e4
     have HST := Aside0.mk (show (b.f0 && b.f1.f3) = false by rw [h4_]; simp)
     clear h0_ h4_
     go_wp2
     have W1 := Aside0.mk (show wrap64 (x + 1) = x + 1 from wrap_in _ (by have := HX.out; omega) (by have := HLT.out; have := HN.out; omega))
     go_roundg ((f.f2.length : Int) - (x + 1)).toNat
     case measure => have h1_ := HX.out; have h2_ := HLT.out; omega
     case rel => exact ⟨x + 1, _, td, rfl, by first | (rw [W1.out]; done) | rfl | (simp only [W1.out]; done), ⟨by have := HX.out; have := HLT.out; omega⟩, ⟨HF.out.off HX.out.1 (by rw [HBE.out]; exact HST.out)⟩, HB, X1, RO, RT⟩
    | true =>
     rw [h4_] at e4
     have HST := Aside0.mk (show (b.f0 && b.f1.f3) = true by rw [h0_, h4_]; rfl)
     clear h0_ h4_
     go_wp2_with ((with_reducible refine gate_builtin (b := .append) (xs := #[.tmp 27, .tmp 29]) rfl ?_); at_builtin; go_loud (refine Kd.R_append (Kd.int .i64) (w0 := w) w.heap.size rfl (.tmp 27) (.tmp 29) 37 3 _ _ rfl Try.underlying37 info3 rfl (Nat.succ_pos _) (by omega) v4 td x [.int .i64 x] (fun _ => True) (fun _ => False) rfl rfl rfl (fun _ h => h.elim) (fun _ _ => trivial) RT.out HB.out HB.out.size ?aL ?_; (case aL => have h1_ := HF.out.len; have h2_ := HX.out; have h3_ := HN.out; omega); intro v1 w9 hq hb hg hat; have Q9 := Aside0.mk hq; have X9 := Aside0.mk (blk_grown X1.out hg (Kd.R_ne RT.out X1.out (by decide))); have O9 := Aside0.mk (Kd.R_over RO.out RT.out (by decide) hg); clear h0 h1 h2; clear e0 e1 e2 e3 e4 e5 e6 e7 e8 e9 e10 e11 e12 e13 X6; clear X1 RO RT HB; have HB := Aside0.mk hb; have X1 := X9; have RO := O9; have RT := Q9; clear X9 O9 Q9 hq hb hg hat; obtain ⟨h0, h1, h2⟩ := cl3 X1.out))
     have W1 := Aside0.mk (show wrap64 (x + 1) = x + 1 from wrap_in _ (by have := HX.out; omega) (by have := HLT.out; have := HN.out; omega))
     go_roundg ((f.f2.length : Int) - (x + 1)).toNat
     case measure => have h1_ := HX.out; have h2_ := HLT.out; omega
     case rel => exact ⟨x + 1, _, td ++ [x], rfl, by first | (rw [W1.out]; done) | rfl | (simp only [W1.out]; done), ⟨by have := HX.out; have := HLT.out; omega⟩, ⟨HF.out.on HX.out.1 (by rw [HBE.out]; exact HST.out)⟩, HB, X1, RO, RT⟩
end Go.Proofs.Ytbfialebaoeicaa.X
namespace Go.Proofs.Ytbfialebaoeicaa.G
open Go.Proofs.Ytbfialebaoeicaa.X Go.RowKit Go.Proofs.YtbfialebaoeicaaW.PrintWords
set_option linter.all false
def Evt {α : Type} (g : Nat → Option α) (r : α) : Prop := ∃ k0, ∀ k, k0 ≤ k → g k = some r
theorem Evt.succ {α : Type} {g : Nat → Option α} {r : α} (h : Evt (fun k => g (k + 1)) r) : Evt g r := by
 obtain ⟨k0, h⟩ := h
 refine ⟨k0 + 1, fun k hk => ?_⟩
 obtain ⟨j, rfl⟩ : ∃ j, k = j + 1 := ⟨k - 1, by omega⟩
 exact h j (by omega)
theorem Evt.bind {α β : Type} {g : Nat → Option α} {h : Nat → α → Option β} {a : α} {r : β} (h1 : Evt g a) (h2 : Evt (fun k => h k a) r) : Evt (fun k => (g k).bind (h k)) r := by
 obtain ⟨k1, h1⟩ := h1
 obtain ⟨k2, h2⟩ := h2
 refine ⟨k1 + k2, fun k hk => ?_⟩
 show (g k).bind (h k) = some r
 rw [h1 k (by omega)]
 exact h2 k (by omega)
theorem Evt.pure {α : Type} (r : α) : Evt (fun _ => some r) r := ⟨0, fun _ _ => rfl⟩
theorem Evt.congr {α : Type} {g g' : Nat → Option α} {r : α} (h : Evt g' r) (e : ∀ k, g k = g' k) : Evt g r := by
 obtain ⟨k0, h⟩ := h
 exact ⟨k0, fun k hk => (e k).trans (h k hk)⟩
theorem Evt.inj {α : Type} {g : Nat → Option α} {r s : α} (h1 : Evt g r) (h2 : Evt g s) : r = s := by
 obtain ⟨k1, h1⟩ := h1
 obtain ⟨k2, h2⟩ := h2
 have e1 := h1 (k1 + k2) (by omega)
 have e2 := h2 (k1 + k2) (by omega)
 rw [e1] at e2
 exact Option.some.inj e2
theorem Evt.ex {α : Type} {g : Nat → Option α} {r : α} (h : Evt g r) : ∃ k, g k = some r := by
 obtain ⟨k0, h⟩ := h
 exact ⟨k0, h k0 (Nat.le_refl _)⟩
theorem wrap_small (n : Int) (h0 : -9223372036854775808 ≤ n) (h1 : n ≤ 9223372036854775807) : wrap64 n = n := by unfold wrap64; omega
theorem of_getD {α : Type} {l : List α} {x : α} (h : x ∈ l) (z : α) : ∃ k, k < l.length ∧ l.getD k z = x := by
 obtain ⟨k, hk, rfl⟩ := List.getElem_of_mem h
 exact ⟨k, hk, by rw [List.getD_eq_getElem?_getD, List.getElem?_eq_getElem hk]; rfl⟩
theorem cast_succ (i : Nat) : (((i + 1 : Nat)) : Int) = (i : Int) + 1 := by omega
end Go.Proofs.Ytbfialebaoeicaa.G
namespace Go.Proofs.Ytbfialebaoeicaa.X
open Go.RowKit Go.Proofs.YtbfialebaoeicaaW.PrintWords Go.Proofs.YtbfialebaoeicaaW.PrintLast Go.Proofs.YtbfialebaoeicaaW.PrintMore
attribute [local go_sem] max2_int min2_int max_two min_two max_three min_three max_four min_four
set_option linter.all false
noncomputable section
def davitref02_within.f (a0 : Int) (a1 : Int) : Option (Bool) := if a0 ≥ 0 then (some (decide (a0 < a1))) else (some false)
set_option maxHeartbeats 8000000 in
set_option maxRecDepth 100000 in
theorem davitref02_within.calls (a0 : Int) (a1 : Int) (r : Bool) (w : World) (h : davitref02_within.f a0 a1 = some r) :
  Calls Try.prog 88 #[.int .i64 a0, .int .i64 a1] w fun e w' => e = .returned (.bool r) ∧ Drawn0 w w' := by
 have H : (if a0 ≥ 0 then (some (decide (a0 < a1))) else (some false)) = some r := h
 clear h
 by_cases c3 : a0 ≥ 0
 ·rw [if_pos c3] at H
  have c3b0 : decide (0 ≤ a0) = true := decide_eq_true c3
  clear c3
  obtain rfl := Option.some.inj H
  go_enter Try.func88, Try.ntmps88
  go_wp2
  go_ret
  exact ⟨by first | rfl | (simp; done) | (simp [*]; done), by repeat (first | exact Drawn0.refl _ | apply Drawn0.step)⟩
 ·rw [if_neg c3] at H
  have c3b0 : decide (0 ≤ a0) = false := decide_eq_false c3
  clear c3
  obtain rfl := Option.some.inj H
  go_enter Try.func88, Try.ntmps88
  go_wp2
  go_ret
  exact ⟨by first | rfl | (simp; done) | (simp [*]; done), by repeat (first | exact Drawn0.refl _ | apply Drawn0.step)⟩
end
end Go.Proofs.Ytbfialebaoeicaa.X
