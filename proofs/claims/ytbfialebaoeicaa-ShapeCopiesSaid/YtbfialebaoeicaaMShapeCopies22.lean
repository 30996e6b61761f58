/- Part 23 of the proof of the statement ShapeCopies: the words of the walks, the walks through the functions that it reaches, and the plain laws of what they compute. -/
import Derived.Test.YtbfialebaoeicaaMShapeCopies21
import Derived.RegionTactic
import Derived.ChangeAlike
import Derived.Deep.QuietTactic
import Derived.BigQuiet
import Derived.Deep.MidRow
namespace Go.Proofs.Ytbfialebaoeicaa.X
open Go.RowKit Go.Proofs.YtbfialebaoeicaaW.PrintWords Go.Proofs.YtbfialebaoeicaaW.PrintLast Go.Proofs.YtbfialebaoeicaaW.PrintMore
attribute [local go_sem] max2_int min2_int max_two min_two max_three min_three max_four min_four
set_option linter.all false
noncomputable section
def shape_Goals.j0 : Nat → Int → Bool → Bool → Int → List Int → Bool → Bool → List (S49) → Int → Int → Int → Int → List Int → Int → Int → Int → Option (List Int)
 | 0, _, _, _, _, _, _, _, _, _, _, _, _, _, _, _, _ => none
 | k + 1, x5, x6, x107000, x107001, x107002, x107003, x107004, x107005, x107006, x107007, x107008, x107009, x107010, x107011, x107012, x107013 => if x6 = true then (some (([x107011] : List Int))) else (if x5 = 3 then (some (([x107011, x107012] : List Int))) else (some ([] : List Int)))
def shape_Goals.f (k : Nat) (a0_0 : Bool) (a0_1 : Int) (l0_2 : List Int) (a0_3 : Bool) (a0_4 : Bool) (l0_5 : List (S49)) (a0_6 : Int) (a0_7 : Int) (a0_8 : Int) (a0_9 : Int) (l0_10 : List Int) (a0_11 : Int) (a0_12 : Int) (a0_13 : Int) : Option (List Int) := if a0_6 = 2 then (shape_Goals.j0 k a0_6 (a0_6 == 2) a0_0 a0_1 l0_2 a0_3 a0_4 l0_5 a0_6 a0_7 a0_8 a0_9 l0_10 a0_11 a0_12 a0_13) else (shape_Goals.j0 k a0_6 (a0_6 == 4) a0_0 a0_1 l0_2 a0_3 a0_4 l0_5 a0_6 a0_7 a0_8 a0_9 l0_10 a0_11 a0_12 a0_13)
theorem shape_Goals.mono_l : ∀ k, (∀ y0 y1 y2 y3 y4 y5 y6 y7 y8 y9 y10 y11 y12 y13 y14 y15, LeO (shape_Goals.j0 k y0 y1 y2 y3 y4 y5 y6 y7 y8 y9 y10 y11 y12 y13 y14 y15) (shape_Goals.j0 (k + 1) y0 y1 y2 y3 y4 y5 y6 y7 y8 y9 y10 y11 y12 y13 y14 y15))
 | 0 => fun _ _ _ _ _ _ _ _ _ _ _ _ _ _ _ _ r h => by simp [shape_Goals.j0] at h
 | k + 1 => by
  have ih0 := shape_Goals.mono_l k
  ·intro y0 y1 y2 y3 y4 y5 y6 y7 y8 y9 y10 y11 y12 y13 y14 y15
   unfold shape_Goals.j0
   repeat' first
   | (with_reducible exact ih0 _ _ _ _ _ _ _ _ _ _ _ _ _ _ _ _)
   | (with_reducible exact LeO.refl _)
   | (with_reducible exact LeO.none _)
   | (with_reducible refine LeO.ite ?_ ?_)
   | (with_reducible refine LeO.bind ?_ (fun _ => ?_))
   | exact ih0 _ _ _ _ _ _ _ _ _ _ _ _ _ _ _ _
   | exact LeO.none _
   | refine LeO.ite ?_ ?_
   | refine LeO.bind ?_ (fun _ => ?_)
theorem shape_Goals.mono : ∀ a0 a1 a2 a3 a4 a5 a6 a7 a8 a9 a10 a11 a12 a13 k, LeO (shape_Goals.f k a0 a1 a2 a3 a4 a5 a6 a7 a8 a9 a10 a11 a12 a13) (shape_Goals.f (k + 1) a0 a1 a2 a3 a4 a5 a6 a7 a8 a9 a10 a11 a12 a13) := by
 intro a0 a1 a2 a3 a4 a5 a6 a7 a8 a9 a10 a11 a12 a13 k
 have ih0 := shape_Goals.mono_l k
 unfold shape_Goals.f
 repeat' first
   | (with_reducible exact ih0 _ _ _ _ _ _ _ _ _ _ _ _ _ _ _ _)
   | (with_reducible exact LeO.refl _)
   | (with_reducible exact LeO.none _)
   | (with_reducible refine LeO.ite ?_ ?_)
   | (with_reducible refine LeO.bind ?_ (fun _ => ?_))
   | exact ih0 _ _ _ _ _ _ _ _ _ _ _ _ _ _ _ _
   | exact LeO.none _
   | refine LeO.ite ?_ ?_
   | refine LeO.bind ?_ (fun _ => ?_)
set_option maxHeartbeats 8000000 in
set_option maxRecDepth 100000 in
theorem shape_Goals.calls (k : Nat) (a0_0 : Bool) (a0_1 : Int) (A0_2 : Option Addr) (c0_2 : Nat) (l0_2 : List Int) (a0_3 : Bool) (a0_4 : Bool) (A0_5 : Option Addr) (c0_5 : Nat) (l0_5 : List (S49)) (a0_6 : Int) (a0_7 : Int) (a0_8 : Int) (a0_9 : Int) (A0_10 : Option Addr) (c0_10 : Nat) (l0_10 : List Int) (a0_11 : Int) (a0_12 : Int) (a0_13 : Int) (r : List Int) (w : World) (hr0_2 : Kd.C (Kd.int .u16) w A0_2 l0_2.length l0_2) (hc0_2 : l0_2.length ≤ c0_2) (hr0_5 : Kd.C k49 w A0_5 l0_5.length l0_5) (hc0_5 : l0_5.length ≤ c0_5) (hr0_10 : Kd.C (Kd.int .i64) w A0_10 l0_10.length l0_10) (hc0_10 : l0_10.length ≤ c0_10) (h : shape_Goals.f k a0_0 a0_1 l0_2 a0_3 a0_4 l0_5 a0_6 a0_7 a0_8 a0_9 l0_10 a0_11 a0_12 a0_13 = some r) :
  Calls Try.prog 23 #[.agg #[.bool a0_0, .int .i64 a0_1, .slice A0_2 l0_2.length c0_2, .bool a0_3, .bool a0_4, .slice A0_5 l0_5.length c0_5, .int .i64 a0_6, .int .i64 a0_7, .int .i64 a0_8, .int .i64 a0_9, .slice A0_10 l0_10.length c0_10, .int .i64 a0_11, .int .i64 a0_12, .int .i64 a0_13]] w fun e w' => ∃ v0_ : Value, e = .returned (v0_) ∧ Kd.R (Kd.int .i64) 3 w' w.heap.size (fun _ => True) v0_ r ∧ Below w.heap.size w w' := by
 have hu41 := Try.underlying41
 have HR0_2 := Aside0.mk hr0_2
 have HC0_2 := Aside0.mk hc0_2
 clear hr0_2 hc0_2
 have HR0_5 := Aside0.mk hr0_5
 have HC0_5 := Aside0.mk hc0_5
 clear hr0_5 hc0_5
 have HR0_10 := Aside0.mk hr0_10
 have HC0_10 := Aside0.mk hc0_10
 clear hr0_10 hc0_10
 have HB := Aside0.mk (Below.refl w.heap.size w)
 have H : (if a0_6 = 2 then (shape_Goals.j0 k a0_6 (a0_6 == 2) a0_0 a0_1 l0_2 a0_3 a0_4 l0_5 a0_6 a0_7 a0_8 a0_9 l0_10 a0_11 a0_12 a0_13) else (shape_Goals.j0 k a0_6 (a0_6 == 4) a0_0 a0_1 l0_2 a0_3 a0_4 l0_5 a0_6 a0_7 a0_8 a0_9 l0_10 a0_11 a0_12 a0_13)) = some r := h
 clear h
 have HC2 := Aside0.mk H
 clear H
 go_enter Try.func23, Try.ntmps23
 go_upto_if 6 with (first | ((with_reducible refine gate_dst (N := 1) rfl ?_); refine box_event ?hg (N := 1) ?hd (cs := #[.bool a0_0, .int .i64 a0_1, .slice A0_2 l0_2.length c0_2, .bool a0_3, .bool a0_4, .slice A0_5 l0_5.length c0_5, .int .i64 a0_6, .int .i64 a0_7, .int .i64 a0_8, .int .i64 a0_9, .slice A0_10 l0_10.length c0_10, .int .i64 a0_11, .int .i64 a0_12, .int .i64 a0_13]) (t := 41) ?hr ?_; (case hd => rfl); (case hg => rfl); (case hr => first | (go_simp; done) | (go_simp; rfl)); intro gb106 hg w3 hbox hb; have n0_ := Aside0.mk (below_step (by repeat (first | (with_reducible first | exact HB.out | apply below_alloc | apply pw_below_drewN | apply below_drew1) | exact HB.out)) hb); have n1_ := Aside0.mk (hbox); have n2_ := Aside0.mk ((by rw [hg]; exact (below_size (by repeat (first | (with_reducible first | exact HB.out | apply below_alloc | apply pw_below_drewN | apply below_drew1) | exact HB.out))) : w.heap.size ≤ gb106)); have n3_ := Aside0.mk ((by rw [hg]; exact (below_size (by repeat (first | (with_reducible first | exact HB.out | apply below_alloc | apply pw_below_drewN | apply below_drew1) | exact HB.out))) : w.heap.size ≤ gb106)); clear HB; have HB := n0_; have BK106 := n1_; have GW106 := n2_; have GE106 := n3_; clear n0_ n1_ n2_ n3_; clear hb hbox hg; have hcz4_0 : w3.cell? ⟨gb106, 0, none⟩ = some (.bool a0_0) := (blk_cell BK106.out 0).trans rfl; have hcz4_1 : w3.cell? ⟨gb106, 1, none⟩ = some (.int .i64 a0_1) := (blk_cell BK106.out 1).trans rfl; have hcz4_2 : w3.cell? ⟨gb106, 2, none⟩ = some (.slice A0_2 l0_2.length c0_2) := (blk_cell BK106.out 2).trans rfl; have hcz4_3 : w3.cell? ⟨gb106, 3, none⟩ = some (.bool a0_3) := (blk_cell BK106.out 3).trans rfl; have hcz4_4 : w3.cell? ⟨gb106, 4, none⟩ = some (.bool a0_4) := (blk_cell BK106.out 4).trans rfl; have hcz4_5 : w3.cell? ⟨gb106, 5, none⟩ = some (.slice A0_5 l0_5.length c0_5) := (blk_cell BK106.out 5).trans rfl; have hcz4_6 : w3.cell? ⟨gb106, 6, none⟩ = some (.int .i64 a0_6) := (blk_cell BK106.out 6).trans rfl; have hcz4_7 : w3.cell? ⟨gb106, 7, none⟩ = some (.int .i64 a0_7) := (blk_cell BK106.out 7).trans rfl; have hcz4_8 : w3.cell? ⟨gb106, 8, none⟩ = some (.int .i64 a0_8) := (blk_cell BK106.out 8).trans rfl; have hcz4_9 : w3.cell? ⟨gb106, 9, none⟩ = some (.int .i64 a0_9) := (blk_cell BK106.out 9).trans rfl; have hcz4_10 : w3.cell? ⟨gb106, 10, none⟩ = some (.slice A0_10 l0_10.length c0_10) := (blk_cell BK106.out 10).trans rfl; have hcz4_11 : w3.cell? ⟨gb106, 11, none⟩ = some (.int .i64 a0_11) := (blk_cell BK106.out 11).trans rfl; have hcz4_12 : w3.cell? ⟨gb106, 12, none⟩ = some (.int .i64 a0_12) := (blk_cell BK106.out 12).trans rfl; have hcz4_13 : w3.cell? ⟨gb106, 13, none⟩ = some (.int .i64 a0_13) := (blk_cell BK106.out 13).trans rfl; obtain ⟨hfz4_0, hfz4_1, hfz4_2, hfz4_3, hfz4_4, hfz4_5, hfz4_6, hfz4_7, hfz4_8, hfz4_9, hfz4_10, hfz4_11, hfz4_12, hfz4_13⟩ := fz14 BK106.out))
 (try simp only [Act.put, sA_, sZ_, sS_])
 go_cut [6] (fun v6 wc => ∃ (kq : Nat) (x6_1 : Bool), v6 = .bool x6_1 ∧ Aside0 (shape_Goals.j0 kq a0_6 x6_1 a0_0 a0_1 l0_2 a0_3 a0_4 l0_5 a0_6 a0_7 a0_8 a0_9 l0_10 a0_11 a0_12 a0_13 = some r) ∧ Aside0 (kq ≤ k) ∧ Aside0 (wc.heap[gb106]? = some (.cells #[.bool a0_0, .int .i64 a0_1, (.slice A0_2 l0_2.length c0_2), .bool a0_3, .bool a0_4, (.slice A0_5 l0_5.length c0_5), .int .i64 a0_6, .int .i64 a0_7, .int .i64 a0_8, .int .i64 a0_9, (.slice A0_10 l0_10.length c0_10), .int .i64 a0_11, .int .i64 a0_12, .int .i64 a0_13] 41 (0, 0))) ∧ Aside0 (Below w.heap.size w wc))
 case first =>
  have H := HC2.out
  clear HC2
  by_cases c5 : a0_6 = 2
  ·rw [if_pos c5] at H
   have c5b0 : (a0_6 == 2) = true := beq_iff_eq.mpr c5
   have c5b1 : (a0_6 != 2) = false := bne_eq_false_iff_eq.mpr c5
   clear c5
   (first | rw [c5b0] | (simp only [i64_w, i32_w]; rw [c5b0]) | skip)
   have H' := Aside0.mk H
   clear H
   go_wp2
   go_meet
   case rel => exact ⟨_, ((a0_6 == 2)), (by first | rfl | (simp; done) | (simp [*]; done)), H', ⟨by first | omega | exact Nat.le_refl _⟩, ⟨by (with_reducible repeat (first | refine blk_drewN ?_ _ | refine blk_drew ?_ | refine blk_alloc ?_ _)); exact BK106.out⟩, ⟨by repeat (first | (with_reducible first | exact HB.out | apply below_alloc | apply pw_below_drewN | apply below_drew1 | refine below_set ?_ GE106.out) | exact HB.out)⟩⟩
  ·rw [if_neg c5] at H
   have c5b0 : (a0_6 == 2) = false := beq_eq_false_iff_ne.mpr c5
   have c5b1 : (a0_6 != 2) = true := bne_iff_ne.mpr c5
   (first | rw [c5b0] | (simp only [i64_w, i32_w]; rw [c5b0]) | skip)
   have H' := Aside0.mk H
   clear H
   go_wp2
   go_meet
   case rel => exact ⟨_, ((a0_6 == 4)), (by first | rfl | (simp; done) | (simp [*]; done)), H', ⟨by first | omega | exact Nat.le_refl _⟩, ⟨by (with_reducible repeat (first | refine blk_drewN ?_ _ | refine blk_drew ?_ | refine blk_alloc ?_ _)); exact BK106.out⟩, ⟨by repeat (first | (with_reducible first | exact HB.out | apply below_alloc | apply pw_below_drewN | apply below_drew1 | refine below_set ?_ GE106.out) | exact HB.out)⟩⟩
 case rest =>
  clear HC2
  try clear c2
  try clear p2
  try clear c5
  try clear c5b0
  try clear c5b1
  try clear hcz4_0
  try clear hcz4_1
  try clear hcz4_10
  try clear hcz4_11
  try clear hcz4_12
  try clear hcz4_13
  try clear hcz4_2
  try clear hcz4_3
  try clear hcz4_4
  try clear hcz4_5
  try clear hcz4_6
  try clear hcz4_7
  try clear hcz4_8
  try clear hcz4_9
  try clear hfz4_0
  try clear hfz4_1
  try clear hfz4_10
  try clear hfz4_11
  try clear hfz4_12
  try clear hfz4_13
  try clear hfz4_2
  try clear hfz4_3
  try clear hfz4_4
  try clear hfz4_5
  try clear hfz4_6
  try clear hfz4_7
  try clear hfz4_8
  try clear hfz4_9
  obtain ⟨kq, x6_1, rfl, HA, HJ1, BK106, HB⟩ := hcut
  cases kq with
  | zero => exact absurd HA.out (by simp [shape_Goals.j0])
  | succ kj1 =>
   have H := HA.out
   clear HA
   simp only [shape_Goals.j0] at H
   by_cases c6 : x6_1 = true
   ·subst c6
    have H1 : (some (([a0_11] : List Int))) = some r := by rw [if_pos rfl] at H; exact H
    clear H
    have H := H1
    clear H1
    obtain ⟨y107, hy107⟩ : ∃ y_ : List Int, y_ = (([a0_11] : List Int)) := ⟨_, rfl⟩
    replace H : (some y107) = some r := by first | (rw [hy107]; with_reducible exact H) | (have H2_ := (Option.bind_some _ _).symm.trans H; rw [hy107]; with_reducible exact H2_) | (have H2_ := (Option.bind_some _ _).symm.trans H; with_reducible exact H2_) | with_reducible exact H | (rw [hy107]; exact H) | exact H
    have Ny107 := Aside0.mk hy107
    clear hy107
    obtain rfl := Option.some.inj H
    have hcz7_0 : wc.cell? ⟨gb106, 0, none⟩ = some (.bool a0_0) := (blk_cell BK106.out 0).trans rfl
    have hcz7_1 : wc.cell? ⟨gb106, 1, none⟩ = some (.int .i64 a0_1) := (blk_cell BK106.out 1).trans rfl
    have hcz7_2 : wc.cell? ⟨gb106, 2, none⟩ = some (.slice A0_2 l0_2.length c0_2) := (blk_cell BK106.out 2).trans rfl
    have hcz7_3 : wc.cell? ⟨gb106, 3, none⟩ = some (.bool a0_3) := (blk_cell BK106.out 3).trans rfl
    have hcz7_4 : wc.cell? ⟨gb106, 4, none⟩ = some (.bool a0_4) := (blk_cell BK106.out 4).trans rfl
    have hcz7_5 : wc.cell? ⟨gb106, 5, none⟩ = some (.slice A0_5 l0_5.length c0_5) := (blk_cell BK106.out 5).trans rfl
    have hcz7_6 : wc.cell? ⟨gb106, 6, none⟩ = some (.int .i64 a0_6) := (blk_cell BK106.out 6).trans rfl
    have hcz7_7 : wc.cell? ⟨gb106, 7, none⟩ = some (.int .i64 a0_7) := (blk_cell BK106.out 7).trans rfl
    have hcz7_8 : wc.cell? ⟨gb106, 8, none⟩ = some (.int .i64 a0_8) := (blk_cell BK106.out 8).trans rfl
    have hcz7_9 : wc.cell? ⟨gb106, 9, none⟩ = some (.int .i64 a0_9) := (blk_cell BK106.out 9).trans rfl
    have hcz7_10 : wc.cell? ⟨gb106, 10, none⟩ = some (.slice A0_10 l0_10.length c0_10) := (blk_cell BK106.out 10).trans rfl
    have hcz7_11 : wc.cell? ⟨gb106, 11, none⟩ = some (.int .i64 a0_11) := (blk_cell BK106.out 11).trans rfl
    have hcz7_12 : wc.cell? ⟨gb106, 12, none⟩ = some (.int .i64 a0_12) := (blk_cell BK106.out 12).trans rfl
    have hcz7_13 : wc.cell? ⟨gb106, 13, none⟩ = some (.int .i64 a0_13) := (blk_cell BK106.out 13).trans rfl
    obtain ⟨hfz7_0, hfz7_1, hfz7_2, hfz7_3, hfz7_4, hfz7_5, hfz7_6, hfz7_7, hfz7_8, hfz7_9, hfz7_10, hfz7_11, hfz7_12, hfz7_13⟩ := fz14 BK106.out
    go_wp2_with (first | ((with_reducible refine gate_dst (N := 12) rfl ?_); refine Kd.R_lit (Kd.int .i64) _ 3 ?hg (N := 12) ?hd (xs := ([a0_11] : List Int)) (inner := [.int .i64 a0_11]) (ok := fun _ => True) (okp := fun _ => True) ?hr ?hp (fun _ hk => hk) trivial (Below.refl _ _) (Nat.le_refl _) (by simp) ?_; (case hd => rfl); (case hg => rfl); (case hr => first | (go_simp; done) | (go_simp; rfl)); (case hp => exact (Reps.one (show Kd.M (Kd.int .i64) _ _ _ a0_11 [.int .i64 a0_11] from rfl) (Reps.none _ _))); intro v108 w8 ho9 hb hg_ hnew_; clear hg_ hnew_; (first | rw [← Ny107.out] at ho9 | (simp only [Int.reduceToNat] at ho9; rw [← Ny107.out] at ho9)); have n0_ := Aside0.mk (Kd.R_lower ho9 (below_size (by repeat (first | (with_reducible first | exact HB.out | apply below_alloc | apply pw_below_drewN | apply below_drew1 | refine below_set ?_ GE106.out) | exact HB.out)))); have n1_ := Aside0.mk (blk_below (g := gb106) (o := .cells #[.bool a0_0, .int .i64 a0_1, .slice A0_2 l0_2.length c0_2, .bool a0_3, .bool a0_4, .slice A0_5 l0_5.length c0_5, .int .i64 a0_6, .int .i64 a0_7, .int .i64 a0_8, .int .i64 a0_9, .slice A0_10 l0_10.length c0_10, .int .i64 a0_11, .int .i64 a0_12, .int .i64 a0_13] 41 (0, 0)) (by (with_reducible repeat (first | refine blk_drewN ?_ _ | refine blk_drew ?_ | refine blk_alloc ?_ _)); exact BK106.out) hb); have n2_ := Aside0.mk (below_step (by repeat (first | (with_reducible first | exact HB.out | apply below_alloc | apply pw_below_drewN | apply below_drew1 | refine below_set ?_ GE106.out) | exact HB.out)) hb); clear BK106; clear HB; have HO109 := n0_; have BK106 := n1_; have HB := n2_; clear n0_ n1_ n2_; clear hb ho9))
    go_ret
    exact ⟨_, by first | rfl | (simp [errW_none, errW_some] <;> rfl) | (simp [*, errW_none, errW_some] <;> rfl), by (with_reducible repeat (first | apply Kd.R_alloc | apply Kd.R_drewN | apply Kd.R_drew)); exact HO109.out, by repeat (first | (with_reducible first | exact HB.out | apply below_alloc | apply pw_below_drewN | apply below_drew1 | refine below_set ?_ GE106.out) | exact HB.out)⟩
   ·replace c6 := Bool.eq_false_iff.mpr c6
    subst c6
    have H1 : (if a0_6 = 3 then (some (([a0_11, a0_12] : List Int))) else (some ([] : List Int))) = some r := by rw [if_neg (show ¬ (false = true) by decide)] at H; exact H
    clear H
    have H := H1
    clear H1
    by_cases c10 : a0_6 = 3
    ·rw [if_pos c10] at H
     have c10b0 : (a0_6 == 3) = true := beq_iff_eq.mpr c10
     have c10b1 : (a0_6 != 3) = false := bne_eq_false_iff_eq.mpr c10
     clear c10
     obtain ⟨y110, hy110⟩ : ∃ y_ : List Int, y_ = (([a0_11, a0_12] : List Int)) := ⟨_, rfl⟩
     replace H : (some y110) = some r := by first | (rw [hy110]; with_reducible exact H) | (have H2_ := (Option.bind_some _ _).symm.trans H; rw [hy110]; with_reducible exact H2_) | (have H2_ := (Option.bind_some _ _).symm.trans H; with_reducible exact H2_) | with_reducible exact H | (rw [hy110]; exact H) | exact H
     have Ny110 := Aside0.mk hy110
     clear hy110
     obtain rfl := Option.some.inj H
     have hcz11_0 : wc.cell? ⟨gb106, 0, none⟩ = some (.bool a0_0) := (blk_cell BK106.out 0).trans rfl
     have hcz11_1 : wc.cell? ⟨gb106, 1, none⟩ = some (.int .i64 a0_1) := (blk_cell BK106.out 1).trans rfl
     have hcz11_2 : wc.cell? ⟨gb106, 2, none⟩ = some (.slice A0_2 l0_2.length c0_2) := (blk_cell BK106.out 2).trans rfl
     have hcz11_3 : wc.cell? ⟨gb106, 3, none⟩ = some (.bool a0_3) := (blk_cell BK106.out 3).trans rfl
     have hcz11_4 : wc.cell? ⟨gb106, 4, none⟩ = some (.bool a0_4) := (blk_cell BK106.out 4).trans rfl
     have hcz11_5 : wc.cell? ⟨gb106, 5, none⟩ = some (.slice A0_5 l0_5.length c0_5) := (blk_cell BK106.out 5).trans rfl
     have hcz11_6 : wc.cell? ⟨gb106, 6, none⟩ = some (.int .i64 a0_6) := (blk_cell BK106.out 6).trans rfl
     have hcz11_7 : wc.cell? ⟨gb106, 7, none⟩ = some (.int .i64 a0_7) := (blk_cell BK106.out 7).trans rfl
     have hcz11_8 : wc.cell? ⟨gb106, 8, none⟩ = some (.int .i64 a0_8) := (blk_cell BK106.out 8).trans rfl
     have hcz11_9 : wc.cell? ⟨gb106, 9, none⟩ = some (.int .i64 a0_9) := (blk_cell BK106.out 9).trans rfl
     have hcz11_10 : wc.cell? ⟨gb106, 10, none⟩ = some (.slice A0_10 l0_10.length c0_10) := (blk_cell BK106.out 10).trans rfl
     have hcz11_11 : wc.cell? ⟨gb106, 11, none⟩ = some (.int .i64 a0_11) := (blk_cell BK106.out 11).trans rfl
     have hcz11_12 : wc.cell? ⟨gb106, 12, none⟩ = some (.int .i64 a0_12) := (blk_cell BK106.out 12).trans rfl
     have hcz11_13 : wc.cell? ⟨gb106, 13, none⟩ = some (.int .i64 a0_13) := (blk_cell BK106.out 13).trans rfl
     obtain ⟨hfz11_0, hfz11_1, hfz11_2, hfz11_3, hfz11_4, hfz11_5, hfz11_6, hfz11_7, hfz11_8, hfz11_9, hfz11_10, hfz11_11, hfz11_12, hfz11_13⟩ := fz14 BK106.out
     go_wp2_with (first | ((with_reducible refine gate_dst (N := 21) rfl ?_); refine Kd.R_lit (Kd.int .i64) _ 3 ?hg (N := 21) ?hd (xs := ([a0_11, a0_12] : List Int)) (inner := [.int .i64 a0_11, .int .i64 a0_12]) (ok := fun _ => True) (okp := fun _ => True) ?hr ?hp (fun _ hk => hk) trivial (Below.refl _ _) (Nat.le_refl _) (by simp) ?_; (case hd => rfl); (case hg => rfl); (case hr => first | (go_simp; done) | (go_simp; rfl)); (case hp => exact (Reps.one (show Kd.M (Kd.int .i64) _ _ _ a0_11 [.int .i64 a0_11] from rfl) (Reps.one (show Kd.M (Kd.int .i64) _ _ _ a0_12 [.int .i64 a0_12] from rfl) (Reps.none _ _)))); intro v111 w12 ho13 hb hg_ hnew_; clear hg_ hnew_; (first | rw [← Ny110.out] at ho13 | (simp only [Int.reduceToNat] at ho13; rw [← Ny110.out] at ho13)); have n0_ := Aside0.mk (Kd.R_lower ho13 (below_size (by repeat (first | (with_reducible first | exact HB.out | apply below_alloc | apply pw_below_drewN | apply below_drew1 | refine below_set ?_ GE106.out) | exact HB.out)))); have n1_ := Aside0.mk (blk_below (g := gb106) (o := .cells #[.bool a0_0, .int .i64 a0_1, .slice A0_2 l0_2.length c0_2, .bool a0_3, .bool a0_4, .slice A0_5 l0_5.length c0_5, .int .i64 a0_6, .int .i64 a0_7, .int .i64 a0_8, .int .i64 a0_9, .slice A0_10 l0_10.length c0_10, .int .i64 a0_11, .int .i64 a0_12, .int .i64 a0_13] 41 (0, 0)) (by (with_reducible repeat (first | refine blk_drewN ?_ _ | refine blk_drew ?_ | refine blk_alloc ?_ _)); exact BK106.out) hb); have n2_ := Aside0.mk (below_step (by repeat (first | (with_reducible first | exact HB.out | apply below_alloc | apply pw_below_drewN | apply below_drew1 | refine below_set ?_ GE106.out) | exact HB.out)) hb); clear BK106; clear HB; have HO112 := n0_; have BK106 := n1_; have HB := n2_; clear n0_ n1_ n2_; clear hb ho13))
     go_ret
     exact ⟨_, by first | rfl | (simp [errW_none, errW_some] <;> rfl) | (simp [*, errW_none, errW_some] <;> rfl), by (with_reducible repeat (first | apply Kd.R_alloc | apply Kd.R_drewN | apply Kd.R_drew)); exact HO112.out, by repeat (first | (with_reducible first | exact HB.out | apply below_alloc | apply pw_below_drewN | apply below_drew1 | refine below_set ?_ GE106.out) | exact HB.out)⟩
    ·rw [if_neg c10] at H
     have c10b0 : (a0_6 == 3) = false := beq_eq_false_iff_ne.mpr c10
     have c10b1 : (a0_6 != 3) = true := bne_iff_ne.mpr c10
     obtain rfl := Option.some.inj H
     go_wp2
     go_ret
     exact ⟨_, by first | rfl | (simp [errW_none, errW_some] <;> rfl) | (simp [*, errW_none, errW_some] <;> rfl), by first | exact Kd.R_nil _ _ _ _ _ | exact Kd.N_nil _ _ _ _ _ | exact Kd.V_nil _ _ _ _ _ | exact Kd.Q_nil _ _ _ _ _ | exact Kd.S_nil _ _ _ _ _, by repeat (first | (with_reducible first | exact HB.out | apply below_alloc | apply pw_below_drewN | apply below_drew1 | refine below_set ?_ GE106.out) | exact HB.out)⟩
end
end Go.Proofs.Ytbfialebaoeicaa.X
namespace Go.Proofs.Ytbfialebaoeicaa.X
open Go.RowKit Go.Proofs.YtbfialebaoeicaaW.PrintWords Go.Proofs.YtbfialebaoeicaaW.PrintLast Go.Proofs.YtbfialebaoeicaaW.PrintMore
set_option linter.all false
def bRa : S41 := ⟨false, ⟨0, [], false, false⟩, [], ⟨1, 0, 0, 0, [], 0, 0, 0⟩⟩
def f2a : S27 := ⟨0, 1, [bRa]⟩
def m2a : List S27 := [f2a]
def n2a : List S27 := [⟨0, 0, [bRa]⟩]
theorem m2a_r : rightR m2a = true := by decide +kernel
theorem n2a_r : rightR n2a = false := by decide +kernel
theorem f2a_r : funcR m2a f2a = true := by decide +kernel
theorem n2a_e : eqL funcE n2a m2a = false := by decide +kernel
theorem C_uno {α : Type} (d : Kd α) {w : World} {g : Nat} {t : TypeId} (x : α) (cs : List Value) (hl : cs.length = d.sz) (hK : d.K w x cs) (h : w.heap[g]? = some (.cells cs.toArray t (0, 0))) : Kd.C d w (some ⟨g, 0, none⟩) 1 [x] := by
 refine ⟨rfl, by decide, fun _ => ⟨_, rfl, fun j p hj => ?_⟩⟩
 obtain rfl : j = 0 := by have := (List.getElem?_eq_some_iff.1 hj).1; simp at this; exact this
 simp at hj
 subst hj
 refine ⟨cs, hl, hK, fun i u hu => ?_⟩
 rw [Nat.zero_mul, Nat.zero_add, add_plain, blk_cell h i]
 simpa using hu
theorem C_none {α : Type} (d : Kd α) (w : World) : Kd.C d w none 0 ([] : List α) := Kd.C_nil d w
theorem bRa_C {w : World} {gb : Nat} (h : w.heap[gb]? = some (.cells #[.bool false, .int .i64 0, .slice none 0 0, .bool false, .bool false, .slice none 0 0, .int .i64 1, .int .i64 0, .int .i64 0, .int .i64 0, .slice none 0 0, .int .i64 0, .int .i64 0, .int .i64 0] 41 (0, 0))) : Kd.C k41 w (some ⟨gb, 0, none⟩) 1 [bRa] :=
 C_uno k41 bRa [.bool false, .int .i64 0, .slice none 0 0, .bool false, .bool false, .slice none 0 0, .int .i64 1, .int .i64 0, .int .i64 0, .int .i64 0, .slice none 0 0, .int .i64 0, .int .i64 0, .int .i64 0] rfl (k41_mk w bRa (A2 := none) (c2 := 0) (by decide) (C_none _ _) (A5 := none) (c5 := 0) (by decide) (C_none _ _) (A10 := none) (c10 := 0) (by decide) (C_none _ _)) h
theorem m2a_C {w : World} {gb gf : Nat} (h : w.heap[gb]? = some (.cells #[.bool false, .int .i64 0, .slice none 0 0, .bool false, .bool false, .slice none 0 0, .int .i64 1, .int .i64 0, .int .i64 0, .int .i64 0, .slice none 0 0, .int .i64 0, .int .i64 0, .int .i64 0] 41 (0, 0))) (h2 : w.heap[gf]? = some (.cells #[.int .i64 0, .int .i64 1, .slice (some ⟨gb, 0, none⟩) 1 1] 27 (0, 0))) : Kd.C k27 w (some ⟨gf, 0, none⟩) 1 m2a :=
 C_uno k27 f2a [.int .i64 0, .int .i64 1, .slice (some ⟨gb, 0, none⟩) 1 1] rfl (k27_mk w f2a (A2 := some ⟨gb, 0, none⟩) (c2 := 1) (by decide) (bRa_C h)) h2
theorem b1_is {b : S41} (h : b ∈ [bRa]) : b = bRa := by simpa using h
theorem f2a_B (r : Int) : BndF ⟨0, r, [bRa]⟩ := ⟨by show 1 ≤ 1000000; decide, fun b hb => (by rw [b1_is hb]; decide), fun b hb => (by rw [b1_is hb]; decide), fun b hb => (by rw [b1_is hb]; decide), fun b hb x hx => (by rw [b1_is hb] at hx; cases hx)⟩
theorem m2a_B : Bnd m2a := ⟨by decide, fun f hf => (by rw [show f = ⟨0, 1, [bRa]⟩ by simpa [m2a, f2a] using hf]; exact f2a_B 1)⟩
theorem n2a_B : Bnd n2a := ⟨by decide, fun f hf => (by rw [show f = ⟨0, 0, [bRa]⟩ by simpa [n2a] using hf]; exact f2a_B 0)⟩
theorem f2_is {f : S27} (h : f ∈ m2a) : f = ⟨0, 1, [bRa]⟩ := by simpa [m2a, f2a] using h
theorem m2a_BC : BC m2a := ⟨by decide, fun f hf => (by rw [f2_is hf]; decide), fun f hf b hb => (by rw [f2_is hf] at hb; rw [b1_is hb]; decide), fun f hf b hb => (by rw [f2_is hf] at hb; rw [b1_is hb]; decide), fun f hf b hb => (by rw [f2_is hf] at hb; rw [b1_is hb]; decide), fun f hf b hb x hx => (by rw [f2_is hf] at hb; rw [b1_is hb] at hx; cases hx)⟩
theorem goals2_c (w : World) : Calls Try.prog 23 #[.agg #[.bool false, .int .i64 0, .slice none 0 0, .bool false, .bool false, .slice none 0 0, .int .i64 3, .int .i64 0, .int .i64 0, .int .i64 0, .slice none 0 0, .int .i64 0, .int .i64 0, .int .i64 0]] w fun e w' => (∃ A c, e = .returned (.slice A 2 c)) ∧ Below w.heap.size w w' := by
 refine (shape_Goals.calls 1 false 0 none 0 [] false false none 0 [] 3 0 0 0 none 0 [] 0 0 0 [0, 0] w (C_none _ _) (by decide) (C_none _ _) (by decide) (C_none _ _) (by decide) rfl).mono ?_
 rintro e w' ⟨v, rfl, hr, hb⟩
 obtain ⟨A, c, rfl, _⟩ := Kd.R_reads hr
 exact ⟨⟨A, c, rfl⟩, hb⟩
theorem rightm_c (A : Option Addr) (c : Nat) (w : World) (h : Kd.C k27 w A 1 m2a) : Calls Try.prog 16 #[.agg #[.slice A 1 c]] w fun e w' => e = .returned (.bool true) ∧ Below w.heap.size w w' := by
 have h2 := right_l m2a A c w h m2a_B
 rw [m2a_r] at h2
 exact h2
theorem rightn_c (A : Option Addr) (c : Nat) (w : World) (h : Kd.C k27 w A 1 n2a) : Calls Try.prog 16 #[.agg #[.slice A 1 c]] w fun e w' => e = .returned (.bool false) ∧ Below w.heap.size w w' := by
 have h2 := right_l n2a A c w h n2a_B
 rw [n2a_r] at h2
 exact h2
theorem funcm_c (A : Option Addr) (c : Nat) (gb : Nat) (w : World) (h : Kd.C k27 w A 1 m2a) (hb : Kd.C k41 w (some ⟨gb, 0, none⟩) 1 [bRa]) : Calls Try.prog 18 #[.agg #[.slice A 1 c], .agg #[.int .i64 0, .int .i64 1, .slice (some ⟨gb, 0, none⟩) 1 1]] w fun e w' => e = .returned (.bool true) ∧ Below w.heap.size w w' := by
 have h2 := func_l m2a A c f2a (some ⟨gb, 0, none⟩) 1 w h hb (f2a_B 1)
 rw [f2a_r] at h2
 exact h2
theorem samen_c (A : Option Addr) (c : Nat) (A' : Option Addr) (c' : Nat) (w : World) (h : Kd.C k27 w A 1 n2a) (h' : Kd.C k27 w A' 1 m2a) : Calls Try.prog 25 #[.agg #[.slice A 1 c], .agg #[.slice A' 1 c']] w fun e w' => e = .returned (.bool false) ∧ Below w.heap.size w w' := by
 have h2 := same_c n2a A c m2a A' c' w h h' n2a_B
 rw [n2a_e] at h2
 exact h2
theorem cleans2_c (gb : Nat) (w : World) (hb : Kd.C k41 w (some ⟨gb, 0, none⟩) 1 [bRa]) : Calls Try.prog 20 #[.agg #[.int .i64 0, .int .i64 1, .slice (some ⟨gb, 0, none⟩) 1 1]] w fun e w' => (∃ A c, e = .returned (.slice A 1 c)) ∧ Below w.heap.size w w' :=
 cleans0_c f2a (some ⟨gb, 0, none⟩) 1 w hb (by decide) (fun b h => by rw [b1_is h]; rfl)
theorem copym_c (A : Option Addr) (w : World) (h : Kd.C k27 w A 1 m2a) : Calls Try.prog 24 #[.agg #[.slice A 1 1]] w fun e w' => (∃ g c, e = .returned (.agg #[.slice (some ⟨g, 0, none⟩) 1 c]) ∧ w.heap.size ≤ g ∧ g < w'.heap.size ∧ Kd.S sF 27 w' w.heap.size (fun _ => True) (.slice (some ⟨g, 0, none⟩) 1 c) m2a) ∧ Below w.heap.size w w' := by
 refine (copy_c m2a A 1 w h (by decide) m2a_BC).mono ?_
 rintro e w' ⟨⟨v, rfl, hs⟩, hb⟩
 obtain ⟨g, c, rfl, h0, h1, _⟩ := Kd.S_form (d := sF) hs (by decide)
 exact ⟨⟨g, c, rfl, h0, h1, hs⟩, hb⟩
set_option maxHeartbeats 16000000 in
set_option maxRecDepth 100000 in
theorem awake2_c (w : World) : Calls Try.prog 14 #[] w fun e w' => e = .returned (.bool true) ∧ Below w.heap.size w w' := by
 have hu24 := Try.underlying24
 have hu27 := Try.underlying27
 have hu41 := Try.underlying41
 have hu49 := Try.underlying49
 have hu35 := Try.underlying35
 have hu39 := Try.underlying39
 have HB := Aside0.mk (Below.refl w.heap.size w)
 go_enter Try.func14, Try.ntmps14
 go_upto_region 1 with (fail)
 go_cut [1] (fun v1 wc => ∃ g1 gf gb : Nat, v1 = .pointer (some ⟨g1, 0, none⟩) ∧ Aside0 (Below w.heap.size w wc) ∧ Aside0 (wc.heap[g1]? = some (.cells #[.slice (some ⟨gf, 0, none⟩) 1 1] 24 (0, 0))) ∧ Aside0 (wc.heap[gf]? = some (.cells #[.int .i64 0, .int .i64 1, .slice (some ⟨gb, 0, none⟩) 1 1] 27 (0, 0))) ∧ Aside0 (wc.heap[gb]? = some (.cells #[.bool false, .int .i64 0, .slice none 0 0, .bool false, .bool false, .slice none 0 0, .int .i64 1, .int .i64 0, .int .i64 0, .int .i64 0, .slice none 0 0, .int .i64 0, .int .i64 0, .int .i64 0] 41 (0, 0))))
 case first =>
  go_wp2
  go_meet
  exact ⟨_, w.heap.size + 1, w.heap.size, rfl, ⟨below_alloc (below_alloc (below_alloc HB.out _) _) _⟩, ⟨blk_new3 _ _ _ _⟩, ⟨blk_alloc (blk_new2 _ _ _) _⟩, ⟨blk_alloc (blk_alloc (blk_new _ _) _) _⟩⟩
 case rest =>
  clear HB
  obtain ⟨g1, gf, gb, rfl, HB, X1, XF, XB⟩ := hcut
  have m0 := (blk_cell X1.out 0).trans rfl
  go_upto_region 2 with (fail)
  go_cut [2] (fun v2 wc => ∃ g2 g0 c B0 : Nat, v2 = .pointer (some ⟨g2, 0, none⟩) ∧ Aside0 (Below w.heap.size w wc) ∧ Aside0 (wc.heap[g1]? = some (.cells #[.slice (some ⟨gf, 0, none⟩) 1 1] 24 (0, 0))) ∧ Aside0 (wc.heap[gf]? = some (.cells #[.int .i64 0, .int .i64 1, .slice (some ⟨gb, 0, none⟩) 1 1] 27 (0, 0))) ∧ Aside0 (wc.heap[gb]? = some (.cells #[.bool false, .int .i64 0, .slice none 0 0, .bool false, .bool false, .slice none 0 0, .int .i64 1, .int .i64 0, .int .i64 0, .int .i64 0, .slice none 0 0, .int .i64 0, .int .i64 0, .int .i64 0] 41 (0, 0))) ∧ Aside0 (wc.heap[g2]? = some (.cells #[.slice (some ⟨g0, 0, none⟩) 1 c] 24 (0, 0))) ∧ Aside0 (Kd.S sF 27 wc B0 (fun _ => True) (.slice (some ⟨g0, 0, none⟩) 1 c) m2a) ∧ Aside0 (w.heap.size ≤ g0 ∧ g1 ≠ g0 ∧ gf ≠ g0 ∧ gb ≠ g0 ∧ g2 ≠ g0))
  case first =>
   go_wp2_with (go_at_call 24; go_loud ((with_reducible refine (copym_c _ _ (m2a_C XB.out XF.out)).mono ?_); rintro e w6 ⟨⟨g0, c, rfl, hg0, hg1, hs⟩, hb⟩; have HS := Aside0.mk hs; have HB6 := Aside0.mk hb; have HG := Aside0.mk (And.intro hg0 hg1); clear hs hb hg0 hg1))
   go_meet
   exact ⟨_, g0, c, _, rfl, ⟨below_alloc (HB.out.trans (HB6.out.mono HB.out.size)) _⟩, ⟨blk_alloc (blk_below X1.out HB6.out) _⟩, ⟨blk_alloc (blk_below XF.out HB6.out) _⟩, ⟨blk_alloc (blk_below XB.out HB6.out) _⟩, ⟨blk_new _ _⟩, ⟨Kd.S_alloc HS.out _⟩, ⟨Nat.le_trans HB.out.size HG.out.1, Nat.ne_of_lt (Nat.lt_of_lt_of_le (blk_lt X1.out) HG.out.1), Nat.ne_of_lt (Nat.lt_of_lt_of_le (blk_lt XF.out) HG.out.1), Nat.ne_of_lt (Nat.lt_of_lt_of_le (blk_lt XB.out) HG.out.1), Nat.ne_of_gt HG.out.2⟩⟩
  case rest =>
   clear m0 HB X1 XF XB
   obtain ⟨g2, g0, c, B0, rfl, HB, X1, XF, XB, X2, HS, HG⟩ := hcut
   have m0 := (blk_cell X1.out 0).trans rfl
   have n0 := (blk_cell X2.out 0).trans rfl
   have hr := SM_reg HS.out 0 (by decide) (by decide) 0
   have hy : wc.cell? ⟨g0, 1, none⟩ = some (.int .i64 1) := hr.1
   have hz : wc.frozen? ⟨g0, 1, none⟩ = false := hr.2.1
   have HN := Aside0.mk (show Kd.S sF 27 (wc.setCell ⟨g0, 1, none⟩ (.int .i64 0)) B0 (fun _ => True) (.slice (some ⟨g0, 0, none⟩) 1 c) n2a from hr.2.2)
   clear hr
   go_upto_region 5 with (fail)
   go_cut [] (fun wc => Aside0 (Below w.heap.size w wc) ∧ Aside0 (wc.heap[g1]? = some (.cells #[.slice (some ⟨gf, 0, none⟩) 1 1] 24 (0, 0))) ∧ Aside0 (wc.heap[gf]? = some (.cells #[.int .i64 0, .int .i64 1, .slice (some ⟨gb, 0, none⟩) 1 1] 27 (0, 0))) ∧ Aside0 (wc.heap[gb]? = some (.cells #[.bool false, .int .i64 0, .slice none 0 0, .bool false, .bool false, .slice none 0 0, .int .i64 1, .int .i64 0, .int .i64 0, .int .i64 0, .slice none 0 0, .int .i64 0, .int .i64 0, .int .i64 0] 41 (0, 0))) ∧ Aside0 (wc.heap[g2]? = some (.cells #[.slice (some ⟨g0, 0, none⟩) 1 c] 24 (0, 0))) ∧ Aside0 (Kd.S sF 27 wc B0 (fun _ => True) (.slice (some ⟨g0, 0, none⟩) 1 c) n2a))
   case first =>
    go_wp2
    go_meet
    exact ⟨⟨below_set HB.out HG.out.1⟩, ⟨blk_far X1.out (p := ⟨g0, 1, none⟩) HG.out.2.1 _⟩, ⟨blk_far XF.out (p := ⟨g0, 1, none⟩) HG.out.2.2.1 _⟩, ⟨blk_far XB.out (p := ⟨g0, 1, none⟩) HG.out.2.2.2.1 _⟩, ⟨blk_far X2.out (p := ⟨g0, 1, none⟩) HG.out.2.2.2.2 _⟩, HN⟩
   case rest =>
    clear m0 n0 hy hz HB X1 XF XB X2 HS HN
    obtain ⟨HB, X1, XF, XB, X2, HS⟩ := hcut
    have HCM := Aside0.mk (m2a_C XB.out XF.out)
    have HCB := Aside0.mk (bRa_C XB.out)
    have HCN := Aside0.mk ((Kd.S_reads' (d := sF) HS.out).2.2)
    go_wp2
    refine start_ (S := (fun W : World => Below wc.heap.size wc W)) (ds := []) #[bF,bF,bF,bF,bF,bF,bF,bF,bF,bF,bF,bF,bF,bF,bF,bF,bF,bF,bF,bF,bF,bF,bF,bF,bF,bF,bF,bF,bF,bF,bF,bF,bF,bF,bF,bF,bF,bF] (by kernel_rfl) (by rfl) (by rfl) (below_drew (Below.refl _ _)) (fun hS => ?_)
    refine take_ (i := 0) (N := some 19) (v := .agg #[.slice (some ⟨gf, 0, none⟩) 1 1]) (a' := ?axaw1) #[bT,bF,bF,bF,bF,bF,bF,bF,bF,bF,bF,bF,bF,bF,bF,bF,bF,bF,bF,bF,bF,bF,bF,bF,bF,bF,bF,bF,bF,bF,bF,bF,bF,bF,bF,bF,bF,bF] rfl rfl (by kernel_rfl) (fun _ _ _ h => h) (Or.inl ⟨by rfl, ?yyaw1⟩) hS ?haaw1 ?hhaw1
    case yyaw1 => intro W hW; have m0 := (blk_cell (blk_below X1.out hW) 0).trans rfl; have n0 := (blk_cell (blk_below X2.out hW) 0).trans rfl; obtain ⟨f0, f1, f2⟩ := cl3 (blk_below XF.out hW); go_simp; done
    case haaw1 => try simp only [Act.put, sA_, sZ_, sS_]; exact rfl
    refine one_ (i := 1) (N := some 20) #[bT,bT,bF,bF,bF,bF,bF,bF,bF,bF,bF,bF,bF,bF,bF,bF,bF,bF,bF,bF,bF,bF,bF,bF,bF,bF,bF,bF,bF,bF,bF,bF,bF,bF,bF,bF,bF,bF] rfl rfl (by kernel_rfl) (by decide) (fun K hK => ?_)
    refine goes_ Try.func16 (by kernel_rfl) rfl #[.agg #[.slice (some ⟨gf, 0, none⟩) 1 1]] (by rfl) rfl rfl (by simp only [List.map_toArray, List.map_cons, List.map_nil]; rfl) ?_
    refine (rightm_c _ 1 _ (Kd.C_below HCM.out hS)).mono ?_
    rintro e w7 ⟨rfl, hb⟩
    refine ⟨_, rfl, ?_⟩
    have hS' := hS.trans (hb.mono hS.size)
    clear hb
    refine hK _ _ hS' (fun hS => ?_)
    clear hK K
    try simp only [Act.put, sA_, sZ_, sS_]
    refine take_ (i := 2) (N := some 21) (v := .bool true) (a' := ?axaw2) #[bT,bT,bT,bF,bF,bF,bF,bF,bF,bF,bF,bF,bF,bF,bF,bF,bF,bF,bF,bF,bF,bF,bF,bF,bF,bF,bF,bF,bF,bF,bF,bF,bF,bF,bF,bF,bF,bF] rfl rfl (by kernel_rfl) (fun _ _ _ h => h) (Or.inl ⟨by rfl, ?yyaw2⟩) hS ?haaw2 ?hhaw2
    case yyaw2 => intro W hW; have m0 := (blk_cell (blk_below X1.out hW) 0).trans rfl; have n0 := (blk_cell (blk_below X2.out hW) 0).trans rfl; obtain ⟨f0, f1, f2⟩ := cl3 (blk_below XF.out hW); go_simp; done
    case haaw2 => try simp only [Act.put, sA_, sZ_, sS_]; exact rfl
    refine take_ (i := 3) (N := some 22) (v := .agg #[.slice (some ⟨g0, 0, none⟩) 1 c]) (a' := ?axaw3) #[bT,bT,bT,bT,bF,bF,bF,bF,bF,bF,bF,bF,bF,bF,bF,bF,bF,bF,bF,bF,bF,bF,bF,bF,bF,bF,bF,bF,bF,bF,bF,bF,bF,bF,bF,bF,bF,bF] rfl rfl (by kernel_rfl) (fun _ _ _ h => h) (Or.inl ⟨by rfl, ?yyaw3⟩) hS ?haaw3 ?hhaw3
    case yyaw3 => intro W hW; have m0 := (blk_cell (blk_below X1.out hW) 0).trans rfl; have n0 := (blk_cell (blk_below X2.out hW) 0).trans rfl; obtain ⟨f0, f1, f2⟩ := cl3 (blk_below XF.out hW); go_simp; done
    case haaw3 => try simp only [Act.put, sA_, sZ_, sS_]; exact rfl
    refine one_ (i := 4) (N := some 23) #[bT,bT,bT,bT,bT,bF,bF,bF,bF,bF,bF,bF,bF,bF,bF,bF,bF,bF,bF,bF,bF,bF,bF,bF,bF,bF,bF,bF,bF,bF,bF,bF,bF,bF,bF,bF,bF,bF] rfl rfl (by kernel_rfl) (by decide) (fun K hK => ?_)
    refine goes_ Try.func16 (by kernel_rfl) rfl #[.agg #[.slice (some ⟨g0, 0, none⟩) 1 c]] (by rfl) rfl rfl (by simp only [List.map_toArray, List.map_cons, List.map_nil]; rfl) ?_
    refine (rightn_c _ c _ (Kd.C_below HCN.out hS)).mono ?_
    rintro e w7 ⟨rfl, hb⟩
    refine ⟨_, rfl, ?_⟩
    have hS' := hS.trans (hb.mono hS.size)
    clear hb
    refine hK _ _ hS' (fun hS => ?_)
    clear hK K
    try simp only [Act.put, sA_, sZ_, sS_]
    refine take_ (i := 5) (N := some 24) (v := .bool true) (a' := ?axaw4) #[bT,bT,bT,bT,bT,bT,bF,bF,bF,bF,bF,bF,bF,bF,bF,bF,bF,bF,bF,bF,bF,bF,bF,bF,bF,bF,bF,bF,bF,bF,bF,bF,bF,bF,bF,bF,bF,bF] rfl rfl (by kernel_rfl) (fun _ _ _ h => h) (Or.inl ⟨by rfl, ?yyaw4⟩) hS ?haaw4 ?hhaw4
    case yyaw4 => intro W hW; have m0 := (blk_cell (blk_below X1.out hW) 0).trans rfl; have n0 := (blk_cell (blk_below X2.out hW) 0).trans rfl; obtain ⟨f0, f1, f2⟩ := cl3 (blk_below XF.out hW); go_simp; done
    case haaw4 => try simp only [Act.put, sA_, sZ_, sS_]; exact rfl
    refine take_ (i := 6) (N := some 25) (v := .bool true) (a' := ?axaw5) #[bT,bT,bT,bT,bT,bT,bT,bF,bF,bF,bF,bF,bF,bF,bF,bF,bF,bF,bF,bF,bF,bF,bF,bF,bF,bF,bF,bF,bF,bF,bF,bF,bF,bF,bF,bF,bF,bF] rfl rfl (by kernel_rfl) (fun _ _ _ h => h) (Or.inl ⟨by rfl, ?yyaw5⟩) hS ?haaw5 ?hhaw5
    case yyaw5 => intro W hW; have m0 := (blk_cell (blk_below X1.out hW) 0).trans rfl; have n0 := (blk_cell (blk_below X2.out hW) 0).trans rfl; obtain ⟨f0, f1, f2⟩ := cl3 (blk_below XF.out hW); go_simp; done
    case haaw5 => try simp only [Act.put, sA_, sZ_, sS_]; exact rfl
    refine take_ (i := 7) (N := some 26) (v := .bool true) (a' := ?axaw6) #[bT,bT,bT,bT,bT,bT,bT,bT,bF,bF,bF,bF,bF,bF,bF,bF,bF,bF,bF,bF,bF,bF,bF,bF,bF,bF,bF,bF,bF,bF,bF,bF,bF,bF,bF,bF,bF,bF] rfl rfl (by kernel_rfl) (fun _ _ _ h => h) (Or.inl ⟨by rfl, ?yyaw6⟩) hS ?haaw6 ?hhaw6
    case yyaw6 => intro W hW; have m0 := (blk_cell (blk_below X1.out hW) 0).trans rfl; have n0 := (blk_cell (blk_below X2.out hW) 0).trans rfl; obtain ⟨f0, f1, f2⟩ := cl3 (blk_below XF.out hW); go_simp; done
    case haaw6 => try simp only [Act.put, sA_, sZ_, sS_]; exact rfl
    refine take_ (i := 8) (N := some 27) (v := .agg #[.slice (some ⟨gf, 0, none⟩) 1 1]) (a' := ?axaw7) #[bT,bT,bT,bT,bT,bT,bT,bT,bT,bF,bF,bF,bF,bF,bF,bF,bF,bF,bF,bF,bF,bF,bF,bF,bF,bF,bF,bF,bF,bF,bF,bF,bF,bF,bF,bF,bF,bF] rfl rfl (by kernel_rfl) (fun _ _ _ h => h) (Or.inl ⟨by rfl, ?yyaw7⟩) hS ?haaw7 ?hhaw7
    case yyaw7 => intro W hW; have m0 := (blk_cell (blk_below X1.out hW) 0).trans rfl; have n0 := (blk_cell (blk_below X2.out hW) 0).trans rfl; obtain ⟨f0, f1, f2⟩ := cl3 (blk_below XF.out hW); go_simp; done
    case haaw7 => try simp only [Act.put, sA_, sZ_, sS_]; exact rfl
    refine pure_ (i := 9) (N := some 28) (v := .pointer (some ⟨g1, 0, none⟩)) (a' := ?axaw8) #[bT,bT,bT,bT,bT,bT,bT,bT,bT,bT,bF,bF,bF,bF,bF,bF,bF,bF,bF,bF,bF,bF,bF,bF,bF,bF,bF,bF,bF,bF,bF,bF,bF,bF,bF,bF,bF,bF] rfl rfl (by kernel_rfl) (fun _ _ _ h => h) (Or.inl ⟨by rfl, ?yyaw8⟩) ?haaw8 ?hhaw8
    case yyaw8 => intro W; go_simp; done
    case haaw8 => try simp only [Act.put, sA_, sZ_, sS_]; exact rfl
    refine take_ (i := 10) (N := some 29) (v := .slice (some ⟨gf, 0, none⟩) 1 1) (a' := ?axaw9) #[bT,bT,bT,bT,bT,bT,bT,bT,bT,bT,bT,bF,bF,bF,bF,bF,bF,bF,bF,bF,bF,bF,bF,bF,bF,bF,bF,bF,bF,bF,bF,bF,bF,bF,bF,bF,bF,bF] rfl rfl (by kernel_rfl) (fun _ _ _ h => h) (Or.inl ⟨by rfl, ?yyaw9⟩) hS ?haaw9 ?hhaw9
    case yyaw9 => intro W hW; have m0 := (blk_cell (blk_below X1.out hW) 0).trans rfl; have n0 := (blk_cell (blk_below X2.out hW) 0).trans rfl; obtain ⟨f0, f1, f2⟩ := cl3 (blk_below XF.out hW); go_simp; done
    case haaw9 => try simp only [Act.put, sA_, sZ_, sS_]; exact rfl
    refine take_ (i := 11) (N := some 30) (v := .pointer (some ⟨gf, 0, none⟩)) (a' := ?axaw10) #[bT,bT,bT,bT,bT,bT,bT,bT,bT,bT,bT,bT,bF,bF,bF,bF,bF,bF,bF,bF,bF,bF,bF,bF,bF,bF,bF,bF,bF,bF,bF,bF,bF,bF,bF,bF,bF,bF] rfl rfl (by kernel_rfl) (fun _ _ _ h => h) (Or.inl ⟨by rfl, ?yyaw10⟩) hS ?haaw10 ?hhaw10
    case yyaw10 => intro W hW; have m0 := (blk_cell (blk_below X1.out hW) 0).trans rfl; have n0 := (blk_cell (blk_below X2.out hW) 0).trans rfl; obtain ⟨f0, f1, f2⟩ := cl3 (blk_below XF.out hW); go_simp; done
    case haaw10 => try simp only [Act.put, sA_, sZ_, sS_]; exact rfl
    refine take_ (i := 12) (N := some 31) (v := .agg #[.int .i64 0, .int .i64 1, .slice (some ⟨gb, 0, none⟩) 1 1]) (a' := ?axaw11) #[bT,bT,bT,bT,bT,bT,bT,bT,bT,bT,bT,bT,bT,bF,bF,bF,bF,bF,bF,bF,bF,bF,bF,bF,bF,bF,bF,bF,bF,bF,bF,bF,bF,bF,bF,bF,bF,bF] rfl rfl (by kernel_rfl) (fun _ _ _ h => h) (Or.inl ⟨by rfl, ?yyaw11⟩) hS ?haaw11 ?hhaw11
    case yyaw11 => intro W hW; have m0 := (blk_cell (blk_below X1.out hW) 0).trans rfl; have n0 := (blk_cell (blk_below X2.out hW) 0).trans rfl; obtain ⟨f0, f1, f2⟩ := cl3 (blk_below XF.out hW); go_simp; done
    case haaw11 => try simp only [Act.put, sA_, sZ_, sS_]; exact rfl
    refine one_ (i := 13) (N := some 32) #[bT,bT,bT,bT,bT,bT,bT,bT,bT,bT,bT,bT,bT,bT,bF,bF,bF,bF,bF,bF,bF,bF,bF,bF,bF,bF,bF,bF,bF,bF,bF,bF,bF,bF,bF,bF,bF,bF] rfl rfl (by kernel_rfl) (by decide) (fun K hK => ?_)
    refine goes_ Try.func18 (by kernel_rfl) rfl #[.agg #[.slice (some ⟨gf, 0, none⟩) 1 1], .agg #[.int .i64 0, .int .i64 1, .slice (some ⟨gb, 0, none⟩) 1 1]] (by rfl) rfl rfl (by simp only [List.map_toArray, List.map_cons, List.map_nil]; rfl) ?_
    refine (funcm_c _ 1 gb _ (Kd.C_below HCM.out hS) (Kd.C_below HCB.out hS)).mono ?_
    rintro e w7 ⟨rfl, hb⟩
    refine ⟨_, rfl, ?_⟩
    have hS' := hS.trans (hb.mono hS.size)
    clear hb
    refine hK _ _ hS' (fun hS => ?_)
    clear hK K
    try simp only [Act.put, sA_, sZ_, sS_]
    refine take_ (i := 14) (N := some 33) (v := .bool true) (a' := ?axaw12) #[bT,bT,bT,bT,bT,bT,bT,bT,bT,bT,bT,bT,bT,bT,bT,bF,bF,bF,bF,bF,bF,bF,bF,bF,bF,bF,bF,bF,bF,bF,bF,bF,bF,bF,bF,bF,bF,bF] rfl rfl (by kernel_rfl) (fun _ _ _ h => h) (Or.inl ⟨by rfl, ?yyaw12⟩) hS ?haaw12 ?hhaw12
    case yyaw12 => intro W hW; have m0 := (blk_cell (blk_below X1.out hW) 0).trans rfl; have n0 := (blk_cell (blk_below X2.out hW) 0).trans rfl; obtain ⟨f0, f1, f2⟩ := cl3 (blk_below XF.out hW); go_simp; done
    case haaw12 => try simp only [Act.put, sA_, sZ_, sS_]; exact rfl
    refine take_ (i := 15) (N := some 34) (v := .bool true) (a' := ?axaw13) #[bT,bT,bT,bT,bT,bT,bT,bT,bT,bT,bT,bT,bT,bT,bT,bT,bF,bF,bF,bF,bF,bF,bF,bF,bF,bF,bF,bF,bF,bF,bF,bF,bF,bF,bF,bF,bF,bF] rfl rfl (by kernel_rfl) (fun _ _ _ h => h) (Or.inl ⟨by rfl, ?yyaw13⟩) hS ?haaw13 ?hhaw13
    case yyaw13 => intro W hW; have m0 := (blk_cell (blk_below X1.out hW) 0).trans rfl; have n0 := (blk_cell (blk_below X2.out hW) 0).trans rfl; obtain ⟨f0, f1, f2⟩ := cl3 (blk_below XF.out hW); go_simp; done
    case haaw13 => try simp only [Act.put, sA_, sZ_, sS_]; exact rfl
    refine take_ (i := 16) (N := some 35) (v := .agg #[.slice (some ⟨g0, 0, none⟩) 1 c]) (a' := ?axaw14) #[bT,bT,bT,bT,bT,bT,bT,bT,bT,bT,bT,bT,bT,bT,bT,bT,bT,bF,bF,bF,bF,bF,bF,bF,bF,bF,bF,bF,bF,bF,bF,bF,bF,bF,bF,bF,bF,bF] rfl rfl (by kernel_rfl) (fun _ _ _ h => h) (Or.inl ⟨by rfl, ?yyaw14⟩) hS ?haaw14 ?hhaw14
    case yyaw14 => intro W hW; have m0 := (blk_cell (blk_below X1.out hW) 0).trans rfl; have n0 := (blk_cell (blk_below X2.out hW) 0).trans rfl; obtain ⟨f0, f1, f2⟩ := cl3 (blk_below XF.out hW); go_simp; done
    case haaw14 => try simp only [Act.put, sA_, sZ_, sS_]; exact rfl
    refine take_ (i := 17) (N := some 36) (v := .agg #[.slice (some ⟨gf, 0, none⟩) 1 1]) (a' := ?axaw15) #[bT,bT,bT,bT,bT,bT,bT,bT,bT,bT,bT,bT,bT,bT,bT,bT,bT,bT,bF,bF,bF,bF,bF,bF,bF,bF,bF,bF,bF,bF,bF,bF,bF,bF,bF,bF,bF,bF] rfl rfl (by kernel_rfl) (fun _ _ _ h => h) (Or.inl ⟨by rfl, ?yyaw15⟩) hS ?haaw15 ?hhaw15
    case yyaw15 => intro W hW; have m0 := (blk_cell (blk_below X1.out hW) 0).trans rfl; have n0 := (blk_cell (blk_below X2.out hW) 0).trans rfl; obtain ⟨f0, f1, f2⟩ := cl3 (blk_below XF.out hW); go_simp; done
    case haaw15 => try simp only [Act.put, sA_, sZ_, sS_]; exact rfl
    refine one_ (i := 18) (N := some 37) #[bT,bT,bT,bT,bT,bT,bT,bT,bT,bT,bT,bT,bT,bT,bT,bT,bT,bT,bT,bF,bF,bF,bF,bF,bF,bF,bF,bF,bF,bF,bF,bF,bF,bF,bF,bF,bF,bF] rfl rfl (by kernel_rfl) (by decide) (fun K hK => ?_)
    refine goes_ Try.func25 (by kernel_rfl) rfl #[.agg #[.slice (some ⟨g0, 0, none⟩) 1 c], .agg #[.slice (some ⟨gf, 0, none⟩) 1 1]] (by rfl) rfl rfl (by simp only [List.map_toArray, List.map_cons, List.map_nil]; rfl) ?_
    refine (samen_c _ c _ 1 _ (Kd.C_below HCN.out hS) (Kd.C_below HCM.out hS)).mono ?_
    rintro e w7 ⟨rfl, hb⟩
    refine ⟨_, rfl, ?_⟩
    have hS' := hS.trans (hb.mono hS.size)
    clear hb
    refine hK _ _ hS' (fun hS => ?_)
    clear hK K
    try simp only [Act.put, sA_, sZ_, sS_]
    refine take_ (i := 19) (N := some 38) (v := .bool true) (a' := ?axaw16) #[bT,bT,bT,bT,bT,bT,bT,bT,bT,bT,bT,bT,bT,bT,bT,bT,bT,bT,bT,bT,bF,bF,bF,bF,bF,bF,bF,bF,bF,bF,bF,bF,bF,bF,bF,bF,bF,bF] rfl rfl (by kernel_rfl) (fun _ _ _ h => h) (Or.inl ⟨by rfl, ?yyaw16⟩) hS ?haaw16 ?hhaw16
    case yyaw16 => intro W hW; have m0 := (blk_cell (blk_below X1.out hW) 0).trans rfl; have n0 := (blk_cell (blk_below X2.out hW) 0).trans rfl; obtain ⟨f0, f1, f2⟩ := cl3 (blk_below XF.out hW); go_simp; done
    case haaw16 => try simp only [Act.put, sA_, sZ_, sS_]; exact rfl
    refine take_ (i := 20) (N := some 39) (v := .bool true) (a' := ?axaw17) #[bT,bT,bT,bT,bT,bT,bT,bT,bT,bT,bT,bT,bT,bT,bT,bT,bT,bT,bT,bT,bT,bF,bF,bF,bF,bF,bF,bF,bF,bF,bF,bF,bF,bF,bF,bF,bF,bF] rfl rfl (by kernel_rfl) (fun _ _ _ h => h) (Or.inl ⟨by rfl, ?yyaw17⟩) hS ?haaw17 ?hhaw17
    case yyaw17 => intro W hW; have m0 := (blk_cell (blk_below X1.out hW) 0).trans rfl; have n0 := (blk_cell (blk_below X2.out hW) 0).trans rfl; obtain ⟨f0, f1, f2⟩ := cl3 (blk_below XF.out hW); go_simp; done
    case haaw17 => try simp only [Act.put, sA_, sZ_, sS_]; exact rfl
    refine take_ (i := 21) (N := some 40) (v := .bool true) (a' := ?axaw18) #[bT,bT,bT,bT,bT,bT,bT,bT,bT,bT,bT,bT,bT,bT,bT,bT,bT,bT,bT,bT,bT,bT,bF,bF,bF,bF,bF,bF,bF,bF,bF,bF,bF,bF,bF,bF,bF,bF] rfl rfl (by kernel_rfl) (fun _ _ _ h => h) (Or.inl ⟨by rfl, ?yyaw18⟩) hS ?haaw18 ?hhaw18
    case yyaw18 => intro W hW; have m0 := (blk_cell (blk_below X1.out hW) 0).trans rfl; have n0 := (blk_cell (blk_below X2.out hW) 0).trans rfl; obtain ⟨f0, f1, f2⟩ := cl3 (blk_below XF.out hW); go_simp; done
    case haaw18 => try simp only [Act.put, sA_, sZ_, sS_]; exact rfl
    refine pure_ (i := 22) (N := some 41) (v := .pointer (some ⟨g1, 0, none⟩)) (a' := ?axaw19) #[bT,bT,bT,bT,bT,bT,bT,bT,bT,bT,bT,bT,bT,bT,bT,bT,bT,bT,bT,bT,bT,bT,bT,bF,bF,bF,bF,bF,bF,bF,bF,bF,bF,bF,bF,bF,bF,bF] rfl rfl (by kernel_rfl) (fun _ _ _ h => h) (Or.inl ⟨by rfl, ?yyaw19⟩) ?haaw19 ?hhaw19
    case yyaw19 => intro W; go_simp; done
    case haaw19 => try simp only [Act.put, sA_, sZ_, sS_]; exact rfl
    refine take_ (i := 23) (N := some 42) (v := .slice (some ⟨gf, 0, none⟩) 1 1) (a' := ?axaw20) #[bT,bT,bT,bT,bT,bT,bT,bT,bT,bT,bT,bT,bT,bT,bT,bT,bT,bT,bT,bT,bT,bT,bT,bT,bF,bF,bF,bF,bF,bF,bF,bF,bF,bF,bF,bF,bF,bF] rfl rfl (by kernel_rfl) (fun _ _ _ h => h) (Or.inl ⟨by rfl, ?yyaw20⟩) hS ?haaw20 ?hhaw20
    case yyaw20 => intro W hW; have m0 := (blk_cell (blk_below X1.out hW) 0).trans rfl; have n0 := (blk_cell (blk_below X2.out hW) 0).trans rfl; obtain ⟨f0, f1, f2⟩ := cl3 (blk_below XF.out hW); go_simp; done
    case haaw20 => try simp only [Act.put, sA_, sZ_, sS_]; exact rfl
    refine take_ (i := 24) (N := some 43) (v := .pointer (some ⟨gf, 0, none⟩)) (a' := ?axaw21) #[bT,bT,bT,bT,bT,bT,bT,bT,bT,bT,bT,bT,bT,bT,bT,bT,bT,bT,bT,bT,bT,bT,bT,bT,bT,bF,bF,bF,bF,bF,bF,bF,bF,bF,bF,bF,bF,bF] rfl rfl (by kernel_rfl) (fun _ _ _ h => h) (Or.inl ⟨by rfl, ?yyaw21⟩) hS ?haaw21 ?hhaw21
    case yyaw21 => intro W hW; have m0 := (blk_cell (blk_below X1.out hW) 0).trans rfl; have n0 := (blk_cell (blk_below X2.out hW) 0).trans rfl; obtain ⟨f0, f1, f2⟩ := cl3 (blk_below XF.out hW); go_simp; done
    case haaw21 => try simp only [Act.put, sA_, sZ_, sS_]; exact rfl
    refine take_ (i := 25) (N := some 44) (v := .agg #[.int .i64 0, .int .i64 1, .slice (some ⟨gb, 0, none⟩) 1 1]) (a' := ?axaw22) #[bT,bT,bT,bT,bT,bT,bT,bT,bT,bT,bT,bT,bT,bT,bT,bT,bT,bT,bT,bT,bT,bT,bT,bT,bT,bT,bF,bF,bF,bF,bF,bF,bF,bF,bF,bF,bF,bF] rfl rfl (by kernel_rfl) (fun _ _ _ h => h) (Or.inl ⟨by rfl, ?yyaw22⟩) hS ?haaw22 ?hhaw22
    case yyaw22 => intro W hW; have m0 := (blk_cell (blk_below X1.out hW) 0).trans rfl; have n0 := (blk_cell (blk_below X2.out hW) 0).trans rfl; obtain ⟨f0, f1, f2⟩ := cl3 (blk_below XF.out hW); go_simp; done
    case haaw22 => try simp only [Act.put, sA_, sZ_, sS_]; exact rfl
    refine one_ (i := 26) (N := some 45) #[bT,bT,bT,bT,bT,bT,bT,bT,bT,bT,bT,bT,bT,bT,bT,bT,bT,bT,bT,bT,bT,bT,bT,bT,bT,bT,bT,bF,bF,bF,bF,bF,bF,bF,bF,bF,bF,bF] rfl rfl (by kernel_rfl) (by decide) (fun K hK => ?_)
    refine goes_ Try.func20 (by kernel_rfl) rfl #[.agg #[.int .i64 0, .int .i64 1, .slice (some ⟨gb, 0, none⟩) 1 1]] (by rfl) rfl rfl (by simp only [List.map_toArray, List.map_cons, List.map_nil]; rfl) ?_
    refine (cleans2_c gb _ (Kd.C_below HCB.out hS)).mono ?_
    rintro e w7 ⟨⟨Ac, cc, rfl⟩, hb⟩
    refine ⟨_, rfl, ?_⟩
    have hS' := hS.trans (hb.mono hS.size)
    clear hb
    refine hK _ _ hS' (fun hS => ?_)
    clear hK K
    try simp only [Act.put, sA_, sZ_, sS_]
    refine take_ (i := 27) (N := some 46) (v := .int .i64 1) (a' := ?axaw23) #[bT,bT,bT,bT,bT,bT,bT,bT,bT,bT,bT,bT,bT,bT,bT,bT,bT,bT,bT,bT,bT,bT,bT,bT,bT,bT,bT,bT,bF,bF,bF,bF,bF,bF,bF,bF,bF,bF] rfl rfl (by kernel_rfl) (fun _ _ _ h => h) (Or.inl ⟨by rfl, ?yyaw23⟩) hS ?haaw23 ?hhaw23
    case yyaw23 => intro W hW; have m0 := (blk_cell (blk_below X1.out hW) 0).trans rfl; have n0 := (blk_cell (blk_below X2.out hW) 0).trans rfl; obtain ⟨f0, f1, f2⟩ := cl3 (blk_below XF.out hW); go_simp; done
    case haaw23 => try simp only [Act.put, sA_, sZ_, sS_]; exact rfl
    refine take_ (i := 28) (N := some 47) (v := .bool true) (a' := ?axaw24) #[bT,bT,bT,bT,bT,bT,bT,bT,bT,bT,bT,bT,bT,bT,bT,bT,bT,bT,bT,bT,bT,bT,bT,bT,bT,bT,bT,bT,bT,bF,bF,bF,bF,bF,bF,bF,bF,bF] rfl rfl (by kernel_rfl) (fun _ _ _ h => h) (Or.inl ⟨by rfl, ?yyaw24⟩) hS ?haaw24 ?hhaw24
    case yyaw24 => intro W hW; have m0 := (blk_cell (blk_below X1.out hW) 0).trans rfl; have n0 := (blk_cell (blk_below X2.out hW) 0).trans rfl; obtain ⟨f0, f1, f2⟩ := cl3 (blk_below XF.out hW); go_simp; done
    case haaw24 => try simp only [Act.put, sA_, sZ_, sS_]; exact rfl
    refine take_ (i := 29) (N := some 48) (v := .bool true) (a' := ?axaw25) #[bT,bT,bT,bT,bT,bT,bT,bT,bT,bT,bT,bT,bT,bT,bT,bT,bT,bT,bT,bT,bT,bT,bT,bT,bT,bT,bT,bT,bT,bT,bF,bF,bF,bF,bF,bF,bF,bF] rfl rfl (by kernel_rfl) (fun _ _ _ h => h) (Or.inl ⟨by rfl, ?yyaw25⟩) hS ?haaw25 ?hhaw25
    case yyaw25 => intro W hW; have m0 := (blk_cell (blk_below X1.out hW) 0).trans rfl; have n0 := (blk_cell (blk_below X2.out hW) 0).trans rfl; obtain ⟨f0, f1, f2⟩ := cl3 (blk_below XF.out hW); go_simp; done
    case haaw25 => try simp only [Act.put, sA_, sZ_, sS_]; exact rfl
    refine take_ (i := 30) (N := some 49) (v := .bool true) (a' := ?axaw26) #[bT,bT,bT,bT,bT,bT,bT,bT,bT,bT,bT,bT,bT,bT,bT,bT,bT,bT,bT,bT,bT,bT,bT,bT,bT,bT,bT,bT,bT,bT,bT,bF,bF,bF,bF,bF,bF,bF] rfl rfl (by kernel_rfl) (fun _ _ _ h => h) (Or.inl ⟨by rfl, ?yyaw26⟩) hS ?haaw26 ?hhaw26
    case yyaw26 => intro W hW; have m0 := (blk_cell (blk_below X1.out hW) 0).trans rfl; have n0 := (blk_cell (blk_below X2.out hW) 0).trans rfl; obtain ⟨f0, f1, f2⟩ := cl3 (blk_below XF.out hW); go_simp; done
    case haaw26 => try simp only [Act.put, sA_, sZ_, sS_]; exact rfl
    refine take_ (i := 31) (N := some 50) (v := .agg #[.int .i64 3, .int .i64 0, .int .i64 0, .int .i64 0, .slice none 0 0, .int .i64 0, .int .i64 0, .int .i64 0]) (a' := ?axaw27) #[bT,bT,bT,bT,bT,bT,bT,bT,bT,bT,bT,bT,bT,bT,bT,bT,bT,bT,bT,bT,bT,bT,bT,bT,bT,bT,bT,bT,bT,bT,bT,bT,bF,bF,bF,bF,bF,bF] rfl rfl (by kernel_rfl) (fun _ _ _ h => h) (Or.inl ⟨by rfl, ?yyaw27⟩) hS ?haaw27 ?hhaw27
    case yyaw27 => intro W hW; have m0 := (blk_cell (blk_below X1.out hW) 0).trans rfl; have n0 := (blk_cell (blk_below X2.out hW) 0).trans rfl; obtain ⟨f0, f1, f2⟩ := cl3 (blk_below XF.out hW); go_simp; done
    case haaw27 => try simp only [Act.put, sA_, sZ_, sS_]; exact rfl
    refine take_ (i := 32) (N := some 51) (v := .agg #[.bool false, .int .i64 0, .slice none 0 0, .bool false, .bool false, .slice none 0 0, .int .i64 3, .int .i64 0, .int .i64 0, .int .i64 0, .slice none 0 0, .int .i64 0, .int .i64 0, .int .i64 0]) (a' := ?axaw28) #[bT,bT,bT,bT,bT,bT,bT,bT,bT,bT,bT,bT,bT,bT,bT,bT,bT,bT,bT,bT,bT,bT,bT,bT,bT,bT,bT,bT,bT,bT,bT,bT,bT,bF,bF,bF,bF,bF] rfl rfl (by kernel_rfl) (fun _ _ _ h => h) (Or.inl ⟨by rfl, ?yyaw28⟩) hS ?haaw28 ?hhaw28
    case yyaw28 => intro W hW; have m0 := (blk_cell (blk_below X1.out hW) 0).trans rfl; have n0 := (blk_cell (blk_below X2.out hW) 0).trans rfl; obtain ⟨f0, f1, f2⟩ := cl3 (blk_below XF.out hW); go_simp; done
    case haaw28 => try simp only [Act.put, sA_, sZ_, sS_]; exact rfl
    refine one_ (i := 33) (N := some 52) #[bT,bT,bT,bT,bT,bT,bT,bT,bT,bT,bT,bT,bT,bT,bT,bT,bT,bT,bT,bT,bT,bT,bT,bT,bT,bT,bT,bT,bT,bT,bT,bT,bT,bT,bF,bF,bF,bF] rfl rfl (by kernel_rfl) (by decide) (fun K hK => ?_)
    refine goes_ Try.func23 (by kernel_rfl) rfl #[.agg #[.bool false, .int .i64 0, .slice none 0 0, .bool false, .bool false, .slice none 0 0, .int .i64 3, .int .i64 0, .int .i64 0, .int .i64 0, .slice none 0 0, .int .i64 0, .int .i64 0, .int .i64 0]] (by rfl) rfl rfl (by simp only [List.map_toArray, List.map_cons, List.map_nil]; rfl) ?_
    refine (goals2_c _).mono ?_
    rintro e w7 ⟨⟨Ag, cg, rfl⟩, hb⟩
    refine ⟨_, rfl, ?_⟩
    have hS' := hS.trans (hb.mono hS.size)
    clear hb
    refine hK _ _ hS' (fun hS => ?_)
    clear hK K
    try simp only [Act.put, sA_, sZ_, sS_]
    refine take_ (i := 34) (N := some 53) (v := .int .i64 2) (a' := ?axaw29) #[bT,bT,bT,bT,bT,bT,bT,bT,bT,bT,bT,bT,bT,bT,bT,bT,bT,bT,bT,bT,bT,bT,bT,bT,bT,bT,bT,bT,bT,bT,bT,bT,bT,bT,bT,bF,bF,bF] rfl rfl (by kernel_rfl) (fun _ _ _ h => h) (Or.inl ⟨by rfl, ?yyaw29⟩) hS ?haaw29 ?hhaw29
    case yyaw29 => intro W hW; have m0 := (blk_cell (blk_below X1.out hW) 0).trans rfl; have n0 := (blk_cell (blk_below X2.out hW) 0).trans rfl; obtain ⟨f0, f1, f2⟩ := cl3 (blk_below XF.out hW); go_simp; done
    case haaw29 => try simp only [Act.put, sA_, sZ_, sS_]; exact rfl
    refine take_ (i := 35) (N := some 54) (v := .bool true) (a' := ?axaw30) #[bT,bT,bT,bT,bT,bT,bT,bT,bT,bT,bT,bT,bT,bT,bT,bT,bT,bT,bT,bT,bT,bT,bT,bT,bT,bT,bT,bT,bT,bT,bT,bT,bT,bT,bT,bT,bF,bF] rfl rfl (by kernel_rfl) (fun _ _ _ h => h) (Or.inl ⟨by rfl, ?yyaw30⟩) hS ?haaw30 ?hhaw30
    case yyaw30 => intro W hW; have m0 := (blk_cell (blk_below X1.out hW) 0).trans rfl; have n0 := (blk_cell (blk_below X2.out hW) 0).trans rfl; obtain ⟨f0, f1, f2⟩ := cl3 (blk_below XF.out hW); go_simp; done
    case haaw30 => try simp only [Act.put, sA_, sZ_, sS_]; exact rfl
    refine take_ (i := 36) (N := some 55) (v := .bool true) (a' := ?axaw31) #[bT,bT,bT,bT,bT,bT,bT,bT,bT,bT,bT,bT,bT,bT,bT,bT,bT,bT,bT,bT,bT,bT,bT,bT,bT,bT,bT,bT,bT,bT,bT,bT,bT,bT,bT,bT,bT,bF] rfl rfl (by kernel_rfl) (fun _ _ _ h => h) (Or.inl ⟨by rfl, ?yyaw31⟩) hS ?haaw31 ?hhaw31
    case yyaw31 => intro W hW; have m0 := (blk_cell (blk_below X1.out hW) 0).trans rfl; have n0 := (blk_cell (blk_below X2.out hW) 0).trans rfl; obtain ⟨f0, f1, f2⟩ := cl3 (blk_below XF.out hW); go_simp; done
    case haaw31 => try simp only [Act.put, sA_, sZ_, sS_]; exact rfl
    refine take_ (i := 37) (N := some 0) (v := .bool true) (a' := ?axaw32) #[bT,bT,bT,bT,bT,bT,bT,bT,bT,bT,bT,bT,bT,bT,bT,bT,bT,bT,bT,bT,bT,bT,bT,bT,bT,bT,bT,bT,bT,bT,bT,bT,bT,bT,bT,bT,bT,bT] rfl rfl (by kernel_rfl) (fun _ _ _ h => h) (Or.inl ⟨by rfl, ?yyaw32⟩) hS ?haaw32 ?hhaw32
    case yyaw32 => intro W hW; have m0 := (blk_cell (blk_below X1.out hW) 0).trans rfl; have n0 := (blk_cell (blk_below X2.out hW) 0).trans rfl; obtain ⟨f0, f1, f2⟩ := cl3 (blk_below XF.out hW); go_simp; done
    case haaw32 => try simp only [Act.put, sA_, sZ_, sS_]; exact rfl
    refine done_ (by kernel_rfl) ?_
    go_wp2
    go_ret
    exact ⟨rfl, HB.out.trans (hS.mono HB.out.size)⟩
end Go.Proofs.Ytbfialebaoeicaa.X
namespace Go.Proofs.Ytbfialebaoeicaa.X
open Go.RowKit Go.Proofs.YtbfialebaoeicaaW.PrintWords Go.Proofs.YtbfialebaoeicaaW.PrintLast Go.Proofs.YtbfialebaoeicaaW.PrintMore
set_option linter.all false
theorem mk_get2 {α : Type} (l : List α) (i : Nat) (h : i < (Array.mk l).size) : (Array.mk l)[i] = l[i]'h := rfl
set_option maxHeartbeats 16000000 in
set_option maxRecDepth 100000 in
theorem r5c {s0 s1 s2 s4 s5 s6 s7 s8 s9 s10 s11 s12 s13 s14 s15 s16 s17 s18 s19 s20 s21 s22 s23 s24 s25 s26 s27 s28 s29 s30 s31 s32 s33 s34 s35 s36 s37 s38 s39 s40 s41 s42 s43 s44 s45 s46 s47 s48 s49 s50 s51 s52 s53 s54 s55 s56 s57 s58 s59 s60 s61 s62 s63 s64 s65 s66 s67 s68 s69 s70 s71 s72 s73 s74 s75 s76 s77 s78 s79 s80 s81 s82 s83 s84 s85 s86 s87 s88 s89 s90 s91 s92 s93 s94 s95 s96 s97 s98 s99 s100 s101 s102 s103 s104 s105 s106 s107 s108 s109 s110 s111 s112 s113 s114 s115 s116 s117 s118 s119 s120 s121 s122 s123 s124 s125 s126 s127 s128 s129 s130 s131 s132 s133 s134 s135 s136 s137 s138 s139 s140 s141 s142 s143 s144 s145 s146 s147 : Value} {Q : Exit → Act → World → Prop} (m : List S27) (A0 : Option Addr) (c0 : Nat) (g3 : Nat) (wr : World) (hm : Kd.C k27 wr A0 m.length m) (hc0 : m.length ≤ c0) (hn : BC m) (h3 : wr.heap[g3]? = some (.cells #[.slice A0 m.length c0] 24 (0, 0)))
  (hP : ∀ c (a : Act) (N : Option Tmp) (v : Value) w, Q (.panic c) (a.put N v) w → Q (.panic c) a w)
  (hQ : ∀ (D1 D2 : Option Addr) (k1 k2 g7 g8 lo1 hi1 lo2 hi2 : Nat) (W : World), Below wr.heap.size wr W → W.heap[g7]? = some (.cells #[.slice D1 m.length k1] 24 (0, 0)) → W.heap[g8]? = some (.cells #[.slice D2 m.length k2] 24 (0, 0)) → Kd.S sF 27 W lo1 (fun k => k < hi1) (.slice D1 m.length k1) m → Kd.S sF 27 W lo2 (fun k => k < hi2) (.slice D2 m.length k2) m →
   (wr.heap.size ≤ lo1 ∧ lo1 ≤ hi1 ∧ hi1 ≤ lo2 ∧ lo2 ≤ hi2 ∧ wr.heap.size ≤ g7 ∧ wr.heap.size ≤ g8 ∧ g7 ≠ g8 ∧ (g7 < lo1 ∨ hi1 ≤ g7) ∧ (g8 < lo1 ∨ hi1 ≤ g8) ∧ (g7 < lo2 ∨ hi2 ≤ g7) ∧ (g8 < lo2 ∨ hi2 ≤ g8)) → Q .normal { tmps := #[s0, s1, s2, .pointer (some ⟨g3, 0, none⟩), s4, s5, s6, .pointer (some ⟨g7, 0, none⟩), .pointer (some ⟨g8, 0, none⟩), s9, s10, s11, s12, s13, s14, s15, s16, s17, s18, s19, s20, .agg #[.slice A0 m.length c0], .agg #[.slice D1 m.length k1], .agg #[.slice A0 m.length c0], .agg #[.slice D2 m.length k2], s25, s26, s27, s28, s29, s30, s31, s32, s33, s34, s35, s36, s37, s38, s39, s40, s41, s42, s43, s44, s45, s46, s47, s48, s49, s50, s51, s52, s53, s54, s55, s56, s57, s58, s59, s60, s61, s62, s63, s64, s65, s66, s67, s68, s69, s70, s71, s72, s73, s74, s75, s76, s77, s78, s79, s80, s81, s82, s83, s84, s85, s86, s87, s88, s89, s90, s91, s92, s93, s94, s95, s96, s97, s98, s99, s100, s101, s102, s103, s104, s105, s106, s107, s108, s109, s110, s111, s112, s113, s114, s115, s116, s117, s118, s119, s120, s121, s122, s123, s124, s125, s126, s127, s128, s129, s130, s131, s132, s133, s134, s135, s136, s137, s138, s139, s140, s141, s142, s143, s144, s145, s146, s147], defers := [] } W) :
  (Code.region 5 (opsOf Try.f4 5) true).wp Try.prog Q { tmps := #[s0, s1, s2, .pointer (some ⟨g3, 0, none⟩), s4, s5, s6, s7, s8, s9, s10, s11, s12, s13, s14, s15, s16, s17, s18, s19, s20, s21, s22, s23, s24, s25, s26, s27, s28, s29, s30, s31, s32, s33, s34, s35, s36, s37, s38, s39, s40, s41, s42, s43, s44, s45, s46, s47, s48, s49, s50, s51, s52, s53, s54, s55, s56, s57, s58, s59, s60, s61, s62, s63, s64, s65, s66, s67, s68, s69, s70, s71, s72, s73, s74, s75, s76, s77, s78, s79, s80, s81, s82, s83, s84, s85, s86, s87, s88, s89, s90, s91, s92, s93, s94, s95, s96, s97, s98, s99, s100, s101, s102, s103, s104, s105, s106, s107, s108, s109, s110, s111, s112, s113, s114, s115, s116, s117, s118, s119, s120, s121, s122, s123, s124, s125, s126, s127, s128, s129, s130, s131, s132, s133, s134, s135, s136, s137, s138, s139, s140, s141, s142, s143, s144, s145, s146, s147], defers := [] } wr := by
 have HM := Aside0.mk hm
 have HC := Aside0.mk hc0
 have HN := Aside0.mk hn
 have H3 := Aside0.mk h3
 have HQQ := Aside0.mk hQ
 clear hm hc0 hn h3 hQ
 have hu24 := Try.underlying24
 conv in opsOf _ _ => whnf
 refine start_ (S := (fun W : World => Below wr.heap.size wr W)) (ds := [6, 7]) #[bF,bF,bF,bF,bF,bF,bF,bF] (by kernel_rfl) (by rfl) (by rfl) (below_drew (Below.refl _ _)) (fun hS => ?_)
 refine take_ (i := 0) (N := some 21) (v := .agg #[.slice A0 m.length c0]) (a' := ?axrc1) #[bT,bF,bF,bF,bF,bF,bF,bF] rfl rfl (by kernel_rfl) (fun c a w h => hP c a _ _ w h) (Or.inl ⟨by rfl, ?yyrc1⟩) hS ?harc1 ?hhrc1
 case yyrc1 => intro W hW; have m0 := (blk_cell (blk_below H3.out hW) 0).trans rfl; go_simp; done
 case harc1 => try simp only [Act.put, sA_, sZ_, sS_]; exact rfl
 refine take_ (i := 2) (N := some 23) (v := .agg #[.slice A0 m.length c0]) (a' := ?axrc2) #[bT,bF,bT,bF,bF,bF,bF,bF] rfl rfl (by kernel_rfl) (fun c a w h => hP c a _ _ w h) (Or.inl ⟨by rfl, ?yyrc2⟩) hS ?harc2 ?hhrc2
 case yyrc2 => intro W hW; have m0 := (blk_cell (blk_below H3.out hW) 0).trans rfl; go_simp; done
 case harc2 => try simp only [Act.put, sA_, sZ_, sS_]; exact rfl
 refine three_ (i := 1) (j := 4) (k := 5) (Ni := some 22) (Nj := some 7) (Nk := some 8) #[bT,bT,bT,bF,bF,bF,bF,bF] #[bT,bF,bT,bF,bT,bF,bF,bF] #[bT,bF,bT,bF,bF,bT,bF,bF] rfl rfl rfl rfl rfl rfl (by kernel_rfl) (by decide) (by decide) (by decide) (fun K hK => ?_) (fun K hK => ?_) (fun K hK => ?_)
 ·skip
  refine goes_ Try.func24 (by kernel_rfl) rfl #[.agg #[.slice A0 m.length c0]] (by rfl) rfl rfl (by simp only [List.map_toArray, List.map_cons, List.map_nil]; rfl) ?_
  refine (copy_c m A0 c0 _ (Kd.C_below HM.out hS) HC.out HN.out).mono ?_
  rintro e w1 ⟨⟨v, rfl, hs⟩, hb⟩
  obtain ⟨D1, k1, rfl, _, _⟩ := SM_reads hs
  refine ⟨_, rfl, ?_⟩
  obtain ⟨lo1, hi1, HSn, HLn, HBn⟩ : ∃ lo1 hi1 : Nat, Aside0 (Kd.S sF 27 w1 lo1 (fun k => k < hi1) (.slice D1 m.length k1) m) ∧ Aside0 (hi1 ≤ w1.heap.size) ∧ Aside0 (wr.heap.size ≤ lo1 ∧ lo1 ≤ hi1) := ⟨_, w1.heap.size, ⟨Kd.S_mono (Kd.S_bound hs) (fun k hk => hk.2.2.1)⟩, ⟨Nat.le_refl _⟩, ⟨hS.size, hb.size⟩⟩
  have S1 := HSn
  have HL1 := HLn
  have HB1 := HBn
  clear HSn HLn HBn hs
  have hS' := hS.trans (hb.mono hS.size)
  clear hb
  refine hK _ _ hS' (fun hS => ?_)
  clear hK K
  try simp only [mk_get2, List.getElem_cons_zero, List.getElem_cons_succ, Act.put, List.setIfInBounds_toArray, List.set_cons_zero, List.set_cons_succ]
  refine three_ (i := 3) (j := 4) (k := 5) (Ni := some 24) (Nj := some 7) (Nk := some 8) #[bT,bT,bT,bT,bF,bF,bF,bF] #[bT,bT,bT,bF,bT,bF,bF,bF] #[bT,bT,bT,bF,bF,bT,bF,bF] rfl rfl rfl rfl rfl rfl (by kernel_rfl) (by decide) (by decide) (by decide) (fun K hK => ?_) (fun K hK => ?_) (fun K hK => ?_)
  ·skip
   refine goes_ Try.func24 (by kernel_rfl) rfl #[.agg #[.slice A0 m.length c0]] (by rfl) rfl rfl (by simp only [List.map_toArray, List.map_cons, List.map_nil]; rfl) ?_
   refine (copy_c m A0 c0 _ (Kd.C_below HM.out hS) HC.out HN.out).mono ?_
   rintro e w2 ⟨⟨v, rfl, hs⟩, hb⟩
   obtain ⟨D2, k2, rfl, _, _⟩ := SM_reads hs
   refine ⟨_, rfl, ?_⟩
   obtain ⟨lo2, hi2, HSn, HLn, HBn⟩ : ∃ lo2 hi2 : Nat, Aside0 (Kd.S sF 27 w2 lo2 (fun k => k < hi2) (.slice D2 m.length k2) m) ∧ Aside0 (hi2 ≤ w2.heap.size) ∧ Aside0 (wr.heap.size ≤ lo2 ∧ lo2 ≤ hi2 ∧ hi1 ≤ lo2) := ⟨_, w2.heap.size, ⟨Kd.S_mono (Kd.S_bound hs) (fun k hk => hk.2.2.1)⟩, ⟨Nat.le_refl _⟩, ⟨hS.size, hb.size, HL1.out⟩⟩
   have S1_ := Aside0.mk (Kd.S_below S1.out hb)
   have HL1_ := Aside0.mk (Nat.le_trans HL1.out hb.size)
   clear S1
   have S1 := S1_
   clear S1_
   clear HL1
   have HL1 := HL1_
   clear HL1_
   have S2 := HSn
   have HL2 := HLn
   have HB2 := HBn
   clear HSn HLn HBn hs
   have hS' := hS.trans (hb.mono hS.size)
   clear hb
   refine hK _ _ hS' (fun hS => ?_)
   clear hK K
   try simp only [mk_get2, List.getElem_cons_zero, List.getElem_cons_succ, Act.put, List.setIfInBounds_toArray, List.set_cons_zero, List.set_cons_succ]
   refine two_ (i := 4) (j := 5) (Ni := some 7) (Nj := some 8) #[bT,bT,bT,bT,bT,bF,bF,bF] #[bT,bT,bT,bT,bF,bT,bF,bF] rfl rfl rfl rfl (by kernel_rfl) (by decide) (by decide) (fun K hK => ?_) (fun K hK => ?_)
   ·skip
    refine value_ (w1 := ?_) (v := ?_) (by rfl) rfl ?_ ?_
    rotate_left 2
    ·go_simp
     constructor
     ·rfl
     ·rfl
    have HB7 := Aside0.mk (show wr.heap.size ≤ w2.heap.size ∧ hi1 ≤ w2.heap.size ∧ hi2 ≤ w2.heap.size from ⟨hS.size, HL1.out, HL2.out⟩)
    have Xn := Aside0.mk (show (World.alloc w2 (.cells #[.slice none 0 0] 24 (0, 0))).heap[w2.heap.size]? = some (.cells #[.slice none 0 0] 24 (0, 0)) from blk_new _ _)
    have S1_ := Aside0.mk (show Kd.S sF 27 (World.alloc w2 (.cells #[.slice none 0 0] 24 (0, 0))) lo1 (fun k => k < hi1) (.slice D1 m.length k1) m from (Kd.S_alloc S1.out _))
    have S2_ := Aside0.mk (show Kd.S sF 27 (World.alloc w2 (.cells #[.slice none 0 0] 24 (0, 0))) lo2 (fun k => k < hi2) (.slice D2 m.length k2) m from (Kd.S_alloc S2.out _))
    have HL1_ := Aside0.mk (show hi1 ≤ (World.alloc w2 (.cells #[.slice none 0 0] 24 (0, 0))).heap.size from Nat.le_trans HL1.out (below_alloc (Below.refl _ _) _).size)
    have HL2_ := Aside0.mk (show hi2 ≤ (World.alloc w2 (.cells #[.slice none 0 0] 24 (0, 0))).heap.size from Nat.le_trans HL2.out (below_alloc (Below.refl _ _) _).size)
    clear S1
    have S1 := S1_
    clear S1_
    clear S2
    have S2 := S2_
    clear S2_
    clear HL1
    have HL1 := HL1_
    clear HL1_
    clear HL2
    have HL2 := HL2_
    clear HL2_
    have X7 := Xn
    clear Xn
    refine hK _ _ (below_alloc hS _) (fun hS => ?_)
    clear hK K
    try simp only [mk_get2, List.getElem_cons_zero, List.getElem_cons_succ, Act.put, List.setIfInBounds_toArray, List.set_cons_zero, List.set_cons_succ]
    generalize (World.alloc w2 (.cells #[.slice none 0 0] 24 (0, 0))) = W3 at X7 hS S1 S2 HL1 HL2 ⊢
    refine one_ (i := 5) (N := some 8) #[bT,bT,bT,bT,bT,bT,bF,bF] rfl rfl (by kernel_rfl) (by decide) (fun K hK => ?_)
    refine value_ (w1 := ?_) (v := ?_) (by rfl) rfl ?_ ?_
    rotate_left 2
    ·go_simp
     constructor
     ·rfl
     ·rfl
    have HB8 := Aside0.mk (show wr.heap.size ≤ W3.heap.size ∧ w2.heap.size < W3.heap.size ∧ hi1 ≤ W3.heap.size ∧ hi2 ≤ W3.heap.size from ⟨hS.size, blk_lt X7.out, HL1.out, HL2.out⟩)
    have Xn := Aside0.mk (show (World.alloc W3 (.cells #[.slice none 0 0] 24 (0, 0))).heap[W3.heap.size]? = some (.cells #[.slice none 0 0] 24 (0, 0)) from blk_new _ _)
    have X7_ := Aside0.mk (show (World.alloc W3 (.cells #[.slice none 0 0] 24 (0, 0))).heap[w2.heap.size]? = some (.cells #[.slice none 0 0] 24 (0, 0)) from (blk_alloc X7.out _))
    have S1_ := Aside0.mk (show Kd.S sF 27 (World.alloc W3 (.cells #[.slice none 0 0] 24 (0, 0))) lo1 (fun k => k < hi1) (.slice D1 m.length k1) m from (Kd.S_alloc S1.out _))
    have S2_ := Aside0.mk (show Kd.S sF 27 (World.alloc W3 (.cells #[.slice none 0 0] 24 (0, 0))) lo2 (fun k => k < hi2) (.slice D2 m.length k2) m from (Kd.S_alloc S2.out _))
    have HL1_ := Aside0.mk (show hi1 ≤ (World.alloc W3 (.cells #[.slice none 0 0] 24 (0, 0))).heap.size from Nat.le_trans HL1.out (below_alloc (Below.refl _ _) _).size)
    have HL2_ := Aside0.mk (show hi2 ≤ (World.alloc W3 (.cells #[.slice none 0 0] 24 (0, 0))).heap.size from Nat.le_trans HL2.out (below_alloc (Below.refl _ _) _).size)
    clear X7
    have X7 := X7_
    clear X7_
    clear S1
    have S1 := S1_
    clear S1_
    clear S2
    have S2 := S2_
    clear S2_
    clear HL1
    have HL1 := HL1_
    clear HL1_
    clear HL2
    have HL2 := HL2_
    clear HL2_
    have X8 := Xn
    clear Xn
    refine hK _ _ (below_alloc hS _) (fun hS => ?_)
    clear hK K
    try simp only [mk_get2, List.getElem_cons_zero, List.getElem_cons_succ, Act.put, List.setIfInBounds_toArray, List.set_cons_zero, List.set_cons_succ]
    generalize (World.alloc W3 (.cells #[.slice none 0 0] 24 (0, 0))) = W4 at X8 hS X7 S1 S2 HL1 HL2 ⊢
    have HNUM := Aside0.mk (show wr.heap.size ≤ lo1 ∧ lo1 ≤ hi1 ∧ hi1 ≤ lo2 ∧ lo2 ≤ hi2 ∧ wr.heap.size ≤ w2.heap.size ∧ wr.heap.size ≤ W3.heap.size ∧ w2.heap.size ≠ W3.heap.size ∧ (w2.heap.size < lo1 ∨ hi1 ≤ w2.heap.size) ∧ (W3.heap.size < lo1 ∨ hi1 ≤ W3.heap.size) ∧ (w2.heap.size < lo2 ∨ hi2 ≤ w2.heap.size) ∧ (W3.heap.size < lo2 ∨ hi2 ≤ W3.heap.size) by have := HB1.out; have := HB2.out; have := HB7.out; have := HB8.out; omega)
    clear HB1 HB2 HB7 HB8 HL1 HL2
    skip
    have HX7 := Aside0.mk (show (W4.setCell ⟨w2.heap.size, 0, none⟩ (.slice D1 m.length k1)).heap[w2.heap.size]? = some (.cells #[.slice D1 m.length k1] 24 (0, 0)) from set_blk 0 _ X7.out rfl)
    have HX8 := Aside0.mk (show (W4.setCell ⟨w2.heap.size, 0, none⟩ (.slice D1 m.length k1)).heap[W3.heap.size]? = some (.cells #[.slice none 0 0] 24 (0, 0)) from blk_far X8.out (p := ⟨w2.heap.size, 0, none⟩) (Ne.symm HNUM.out.2.2.2.2.2.2.1) _)
    have x7_ := (blk_cell X7.out 0).trans rfl
    have z7_ := blk_frozen X7.out 0
    have x8_ := (blk_cell HX8.out 0).trans rfl
    have z8_ := blk_frozen HX8.out 0
    refine last_ (i := 6) (N := none) #[bT,bT,bT,bT,bT,bT,bT,bF] rfl rfl (by kernel_rfl) (by decide) (fun K hK => ?_)
    refine skip_ (w1 := ?_) (by rfl) rfl ?_ ?_
    rotate_left
    ·go_simp
     rfl
    refine hK _ _ ?_
    clear hK K
    try simp only [Act.put, sA_, sZ_, sS_]
    refine last_ (i := 7) (N := none) #[bT,bT,bT,bT,bT,bT,bT,bT] rfl rfl (by kernel_rfl) (by decide) (fun K hK => ?_)
    refine skip_ (w1 := ?_) (by rfl) rfl ?_ ?_
    rotate_left
    ·go_simp
     rfl
    refine hK _ _ ?_
    clear hK K
    try simp only [Act.put, sA_, sZ_, sS_]
    refine done_ (by kernel_rfl) ?_
    exact HQQ.out D1 D2 k1 k2 (w2.heap.size) (W3.heap.size) lo1 hi1 lo2 hi2 _ (below_set (below_set hS HNUM.out.2.2.2.2.1) HNUM.out.2.2.2.2.2.1) (blk_far HX7.out (p := ⟨W3.heap.size, 0, none⟩) HNUM.out.2.2.2.2.2.2.1 _) (set_blk 0 _ HX8.out rfl) (Kd.S_set (Kd.S_set S1.out X7.out (by decide) _ _) HX8.out (by decide) _ _) (Kd.S_set (Kd.S_set S2.out X7.out (by decide) _ _) HX8.out (by decide) _ _) HNUM.out
   ·skip
    refine value_ (w1 := ?_) (v := ?_) (by rfl) rfl ?_ ?_
    rotate_left 2
    ·go_simp
     constructor
     ·rfl
     ·rfl
    have HB8 := Aside0.mk (show wr.heap.size ≤ w2.heap.size ∧ hi1 ≤ w2.heap.size ∧ hi2 ≤ w2.heap.size from ⟨hS.size, HL1.out, HL2.out⟩)
    have Xn := Aside0.mk (show (World.alloc w2 (.cells #[.slice none 0 0] 24 (0, 0))).heap[w2.heap.size]? = some (.cells #[.slice none 0 0] 24 (0, 0)) from blk_new _ _)
    have S1_ := Aside0.mk (show Kd.S sF 27 (World.alloc w2 (.cells #[.slice none 0 0] 24 (0, 0))) lo1 (fun k => k < hi1) (.slice D1 m.length k1) m from (Kd.S_alloc S1.out _))
    have S2_ := Aside0.mk (show Kd.S sF 27 (World.alloc w2 (.cells #[.slice none 0 0] 24 (0, 0))) lo2 (fun k => k < hi2) (.slice D2 m.length k2) m from (Kd.S_alloc S2.out _))
    have HL1_ := Aside0.mk (show hi1 ≤ (World.alloc w2 (.cells #[.slice none 0 0] 24 (0, 0))).heap.size from Nat.le_trans HL1.out (below_alloc (Below.refl _ _) _).size)
    have HL2_ := Aside0.mk (show hi2 ≤ (World.alloc w2 (.cells #[.slice none 0 0] 24 (0, 0))).heap.size from Nat.le_trans HL2.out (below_alloc (Below.refl _ _) _).size)
    clear S1
    have S1 := S1_
    clear S1_
    clear S2
    have S2 := S2_
    clear S2_
    clear HL1
    have HL1 := HL1_
    clear HL1_
    clear HL2
    have HL2 := HL2_
    clear HL2_
    have X8 := Xn
    clear Xn
    refine hK _ _ (below_alloc hS _) (fun hS => ?_)
    clear hK K
    try simp only [mk_get2, List.getElem_cons_zero, List.getElem_cons_succ, Act.put, List.setIfInBounds_toArray, List.set_cons_zero, List.set_cons_succ]
    generalize (World.alloc w2 (.cells #[.slice none 0 0] 24 (0, 0))) = W5 at X8 hS S1 S2 HL1 HL2 ⊢
    refine one_ (i := 4) (N := some 7) #[bT,bT,bT,bT,bT,bT,bF,bF] rfl rfl (by kernel_rfl) (by decide) (fun K hK => ?_)
    refine value_ (w1 := ?_) (v := ?_) (by rfl) rfl ?_ ?_
    rotate_left 2
    ·go_simp
     constructor
     ·rfl
     ·rfl
    have HB7 := Aside0.mk (show wr.heap.size ≤ W5.heap.size ∧ w2.heap.size < W5.heap.size ∧ hi1 ≤ W5.heap.size ∧ hi2 ≤ W5.heap.size from ⟨hS.size, blk_lt X8.out, HL1.out, HL2.out⟩)
    have Xn := Aside0.mk (show (World.alloc W5 (.cells #[.slice none 0 0] 24 (0, 0))).heap[W5.heap.size]? = some (.cells #[.slice none 0 0] 24 (0, 0)) from blk_new _ _)
    have X8_ := Aside0.mk (show (World.alloc W5 (.cells #[.slice none 0 0] 24 (0, 0))).heap[w2.heap.size]? = some (.cells #[.slice none 0 0] 24 (0, 0)) from (blk_alloc X8.out _))
    have S1_ := Aside0.mk (show Kd.S sF 27 (World.alloc W5 (.cells #[.slice none 0 0] 24 (0, 0))) lo1 (fun k => k < hi1) (.slice D1 m.length k1) m from (Kd.S_alloc S1.out _))
    have S2_ := Aside0.mk (show Kd.S sF 27 (World.alloc W5 (.cells #[.slice none 0 0] 24 (0, 0))) lo2 (fun k => k < hi2) (.slice D2 m.length k2) m from (Kd.S_alloc S2.out _))
    have HL1_ := Aside0.mk (show hi1 ≤ (World.alloc W5 (.cells #[.slice none 0 0] 24 (0, 0))).heap.size from Nat.le_trans HL1.out (below_alloc (Below.refl _ _) _).size)
    have HL2_ := Aside0.mk (show hi2 ≤ (World.alloc W5 (.cells #[.slice none 0 0] 24 (0, 0))).heap.size from Nat.le_trans HL2.out (below_alloc (Below.refl _ _) _).size)
    clear X8
    have X8 := X8_
    clear X8_
    clear S1
    have S1 := S1_
    clear S1_
    clear S2
    have S2 := S2_
    clear S2_
    clear HL1
    have HL1 := HL1_
    clear HL1_
    clear HL2
    have HL2 := HL2_
    clear HL2_
    have X7 := Xn
    clear Xn
    refine hK _ _ (below_alloc hS _) (fun hS => ?_)
    clear hK K
    try simp only [mk_get2, List.getElem_cons_zero, List.getElem_cons_succ, Act.put, List.setIfInBounds_toArray, List.set_cons_zero, List.set_cons_succ]
    generalize (World.alloc W5 (.cells #[.slice none 0 0] 24 (0, 0))) = W6 at X7 hS X8 S1 S2 HL1 HL2 ⊢
    have HNUM := Aside0.mk (show wr.heap.size ≤ lo1 ∧ lo1 ≤ hi1 ∧ hi1 ≤ lo2 ∧ lo2 ≤ hi2 ∧ wr.heap.size ≤ W5.heap.size ∧ wr.heap.size ≤ w2.heap.size ∧ W5.heap.size ≠ w2.heap.size ∧ (W5.heap.size < lo1 ∨ hi1 ≤ W5.heap.size) ∧ (w2.heap.size < lo1 ∨ hi1 ≤ w2.heap.size) ∧ (W5.heap.size < lo2 ∨ hi2 ≤ W5.heap.size) ∧ (w2.heap.size < lo2 ∨ hi2 ≤ w2.heap.size) by have := HB1.out; have := HB2.out; have := HB7.out; have := HB8.out; omega)
    clear HB1 HB2 HB7 HB8 HL1 HL2
    skip
    have HX7 := Aside0.mk (show (W6.setCell ⟨W5.heap.size, 0, none⟩ (.slice D1 m.length k1)).heap[W5.heap.size]? = some (.cells #[.slice D1 m.length k1] 24 (0, 0)) from set_blk 0 _ X7.out rfl)
    have HX8 := Aside0.mk (show (W6.setCell ⟨W5.heap.size, 0, none⟩ (.slice D1 m.length k1)).heap[w2.heap.size]? = some (.cells #[.slice none 0 0] 24 (0, 0)) from blk_far X8.out (p := ⟨W5.heap.size, 0, none⟩) (Ne.symm HNUM.out.2.2.2.2.2.2.1) _)
    have x7_ := (blk_cell X7.out 0).trans rfl
    have z7_ := blk_frozen X7.out 0
    have x8_ := (blk_cell HX8.out 0).trans rfl
    have z8_ := blk_frozen HX8.out 0
    refine last_ (i := 6) (N := none) #[bT,bT,bT,bT,bT,bT,bT,bF] rfl rfl (by kernel_rfl) (by decide) (fun K hK => ?_)
    refine skip_ (w1 := ?_) (by rfl) rfl ?_ ?_
    rotate_left
    ·go_simp
     rfl
    refine hK _ _ ?_
    clear hK K
    try simp only [Act.put, sA_, sZ_, sS_]
    refine last_ (i := 7) (N := none) #[bT,bT,bT,bT,bT,bT,bT,bT] rfl rfl (by kernel_rfl) (by decide) (fun K hK => ?_)
    refine skip_ (w1 := ?_) (by rfl) rfl ?_ ?_
    rotate_left
    ·go_simp
     rfl
    refine hK _ _ ?_
    clear hK K
    try simp only [Act.put, sA_, sZ_, sS_]
    refine done_ (by kernel_rfl) ?_
    exact HQQ.out D1 D2 k1 k2 (W5.heap.size) (w2.heap.size) lo1 hi1 lo2 hi2 _ (below_set (below_set hS HNUM.out.2.2.2.2.1) HNUM.out.2.2.2.2.2.1) (blk_far HX7.out (p := ⟨w2.heap.size, 0, none⟩) HNUM.out.2.2.2.2.2.2.1 _) (set_blk 0 _ HX8.out rfl) (Kd.S_set (Kd.S_set S1.out X7.out (by decide) _ _) HX8.out (by decide) _ _) (Kd.S_set (Kd.S_set S2.out X7.out (by decide) _ _) HX8.out (by decide) _ _) HNUM.out
  ·skip
   refine value_ (w1 := ?_) (v := ?_) (by rfl) rfl ?_ ?_
   rotate_left 2
   ·go_simp
    constructor
    ·rfl
    ·rfl
   have HB7 := Aside0.mk (show wr.heap.size ≤ w1.heap.size ∧ hi1 ≤ w1.heap.size from ⟨hS.size, HL1.out⟩)
   have Xn := Aside0.mk (show (World.alloc w1 (.cells #[.slice none 0 0] 24 (0, 0))).heap[w1.heap.size]? = some (.cells #[.slice none 0 0] 24 (0, 0)) from blk_new _ _)
   have S1_ := Aside0.mk (show Kd.S sF 27 (World.alloc w1 (.cells #[.slice none 0 0] 24 (0, 0))) lo1 (fun k => k < hi1) (.slice D1 m.length k1) m from (Kd.S_alloc S1.out _))
   have HL1_ := Aside0.mk (show hi1 ≤ (World.alloc w1 (.cells #[.slice none 0 0] 24 (0, 0))).heap.size from Nat.le_trans HL1.out (below_alloc (Below.refl _ _) _).size)
   clear S1
   have S1 := S1_
   clear S1_
   clear HL1
   have HL1 := HL1_
   clear HL1_
   have X7 := Xn
   clear Xn
   refine hK _ _ (below_alloc hS _) (fun hS => ?_)
   clear hK K
   try simp only [mk_get2, List.getElem_cons_zero, List.getElem_cons_succ, Act.put, List.setIfInBounds_toArray, List.set_cons_zero, List.set_cons_succ]
   generalize (World.alloc w1 (.cells #[.slice none 0 0] 24 (0, 0))) = W7 at X7 hS S1 HL1 ⊢
   refine two_ (i := 3) (j := 5) (Ni := some 24) (Nj := some 8) #[bT,bT,bT,bT,bT,bF,bF,bF] #[bT,bT,bT,bF,bT,bT,bF,bF] rfl rfl rfl rfl (by kernel_rfl) (by decide) (by decide) (fun K hK => ?_) (fun K hK => ?_)
   ·skip
    refine goes_ Try.func24 (by kernel_rfl) rfl #[.agg #[.slice A0 m.length c0]] (by rfl) rfl rfl (by simp only [List.map_toArray, List.map_cons, List.map_nil]; rfl) ?_
    refine (copy_c m A0 c0 _ (Kd.C_below HM.out hS) HC.out HN.out).mono ?_
    rintro e w8 ⟨⟨v, rfl, hs⟩, hb⟩
    obtain ⟨D2, k2, rfl, _, _⟩ := SM_reads hs
    refine ⟨_, rfl, ?_⟩
    obtain ⟨lo2, hi2, HSn, HLn, HBn⟩ : ∃ lo2 hi2 : Nat, Aside0 (Kd.S sF 27 w8 lo2 (fun k => k < hi2) (.slice D2 m.length k2) m) ∧ Aside0 (hi2 ≤ w8.heap.size) ∧ Aside0 (wr.heap.size ≤ lo2 ∧ lo2 ≤ hi2 ∧ w1.heap.size < lo2 ∧ hi1 ≤ lo2) := ⟨_, w8.heap.size, ⟨Kd.S_mono (Kd.S_bound hs) (fun k hk => hk.2.2.1)⟩, ⟨Nat.le_refl _⟩, ⟨hS.size, hb.size, blk_lt X7.out, HL1.out⟩⟩
    have X7_ := Aside0.mk (blk_below X7.out hb)
    have S1_ := Aside0.mk (Kd.S_below S1.out hb)
    have HL1_ := Aside0.mk (Nat.le_trans HL1.out hb.size)
    clear X7
    have X7 := X7_
    clear X7_
    clear S1
    have S1 := S1_
    clear S1_
    clear HL1
    have HL1 := HL1_
    clear HL1_
    have S2 := HSn
    have HL2 := HLn
    have HB2 := HBn
    clear HSn HLn HBn hs
    have hS' := hS.trans (hb.mono hS.size)
    clear hb
    refine hK _ _ hS' (fun hS => ?_)
    clear hK K
    try simp only [mk_get2, List.getElem_cons_zero, List.getElem_cons_succ, Act.put, List.setIfInBounds_toArray, List.set_cons_zero, List.set_cons_succ]
    refine one_ (i := 5) (N := some 8) #[bT,bT,bT,bT,bT,bT,bF,bF] rfl rfl (by kernel_rfl) (by decide) (fun K hK => ?_)
    refine value_ (w1 := ?_) (v := ?_) (by rfl) rfl ?_ ?_
    rotate_left 2
    ·go_simp
     constructor
     ·rfl
     ·rfl
    have HB8 := Aside0.mk (show wr.heap.size ≤ w8.heap.size ∧ w1.heap.size < w8.heap.size ∧ hi1 ≤ w8.heap.size ∧ hi2 ≤ w8.heap.size from ⟨hS.size, blk_lt X7.out, HL1.out, HL2.out⟩)
    have Xn := Aside0.mk (show (World.alloc w8 (.cells #[.slice none 0 0] 24 (0, 0))).heap[w8.heap.size]? = some (.cells #[.slice none 0 0] 24 (0, 0)) from blk_new _ _)
    have X7_ := Aside0.mk (show (World.alloc w8 (.cells #[.slice none 0 0] 24 (0, 0))).heap[w1.heap.size]? = some (.cells #[.slice none 0 0] 24 (0, 0)) from (blk_alloc X7.out _))
    have S1_ := Aside0.mk (show Kd.S sF 27 (World.alloc w8 (.cells #[.slice none 0 0] 24 (0, 0))) lo1 (fun k => k < hi1) (.slice D1 m.length k1) m from (Kd.S_alloc S1.out _))
    have S2_ := Aside0.mk (show Kd.S sF 27 (World.alloc w8 (.cells #[.slice none 0 0] 24 (0, 0))) lo2 (fun k => k < hi2) (.slice D2 m.length k2) m from (Kd.S_alloc S2.out _))
    have HL1_ := Aside0.mk (show hi1 ≤ (World.alloc w8 (.cells #[.slice none 0 0] 24 (0, 0))).heap.size from Nat.le_trans HL1.out (below_alloc (Below.refl _ _) _).size)
    have HL2_ := Aside0.mk (show hi2 ≤ (World.alloc w8 (.cells #[.slice none 0 0] 24 (0, 0))).heap.size from Nat.le_trans HL2.out (below_alloc (Below.refl _ _) _).size)
    clear X7
    have X7 := X7_
    clear X7_
    clear S1
    have S1 := S1_
    clear S1_
    clear S2
    have S2 := S2_
    clear S2_
    clear HL1
    have HL1 := HL1_
    clear HL1_
    clear HL2
    have HL2 := HL2_
    clear HL2_
    have X8 := Xn
    clear Xn
    refine hK _ _ (below_alloc hS _) (fun hS => ?_)
    clear hK K
    try simp only [mk_get2, List.getElem_cons_zero, List.getElem_cons_succ, Act.put, List.setIfInBounds_toArray, List.set_cons_zero, List.set_cons_succ]
    generalize (World.alloc w8 (.cells #[.slice none 0 0] 24 (0, 0))) = W9 at X8 hS X7 S1 S2 HL1 HL2 ⊢
    have HNUM := Aside0.mk (show wr.heap.size ≤ lo1 ∧ lo1 ≤ hi1 ∧ hi1 ≤ lo2 ∧ lo2 ≤ hi2 ∧ wr.heap.size ≤ w1.heap.size ∧ wr.heap.size ≤ w8.heap.size ∧ w1.heap.size ≠ w8.heap.size ∧ (w1.heap.size < lo1 ∨ hi1 ≤ w1.heap.size) ∧ (w8.heap.size < lo1 ∨ hi1 ≤ w8.heap.size) ∧ (w1.heap.size < lo2 ∨ hi2 ≤ w1.heap.size) ∧ (w8.heap.size < lo2 ∨ hi2 ≤ w8.heap.size) by have := HB1.out; have := HB2.out; have := HB7.out; have := HB8.out; omega)
    clear HB1 HB2 HB7 HB8 HL1 HL2
    skip
    have HX7 := Aside0.mk (show (W9.setCell ⟨w1.heap.size, 0, none⟩ (.slice D1 m.length k1)).heap[w1.heap.size]? = some (.cells #[.slice D1 m.length k1] 24 (0, 0)) from set_blk 0 _ X7.out rfl)
    have HX8 := Aside0.mk (show (W9.setCell ⟨w1.heap.size, 0, none⟩ (.slice D1 m.length k1)).heap[w8.heap.size]? = some (.cells #[.slice none 0 0] 24 (0, 0)) from blk_far X8.out (p := ⟨w1.heap.size, 0, none⟩) (Ne.symm HNUM.out.2.2.2.2.2.2.1) _)
    have x7_ := (blk_cell X7.out 0).trans rfl
    have z7_ := blk_frozen X7.out 0
    have x8_ := (blk_cell HX8.out 0).trans rfl
    have z8_ := blk_frozen HX8.out 0
    refine last_ (i := 6) (N := none) #[bT,bT,bT,bT,bT,bT,bT,bF] rfl rfl (by kernel_rfl) (by decide) (fun K hK => ?_)
    refine skip_ (w1 := ?_) (by rfl) rfl ?_ ?_
    rotate_left
    ·go_simp
     rfl
    refine hK _ _ ?_
    clear hK K
    try simp only [Act.put, sA_, sZ_, sS_]
    refine last_ (i := 7) (N := none) #[bT,bT,bT,bT,bT,bT,bT,bT] rfl rfl (by kernel_rfl) (by decide) (fun K hK => ?_)
    refine skip_ (w1 := ?_) (by rfl) rfl ?_ ?_
    rotate_left
    ·go_simp
     rfl
    refine hK _ _ ?_
    clear hK K
    try simp only [Act.put, sA_, sZ_, sS_]
    refine done_ (by kernel_rfl) ?_
    exact HQQ.out D1 D2 k1 k2 (w1.heap.size) (w8.heap.size) lo1 hi1 lo2 hi2 _ (below_set (below_set hS HNUM.out.2.2.2.2.1) HNUM.out.2.2.2.2.2.1) (blk_far HX7.out (p := ⟨w8.heap.size, 0, none⟩) HNUM.out.2.2.2.2.2.2.1 _) (set_blk 0 _ HX8.out rfl) (Kd.S_set (Kd.S_set S1.out X7.out (by decide) _ _) HX8.out (by decide) _ _) (Kd.S_set (Kd.S_set S2.out X7.out (by decide) _ _) HX8.out (by decide) _ _) HNUM.out
   ·skip
    refine value_ (w1 := ?_) (v := ?_) (by rfl) rfl ?_ ?_
    rotate_left 2
    ·go_simp
     constructor
     ·rfl
     ·rfl
    have HB8 := Aside0.mk (show wr.heap.size ≤ W7.heap.size ∧ w1.heap.size < W7.heap.size ∧ hi1 ≤ W7.heap.size from ⟨hS.size, blk_lt X7.out, HL1.out⟩)
    have Xn := Aside0.mk (show (World.alloc W7 (.cells #[.slice none 0 0] 24 (0, 0))).heap[W7.heap.size]? = some (.cells #[.slice none 0 0] 24 (0, 0)) from blk_new _ _)
    have X7_ := Aside0.mk (show (World.alloc W7 (.cells #[.slice none 0 0] 24 (0, 0))).heap[w1.heap.size]? = some (.cells #[.slice none 0 0] 24 (0, 0)) from (blk_alloc X7.out _))
    have S1_ := Aside0.mk (show Kd.S sF 27 (World.alloc W7 (.cells #[.slice none 0 0] 24 (0, 0))) lo1 (fun k => k < hi1) (.slice D1 m.length k1) m from (Kd.S_alloc S1.out _))
    have HL1_ := Aside0.mk (show hi1 ≤ (World.alloc W7 (.cells #[.slice none 0 0] 24 (0, 0))).heap.size from Nat.le_trans HL1.out (below_alloc (Below.refl _ _) _).size)
    clear X7
    have X7 := X7_
    clear X7_
    clear S1
    have S1 := S1_
    clear S1_
    clear HL1
    have HL1 := HL1_
    clear HL1_
    have X8 := Xn
    clear Xn
    refine hK _ _ (below_alloc hS _) (fun hS => ?_)
    clear hK K
    try simp only [mk_get2, List.getElem_cons_zero, List.getElem_cons_succ, Act.put, List.setIfInBounds_toArray, List.set_cons_zero, List.set_cons_succ]
    generalize (World.alloc W7 (.cells #[.slice none 0 0] 24 (0, 0))) = W10 at X8 hS X7 S1 HL1 ⊢
    refine one_ (i := 3) (N := some 24) #[bT,bT,bT,bT,bT,bT,bF,bF] rfl rfl (by kernel_rfl) (by decide) (fun K hK => ?_)
    refine goes_ Try.func24 (by kernel_rfl) rfl #[.agg #[.slice A0 m.length c0]] (by rfl) rfl rfl (by simp only [List.map_toArray, List.map_cons, List.map_nil]; rfl) ?_
    refine (copy_c m A0 c0 _ (Kd.C_below HM.out hS) HC.out HN.out).mono ?_
    rintro e w11 ⟨⟨v, rfl, hs⟩, hb⟩
    obtain ⟨D2, k2, rfl, _, _⟩ := SM_reads hs
    refine ⟨_, rfl, ?_⟩
    obtain ⟨lo2, hi2, HSn, HLn, HBn⟩ : ∃ lo2 hi2 : Nat, Aside0 (Kd.S sF 27 w11 lo2 (fun k => k < hi2) (.slice D2 m.length k2) m) ∧ Aside0 (hi2 ≤ w11.heap.size) ∧ Aside0 (wr.heap.size ≤ lo2 ∧ lo2 ≤ hi2 ∧ w1.heap.size < lo2 ∧ W7.heap.size < lo2 ∧ hi1 ≤ lo2) := ⟨_, w11.heap.size, ⟨Kd.S_mono (Kd.S_bound hs) (fun k hk => hk.2.2.1)⟩, ⟨Nat.le_refl _⟩, ⟨hS.size, hb.size, blk_lt X7.out, blk_lt X8.out, HL1.out⟩⟩
    have X7_ := Aside0.mk (blk_below X7.out hb)
    have X8_ := Aside0.mk (blk_below X8.out hb)
    have S1_ := Aside0.mk (Kd.S_below S1.out hb)
    have HL1_ := Aside0.mk (Nat.le_trans HL1.out hb.size)
    clear X7
    have X7 := X7_
    clear X7_
    clear X8
    have X8 := X8_
    clear X8_
    clear S1
    have S1 := S1_
    clear S1_
    clear HL1
    have HL1 := HL1_
    clear HL1_
    have S2 := HSn
    have HL2 := HLn
    have HB2 := HBn
    clear HSn HLn HBn hs
    have hS' := hS.trans (hb.mono hS.size)
    clear hb
    refine hK _ _ hS' (fun hS => ?_)
    clear hK K
    try simp only [mk_get2, List.getElem_cons_zero, List.getElem_cons_succ, Act.put, List.setIfInBounds_toArray, List.set_cons_zero, List.set_cons_succ]
    have HNUM := Aside0.mk (show wr.heap.size ≤ lo1 ∧ lo1 ≤ hi1 ∧ hi1 ≤ lo2 ∧ lo2 ≤ hi2 ∧ wr.heap.size ≤ w1.heap.size ∧ wr.heap.size ≤ W7.heap.size ∧ w1.heap.size ≠ W7.heap.size ∧ (w1.heap.size < lo1 ∨ hi1 ≤ w1.heap.size) ∧ (W7.heap.size < lo1 ∨ hi1 ≤ W7.heap.size) ∧ (w1.heap.size < lo2 ∨ hi2 ≤ w1.heap.size) ∧ (W7.heap.size < lo2 ∨ hi2 ≤ W7.heap.size) by have := HB1.out; have := HB2.out; have := HB7.out; have := HB8.out; omega)
    clear HB1 HB2 HB7 HB8 HL1 HL2
    skip
    have HX7 := Aside0.mk (show (w11.setCell ⟨w1.heap.size, 0, none⟩ (.slice D1 m.length k1)).heap[w1.heap.size]? = some (.cells #[.slice D1 m.length k1] 24 (0, 0)) from set_blk 0 _ X7.out rfl)
    have HX8 := Aside0.mk (show (w11.setCell ⟨w1.heap.size, 0, none⟩ (.slice D1 m.length k1)).heap[W7.heap.size]? = some (.cells #[.slice none 0 0] 24 (0, 0)) from blk_far X8.out (p := ⟨w1.heap.size, 0, none⟩) (Ne.symm HNUM.out.2.2.2.2.2.2.1) _)
    have x7_ := (blk_cell X7.out 0).trans rfl
    have z7_ := blk_frozen X7.out 0
    have x8_ := (blk_cell HX8.out 0).trans rfl
    have z8_ := blk_frozen HX8.out 0
    refine last_ (i := 6) (N := none) #[bT,bT,bT,bT,bT,bT,bT,bF] rfl rfl (by kernel_rfl) (by decide) (fun K hK => ?_)
    refine skip_ (w1 := ?_) (by rfl) rfl ?_ ?_
    rotate_left
    ·go_simp
     rfl
    refine hK _ _ ?_
    clear hK K
    try simp only [Act.put, sA_, sZ_, sS_]
    refine last_ (i := 7) (N := none) #[bT,bT,bT,bT,bT,bT,bT,bT] rfl rfl (by kernel_rfl) (by decide) (fun K hK => ?_)
    refine skip_ (w1 := ?_) (by rfl) rfl ?_ ?_
    rotate_left
    ·go_simp
     rfl
    refine hK _ _ ?_
    clear hK K
    try simp only [Act.put, sA_, sZ_, sS_]
    refine done_ (by kernel_rfl) ?_
    exact HQQ.out D1 D2 k1 k2 (w1.heap.size) (W7.heap.size) lo1 hi1 lo2 hi2 _ (below_set (below_set hS HNUM.out.2.2.2.2.1) HNUM.out.2.2.2.2.2.1) (blk_far HX7.out (p := ⟨W7.heap.size, 0, none⟩) HNUM.out.2.2.2.2.2.2.1 _) (set_blk 0 _ HX8.out rfl) (Kd.S_set (Kd.S_set S1.out X7.out (by decide) _ _) HX8.out (by decide) _ _) (Kd.S_set (Kd.S_set S2.out X7.out (by decide) _ _) HX8.out (by decide) _ _) HNUM.out
  ·skip
   refine value_ (w1 := ?_) (v := ?_) (by rfl) rfl ?_ ?_
   rotate_left 2
   ·go_simp
    constructor
    ·rfl
    ·rfl
   have HB8 := Aside0.mk (show wr.heap.size ≤ w1.heap.size ∧ hi1 ≤ w1.heap.size from ⟨hS.size, HL1.out⟩)
   have Xn := Aside0.mk (show (World.alloc w1 (.cells #[.slice none 0 0] 24 (0, 0))).heap[w1.heap.size]? = some (.cells #[.slice none 0 0] 24 (0, 0)) from blk_new _ _)
   have S1_ := Aside0.mk (show Kd.S sF 27 (World.alloc w1 (.cells #[.slice none 0 0] 24 (0, 0))) lo1 (fun k => k < hi1) (.slice D1 m.length k1) m from (Kd.S_alloc S1.out _))
   have HL1_ := Aside0.mk (show hi1 ≤ (World.alloc w1 (.cells #[.slice none 0 0] 24 (0, 0))).heap.size from Nat.le_trans HL1.out (below_alloc (Below.refl _ _) _).size)
   clear S1
   have S1 := S1_
   clear S1_
   clear HL1
   have HL1 := HL1_
   clear HL1_
   have X8 := Xn
   clear Xn
   refine hK _ _ (below_alloc hS _) (fun hS => ?_)
   clear hK K
   try simp only [mk_get2, List.getElem_cons_zero, List.getElem_cons_succ, Act.put, List.setIfInBounds_toArray, List.set_cons_zero, List.set_cons_succ]
   generalize (World.alloc w1 (.cells #[.slice none 0 0] 24 (0, 0))) = W12 at X8 hS S1 HL1 ⊢
   refine two_ (i := 3) (j := 4) (Ni := some 24) (Nj := some 7) #[bT,bT,bT,bT,bF,bT,bF,bF] #[bT,bT,bT,bF,bT,bT,bF,bF] rfl rfl rfl rfl (by kernel_rfl) (by decide) (by decide) (fun K hK => ?_) (fun K hK => ?_)
   ·skip
    refine goes_ Try.func24 (by kernel_rfl) rfl #[.agg #[.slice A0 m.length c0]] (by rfl) rfl rfl (by simp only [List.map_toArray, List.map_cons, List.map_nil]; rfl) ?_
    refine (copy_c m A0 c0 _ (Kd.C_below HM.out hS) HC.out HN.out).mono ?_
    rintro e w13 ⟨⟨v, rfl, hs⟩, hb⟩
    obtain ⟨D2, k2, rfl, _, _⟩ := SM_reads hs
    refine ⟨_, rfl, ?_⟩
    obtain ⟨lo2, hi2, HSn, HLn, HBn⟩ : ∃ lo2 hi2 : Nat, Aside0 (Kd.S sF 27 w13 lo2 (fun k => k < hi2) (.slice D2 m.length k2) m) ∧ Aside0 (hi2 ≤ w13.heap.size) ∧ Aside0 (wr.heap.size ≤ lo2 ∧ lo2 ≤ hi2 ∧ w1.heap.size < lo2 ∧ hi1 ≤ lo2) := ⟨_, w13.heap.size, ⟨Kd.S_mono (Kd.S_bound hs) (fun k hk => hk.2.2.1)⟩, ⟨Nat.le_refl _⟩, ⟨hS.size, hb.size, blk_lt X8.out, HL1.out⟩⟩
    have X8_ := Aside0.mk (blk_below X8.out hb)
    have S1_ := Aside0.mk (Kd.S_below S1.out hb)
    have HL1_ := Aside0.mk (Nat.le_trans HL1.out hb.size)
    clear X8
    have X8 := X8_
    clear X8_
    clear S1
    have S1 := S1_
    clear S1_
    clear HL1
    have HL1 := HL1_
    clear HL1_
    have S2 := HSn
    have HL2 := HLn
    have HB2 := HBn
    clear HSn HLn HBn hs
    have hS' := hS.trans (hb.mono hS.size)
    clear hb
    refine hK _ _ hS' (fun hS => ?_)
    clear hK K
    try simp only [mk_get2, List.getElem_cons_zero, List.getElem_cons_succ, Act.put, List.setIfInBounds_toArray, List.set_cons_zero, List.set_cons_succ]
    refine one_ (i := 4) (N := some 7) #[bT,bT,bT,bT,bT,bT,bF,bF] rfl rfl (by kernel_rfl) (by decide) (fun K hK => ?_)
    refine value_ (w1 := ?_) (v := ?_) (by rfl) rfl ?_ ?_
    rotate_left 2
    ·go_simp
     constructor
     ·rfl
     ·rfl
    have HB7 := Aside0.mk (show wr.heap.size ≤ w13.heap.size ∧ w1.heap.size < w13.heap.size ∧ hi1 ≤ w13.heap.size ∧ hi2 ≤ w13.heap.size from ⟨hS.size, blk_lt X8.out, HL1.out, HL2.out⟩)
    have Xn := Aside0.mk (show (World.alloc w13 (.cells #[.slice none 0 0] 24 (0, 0))).heap[w13.heap.size]? = some (.cells #[.slice none 0 0] 24 (0, 0)) from blk_new _ _)
    have X8_ := Aside0.mk (show (World.alloc w13 (.cells #[.slice none 0 0] 24 (0, 0))).heap[w1.heap.size]? = some (.cells #[.slice none 0 0] 24 (0, 0)) from (blk_alloc X8.out _))
    have S1_ := Aside0.mk (show Kd.S sF 27 (World.alloc w13 (.cells #[.slice none 0 0] 24 (0, 0))) lo1 (fun k => k < hi1) (.slice D1 m.length k1) m from (Kd.S_alloc S1.out _))
    have S2_ := Aside0.mk (show Kd.S sF 27 (World.alloc w13 (.cells #[.slice none 0 0] 24 (0, 0))) lo2 (fun k => k < hi2) (.slice D2 m.length k2) m from (Kd.S_alloc S2.out _))
    have HL1_ := Aside0.mk (show hi1 ≤ (World.alloc w13 (.cells #[.slice none 0 0] 24 (0, 0))).heap.size from Nat.le_trans HL1.out (below_alloc (Below.refl _ _) _).size)
    have HL2_ := Aside0.mk (show hi2 ≤ (World.alloc w13 (.cells #[.slice none 0 0] 24 (0, 0))).heap.size from Nat.le_trans HL2.out (below_alloc (Below.refl _ _) _).size)
    clear X8
    have X8 := X8_
    clear X8_
    clear S1
    have S1 := S1_
    clear S1_
    clear S2
    have S2 := S2_
    clear S2_
    clear HL1
    have HL1 := HL1_
    clear HL1_
    clear HL2
    have HL2 := HL2_
    clear HL2_
    have X7 := Xn
    clear Xn
    refine hK _ _ (below_alloc hS _) (fun hS => ?_)
    clear hK K
    try simp only [mk_get2, List.getElem_cons_zero, List.getElem_cons_succ, Act.put, List.setIfInBounds_toArray, List.set_cons_zero, List.set_cons_succ]
    generalize (World.alloc w13 (.cells #[.slice none 0 0] 24 (0, 0))) = W14 at X7 hS X8 S1 S2 HL1 HL2 ⊢
    have HNUM := Aside0.mk (show wr.heap.size ≤ lo1 ∧ lo1 ≤ hi1 ∧ hi1 ≤ lo2 ∧ lo2 ≤ hi2 ∧ wr.heap.size ≤ w13.heap.size ∧ wr.heap.size ≤ w1.heap.size ∧ w13.heap.size ≠ w1.heap.size ∧ (w13.heap.size < lo1 ∨ hi1 ≤ w13.heap.size) ∧ (w1.heap.size < lo1 ∨ hi1 ≤ w1.heap.size) ∧ (w13.heap.size < lo2 ∨ hi2 ≤ w13.heap.size) ∧ (w1.heap.size < lo2 ∨ hi2 ≤ w1.heap.size) by have := HB1.out; have := HB2.out; have := HB7.out; have := HB8.out; omega)
    clear HB1 HB2 HB7 HB8 HL1 HL2
    skip
    have HX7 := Aside0.mk (show (W14.setCell ⟨w13.heap.size, 0, none⟩ (.slice D1 m.length k1)).heap[w13.heap.size]? = some (.cells #[.slice D1 m.length k1] 24 (0, 0)) from set_blk 0 _ X7.out rfl)
    have HX8 := Aside0.mk (show (W14.setCell ⟨w13.heap.size, 0, none⟩ (.slice D1 m.length k1)).heap[w1.heap.size]? = some (.cells #[.slice none 0 0] 24 (0, 0)) from blk_far X8.out (p := ⟨w13.heap.size, 0, none⟩) (Ne.symm HNUM.out.2.2.2.2.2.2.1) _)
    have x7_ := (blk_cell X7.out 0).trans rfl
    have z7_ := blk_frozen X7.out 0
    have x8_ := (blk_cell HX8.out 0).trans rfl
    have z8_ := blk_frozen HX8.out 0
    refine last_ (i := 6) (N := none) #[bT,bT,bT,bT,bT,bT,bT,bF] rfl rfl (by kernel_rfl) (by decide) (fun K hK => ?_)
    refine skip_ (w1 := ?_) (by rfl) rfl ?_ ?_
    rotate_left
    ·go_simp
     rfl
    refine hK _ _ ?_
    clear hK K
    try simp only [Act.put, sA_, sZ_, sS_]
    refine last_ (i := 7) (N := none) #[bT,bT,bT,bT,bT,bT,bT,bT] rfl rfl (by kernel_rfl) (by decide) (fun K hK => ?_)
    refine skip_ (w1 := ?_) (by rfl) rfl ?_ ?_
    rotate_left
    ·go_simp
     rfl
    refine hK _ _ ?_
    clear hK K
    try simp only [Act.put, sA_, sZ_, sS_]
    refine done_ (by kernel_rfl) ?_
    exact HQQ.out D1 D2 k1 k2 (w13.heap.size) (w1.heap.size) lo1 hi1 lo2 hi2 _ (below_set (below_set hS HNUM.out.2.2.2.2.1) HNUM.out.2.2.2.2.2.1) (blk_far HX7.out (p := ⟨w1.heap.size, 0, none⟩) HNUM.out.2.2.2.2.2.2.1 _) (set_blk 0 _ HX8.out rfl) (Kd.S_set (Kd.S_set S1.out X7.out (by decide) _ _) HX8.out (by decide) _ _) (Kd.S_set (Kd.S_set S2.out X7.out (by decide) _ _) HX8.out (by decide) _ _) HNUM.out
   ·skip
    refine value_ (w1 := ?_) (v := ?_) (by rfl) rfl ?_ ?_
    rotate_left 2
    ·go_simp
     constructor
     ·rfl
     ·rfl
    have HB7 := Aside0.mk (show wr.heap.size ≤ W12.heap.size ∧ w1.heap.size < W12.heap.size ∧ hi1 ≤ W12.heap.size from ⟨hS.size, blk_lt X8.out, HL1.out⟩)
    have Xn := Aside0.mk (show (World.alloc W12 (.cells #[.slice none 0 0] 24 (0, 0))).heap[W12.heap.size]? = some (.cells #[.slice none 0 0] 24 (0, 0)) from blk_new _ _)
    have X8_ := Aside0.mk (show (World.alloc W12 (.cells #[.slice none 0 0] 24 (0, 0))).heap[w1.heap.size]? = some (.cells #[.slice none 0 0] 24 (0, 0)) from (blk_alloc X8.out _))
    have S1_ := Aside0.mk (show Kd.S sF 27 (World.alloc W12 (.cells #[.slice none 0 0] 24 (0, 0))) lo1 (fun k => k < hi1) (.slice D1 m.length k1) m from (Kd.S_alloc S1.out _))
    have HL1_ := Aside0.mk (show hi1 ≤ (World.alloc W12 (.cells #[.slice none 0 0] 24 (0, 0))).heap.size from Nat.le_trans HL1.out (below_alloc (Below.refl _ _) _).size)
    clear X8
    have X8 := X8_
    clear X8_
    clear S1
    have S1 := S1_
    clear S1_
    clear HL1
    have HL1 := HL1_
    clear HL1_
    have X7 := Xn
    clear Xn
    refine hK _ _ (below_alloc hS _) (fun hS => ?_)
    clear hK K
    try simp only [mk_get2, List.getElem_cons_zero, List.getElem_cons_succ, Act.put, List.setIfInBounds_toArray, List.set_cons_zero, List.set_cons_succ]
    generalize (World.alloc W12 (.cells #[.slice none 0 0] 24 (0, 0))) = W15 at X7 hS X8 S1 HL1 ⊢
    refine one_ (i := 3) (N := some 24) #[bT,bT,bT,bT,bT,bT,bF,bF] rfl rfl (by kernel_rfl) (by decide) (fun K hK => ?_)
    refine goes_ Try.func24 (by kernel_rfl) rfl #[.agg #[.slice A0 m.length c0]] (by rfl) rfl rfl (by simp only [List.map_toArray, List.map_cons, List.map_nil]; rfl) ?_
    refine (copy_c m A0 c0 _ (Kd.C_below HM.out hS) HC.out HN.out).mono ?_
    rintro e w16 ⟨⟨v, rfl, hs⟩, hb⟩
    obtain ⟨D2, k2, rfl, _, _⟩ := SM_reads hs
    refine ⟨_, rfl, ?_⟩
    obtain ⟨lo2, hi2, HSn, HLn, HBn⟩ : ∃ lo2 hi2 : Nat, Aside0 (Kd.S sF 27 w16 lo2 (fun k => k < hi2) (.slice D2 m.length k2) m) ∧ Aside0 (hi2 ≤ w16.heap.size) ∧ Aside0 (wr.heap.size ≤ lo2 ∧ lo2 ≤ hi2 ∧ W12.heap.size < lo2 ∧ w1.heap.size < lo2 ∧ hi1 ≤ lo2) := ⟨_, w16.heap.size, ⟨Kd.S_mono (Kd.S_bound hs) (fun k hk => hk.2.2.1)⟩, ⟨Nat.le_refl _⟩, ⟨hS.size, hb.size, blk_lt X7.out, blk_lt X8.out, HL1.out⟩⟩
    have X7_ := Aside0.mk (blk_below X7.out hb)
    have X8_ := Aside0.mk (blk_below X8.out hb)
    have S1_ := Aside0.mk (Kd.S_below S1.out hb)
    have HL1_ := Aside0.mk (Nat.le_trans HL1.out hb.size)
    clear X7
    have X7 := X7_
    clear X7_
    clear X8
    have X8 := X8_
    clear X8_
    clear S1
    have S1 := S1_
    clear S1_
    clear HL1
    have HL1 := HL1_
    clear HL1_
    have S2 := HSn
    have HL2 := HLn
    have HB2 := HBn
    clear HSn HLn HBn hs
    have hS' := hS.trans (hb.mono hS.size)
    clear hb
    refine hK _ _ hS' (fun hS => ?_)
    clear hK K
    try simp only [mk_get2, List.getElem_cons_zero, List.getElem_cons_succ, Act.put, List.setIfInBounds_toArray, List.set_cons_zero, List.set_cons_succ]
    have HNUM := Aside0.mk (show wr.heap.size ≤ lo1 ∧ lo1 ≤ hi1 ∧ hi1 ≤ lo2 ∧ lo2 ≤ hi2 ∧ wr.heap.size ≤ W12.heap.size ∧ wr.heap.size ≤ w1.heap.size ∧ W12.heap.size ≠ w1.heap.size ∧ (W12.heap.size < lo1 ∨ hi1 ≤ W12.heap.size) ∧ (w1.heap.size < lo1 ∨ hi1 ≤ w1.heap.size) ∧ (W12.heap.size < lo2 ∨ hi2 ≤ W12.heap.size) ∧ (w1.heap.size < lo2 ∨ hi2 ≤ w1.heap.size) by have := HB1.out; have := HB2.out; have := HB7.out; have := HB8.out; omega)
    clear HB1 HB2 HB7 HB8 HL1 HL2
    skip
    have HX7 := Aside0.mk (show (w16.setCell ⟨W12.heap.size, 0, none⟩ (.slice D1 m.length k1)).heap[W12.heap.size]? = some (.cells #[.slice D1 m.length k1] 24 (0, 0)) from set_blk 0 _ X7.out rfl)
    have HX8 := Aside0.mk (show (w16.setCell ⟨W12.heap.size, 0, none⟩ (.slice D1 m.length k1)).heap[w1.heap.size]? = some (.cells #[.slice none 0 0] 24 (0, 0)) from blk_far X8.out (p := ⟨W12.heap.size, 0, none⟩) (Ne.symm HNUM.out.2.2.2.2.2.2.1) _)
    have x7_ := (blk_cell X7.out 0).trans rfl
    have z7_ := blk_frozen X7.out 0
    have x8_ := (blk_cell HX8.out 0).trans rfl
    have z8_ := blk_frozen HX8.out 0
    refine last_ (i := 6) (N := none) #[bT,bT,bT,bT,bT,bT,bT,bF] rfl rfl (by kernel_rfl) (by decide) (fun K hK => ?_)
    refine skip_ (w1 := ?_) (by rfl) rfl ?_ ?_
    rotate_left
    ·go_simp
     rfl
    refine hK _ _ ?_
    clear hK K
    try simp only [Act.put, sA_, sZ_, sS_]
    refine last_ (i := 7) (N := none) #[bT,bT,bT,bT,bT,bT,bT,bT] rfl rfl (by kernel_rfl) (by decide) (fun K hK => ?_)
    refine skip_ (w1 := ?_) (by rfl) rfl ?_ ?_
    rotate_left
    ·go_simp
     rfl
    refine hK _ _ ?_
    clear hK K
    try simp only [Act.put, sA_, sZ_, sS_]
    refine done_ (by kernel_rfl) ?_
    exact HQQ.out D1 D2 k1 k2 (W12.heap.size) (w1.heap.size) lo1 hi1 lo2 hi2 _ (below_set (below_set hS HNUM.out.2.2.2.2.1) HNUM.out.2.2.2.2.2.1) (blk_far HX7.out (p := ⟨w1.heap.size, 0, none⟩) HNUM.out.2.2.2.2.2.2.1 _) (set_blk 0 _ HX8.out rfl) (Kd.S_set (Kd.S_set S1.out X7.out (by decide) _ _) HX8.out (by decide) _ _) (Kd.S_set (Kd.S_set S2.out X7.out (by decide) _ _) HX8.out (by decide) _ _) HNUM.out
 ·skip
  refine value_ (w1 := ?_) (v := ?_) (by rfl) rfl ?_ ?_
  rotate_left 2
  ·go_simp
   constructor
   ·rfl
   ·rfl
  have HB7 := Aside0.mk (show wr.heap.size ≤ wr.heap.size from Nat.le_refl _)
  have Xn := Aside0.mk (show (World.drew (World.alloc wr (.cells #[.slice none 0 0] 24 (0, 0)))).heap[wr.heap.size]? = some (.cells #[.slice none 0 0] 24 (0, 0)) from blk_drew (blk_new _ _))
  have X7 := Xn
  clear Xn
  refine hK _ _ (below_alloc hS _) (fun hS => ?_)
  clear hK K
  try simp only [mk_get2, List.getElem_cons_zero, List.getElem_cons_succ, Act.put, List.setIfInBounds_toArray, List.set_cons_zero, List.set_cons_succ]
  generalize (World.drew (World.alloc wr (.cells #[.slice none 0 0] 24 (0, 0)))) = W17 at X7 hS ⊢
  refine two_ (i := 1) (j := 5) (Ni := some 22) (Nj := some 8) #[bT,bT,bT,bF,bT,bF,bF,bF] #[bT,bF,bT,bF,bT,bT,bF,bF] rfl rfl rfl rfl (by kernel_rfl) (by decide) (by decide) (fun K hK => ?_) (fun K hK => ?_)
  ·skip
   refine goes_ Try.func24 (by kernel_rfl) rfl #[.agg #[.slice A0 m.length c0]] (by rfl) rfl rfl (by simp only [List.map_toArray, List.map_cons, List.map_nil]; rfl) ?_
   refine (copy_c m A0 c0 _ (Kd.C_below HM.out hS) HC.out HN.out).mono ?_
   rintro e w18 ⟨⟨v, rfl, hs⟩, hb⟩
   obtain ⟨D1, k1, rfl, _, _⟩ := SM_reads hs
   refine ⟨_, rfl, ?_⟩
   obtain ⟨lo1, hi1, HSn, HLn, HBn⟩ : ∃ lo1 hi1 : Nat, Aside0 (Kd.S sF 27 w18 lo1 (fun k => k < hi1) (.slice D1 m.length k1) m) ∧ Aside0 (hi1 ≤ w18.heap.size) ∧ Aside0 (wr.heap.size ≤ lo1 ∧ lo1 ≤ hi1 ∧ wr.heap.size < lo1) := ⟨_, w18.heap.size, ⟨Kd.S_mono (Kd.S_bound hs) (fun k hk => hk.2.2.1)⟩, ⟨Nat.le_refl _⟩, ⟨hS.size, hb.size, blk_lt X7.out⟩⟩
   have X7_ := Aside0.mk (blk_below X7.out hb)
   clear X7
   have X7 := X7_
   clear X7_
   have S1 := HSn
   have HL1 := HLn
   have HB1 := HBn
   clear HSn HLn HBn hs
   have hS' := hS.trans (hb.mono hS.size)
   clear hb
   refine hK _ _ hS' (fun hS => ?_)
   clear hK K
   try simp only [mk_get2, List.getElem_cons_zero, List.getElem_cons_succ, Act.put, List.setIfInBounds_toArray, List.set_cons_zero, List.set_cons_succ]
   refine two_ (i := 3) (j := 5) (Ni := some 24) (Nj := some 8) #[bT,bT,bT,bT,bT,bF,bF,bF] #[bT,bT,bT,bF,bT,bT,bF,bF] rfl rfl rfl rfl (by kernel_rfl) (by decide) (by decide) (fun K hK => ?_) (fun K hK => ?_)
   ·skip
    refine goes_ Try.func24 (by kernel_rfl) rfl #[.agg #[.slice A0 m.length c0]] (by rfl) rfl rfl (by simp only [List.map_toArray, List.map_cons, List.map_nil]; rfl) ?_
    refine (copy_c m A0 c0 _ (Kd.C_below HM.out hS) HC.out HN.out).mono ?_
    rintro e w19 ⟨⟨v, rfl, hs⟩, hb⟩
    obtain ⟨D2, k2, rfl, _, _⟩ := SM_reads hs
    refine ⟨_, rfl, ?_⟩
    obtain ⟨lo2, hi2, HSn, HLn, HBn⟩ : ∃ lo2 hi2 : Nat, Aside0 (Kd.S sF 27 w19 lo2 (fun k => k < hi2) (.slice D2 m.length k2) m) ∧ Aside0 (hi2 ≤ w19.heap.size) ∧ Aside0 (wr.heap.size ≤ lo2 ∧ lo2 ≤ hi2 ∧ wr.heap.size < lo2 ∧ hi1 ≤ lo2) := ⟨_, w19.heap.size, ⟨Kd.S_mono (Kd.S_bound hs) (fun k hk => hk.2.2.1)⟩, ⟨Nat.le_refl _⟩, ⟨hS.size, hb.size, blk_lt X7.out, HL1.out⟩⟩
    have X7_ := Aside0.mk (blk_below X7.out hb)
    have S1_ := Aside0.mk (Kd.S_below S1.out hb)
    have HL1_ := Aside0.mk (Nat.le_trans HL1.out hb.size)
    clear X7
    have X7 := X7_
    clear X7_
    clear S1
    have S1 := S1_
    clear S1_
    clear HL1
    have HL1 := HL1_
    clear HL1_
    have S2 := HSn
    have HL2 := HLn
    have HB2 := HBn
    clear HSn HLn HBn hs
    have hS' := hS.trans (hb.mono hS.size)
    clear hb
    refine hK _ _ hS' (fun hS => ?_)
    clear hK K
    try simp only [mk_get2, List.getElem_cons_zero, List.getElem_cons_succ, Act.put, List.setIfInBounds_toArray, List.set_cons_zero, List.set_cons_succ]
    refine one_ (i := 5) (N := some 8) #[bT,bT,bT,bT,bT,bT,bF,bF] rfl rfl (by kernel_rfl) (by decide) (fun K hK => ?_)
    refine value_ (w1 := ?_) (v := ?_) (by rfl) rfl ?_ ?_
    rotate_left 2
    ·go_simp
     constructor
     ·rfl
     ·rfl
    have HB8 := Aside0.mk (show wr.heap.size ≤ w19.heap.size ∧ wr.heap.size < w19.heap.size ∧ hi1 ≤ w19.heap.size ∧ hi2 ≤ w19.heap.size from ⟨hS.size, blk_lt X7.out, HL1.out, HL2.out⟩)
    have Xn := Aside0.mk (show (World.alloc w19 (.cells #[.slice none 0 0] 24 (0, 0))).heap[w19.heap.size]? = some (.cells #[.slice none 0 0] 24 (0, 0)) from blk_new _ _)
    have X7_ := Aside0.mk (show (World.alloc w19 (.cells #[.slice none 0 0] 24 (0, 0))).heap[wr.heap.size]? = some (.cells #[.slice none 0 0] 24 (0, 0)) from (blk_alloc X7.out _))
    have S1_ := Aside0.mk (show Kd.S sF 27 (World.alloc w19 (.cells #[.slice none 0 0] 24 (0, 0))) lo1 (fun k => k < hi1) (.slice D1 m.length k1) m from (Kd.S_alloc S1.out _))
    have S2_ := Aside0.mk (show Kd.S sF 27 (World.alloc w19 (.cells #[.slice none 0 0] 24 (0, 0))) lo2 (fun k => k < hi2) (.slice D2 m.length k2) m from (Kd.S_alloc S2.out _))
    have HL1_ := Aside0.mk (show hi1 ≤ (World.alloc w19 (.cells #[.slice none 0 0] 24 (0, 0))).heap.size from Nat.le_trans HL1.out (below_alloc (Below.refl _ _) _).size)
    have HL2_ := Aside0.mk (show hi2 ≤ (World.alloc w19 (.cells #[.slice none 0 0] 24 (0, 0))).heap.size from Nat.le_trans HL2.out (below_alloc (Below.refl _ _) _).size)
    clear X7
    have X7 := X7_
    clear X7_
    clear S1
    have S1 := S1_
    clear S1_
    clear S2
    have S2 := S2_
    clear S2_
    clear HL1
    have HL1 := HL1_
    clear HL1_
    clear HL2
    have HL2 := HL2_
    clear HL2_
    have X8 := Xn
    clear Xn
    refine hK _ _ (below_alloc hS _) (fun hS => ?_)
    clear hK K
    try simp only [mk_get2, List.getElem_cons_zero, List.getElem_cons_succ, Act.put, List.setIfInBounds_toArray, List.set_cons_zero, List.set_cons_succ]
    generalize (World.alloc w19 (.cells #[.slice none 0 0] 24 (0, 0))) = W20 at X8 hS X7 S1 S2 HL1 HL2 ⊢
    have HNUM := Aside0.mk (show wr.heap.size ≤ lo1 ∧ lo1 ≤ hi1 ∧ hi1 ≤ lo2 ∧ lo2 ≤ hi2 ∧ wr.heap.size ≤ wr.heap.size ∧ wr.heap.size ≤ w19.heap.size ∧ wr.heap.size ≠ w19.heap.size ∧ (wr.heap.size < lo1 ∨ hi1 ≤ wr.heap.size) ∧ (w19.heap.size < lo1 ∨ hi1 ≤ w19.heap.size) ∧ (wr.heap.size < lo2 ∨ hi2 ≤ wr.heap.size) ∧ (w19.heap.size < lo2 ∨ hi2 ≤ w19.heap.size) by have := HB1.out; have := HB2.out; have := HB7.out; have := HB8.out; omega)
    clear HB1 HB2 HB7 HB8 HL1 HL2
    skip
    have HX7 := Aside0.mk (show (W20.setCell ⟨wr.heap.size, 0, none⟩ (.slice D1 m.length k1)).heap[wr.heap.size]? = some (.cells #[.slice D1 m.length k1] 24 (0, 0)) from set_blk 0 _ X7.out rfl)
    have HX8 := Aside0.mk (show (W20.setCell ⟨wr.heap.size, 0, none⟩ (.slice D1 m.length k1)).heap[w19.heap.size]? = some (.cells #[.slice none 0 0] 24 (0, 0)) from blk_far X8.out (p := ⟨wr.heap.size, 0, none⟩) (Ne.symm HNUM.out.2.2.2.2.2.2.1) _)
    have x7_ := (blk_cell X7.out 0).trans rfl
    have z7_ := blk_frozen X7.out 0
    have x8_ := (blk_cell HX8.out 0).trans rfl
    have z8_ := blk_frozen HX8.out 0
    refine last_ (i := 6) (N := none) #[bT,bT,bT,bT,bT,bT,bT,bF] rfl rfl (by kernel_rfl) (by decide) (fun K hK => ?_)
    refine skip_ (w1 := ?_) (by rfl) rfl ?_ ?_
    rotate_left
    ·go_simp
     rfl
    refine hK _ _ ?_
    clear hK K
    try simp only [Act.put, sA_, sZ_, sS_]
    refine last_ (i := 7) (N := none) #[bT,bT,bT,bT,bT,bT,bT,bT] rfl rfl (by kernel_rfl) (by decide) (fun K hK => ?_)
    refine skip_ (w1 := ?_) (by rfl) rfl ?_ ?_
    rotate_left
    ·go_simp
     rfl
    refine hK _ _ ?_
    clear hK K
    try simp only [Act.put, sA_, sZ_, sS_]
    refine done_ (by kernel_rfl) ?_
    exact HQQ.out D1 D2 k1 k2 (wr.heap.size) (w19.heap.size) lo1 hi1 lo2 hi2 _ (below_set (below_set hS HNUM.out.2.2.2.2.1) HNUM.out.2.2.2.2.2.1) (blk_far HX7.out (p := ⟨w19.heap.size, 0, none⟩) HNUM.out.2.2.2.2.2.2.1 _) (set_blk 0 _ HX8.out rfl) (Kd.S_set (Kd.S_set S1.out X7.out (by decide) _ _) HX8.out (by decide) _ _) (Kd.S_set (Kd.S_set S2.out X7.out (by decide) _ _) HX8.out (by decide) _ _) HNUM.out
   ·skip
    refine value_ (w1 := ?_) (v := ?_) (by rfl) rfl ?_ ?_
    rotate_left 2
    ·go_simp
     constructor
     ·rfl
     ·rfl
    have HB8 := Aside0.mk (show wr.heap.size ≤ w18.heap.size ∧ wr.heap.size < w18.heap.size ∧ hi1 ≤ w18.heap.size from ⟨hS.size, blk_lt X7.out, HL1.out⟩)
    have Xn := Aside0.mk (show (World.alloc w18 (.cells #[.slice none 0 0] 24 (0, 0))).heap[w18.heap.size]? = some (.cells #[.slice none 0 0] 24 (0, 0)) from blk_new _ _)
    have X7_ := Aside0.mk (show (World.alloc w18 (.cells #[.slice none 0 0] 24 (0, 0))).heap[wr.heap.size]? = some (.cells #[.slice none 0 0] 24 (0, 0)) from (blk_alloc X7.out _))
    have S1_ := Aside0.mk (show Kd.S sF 27 (World.alloc w18 (.cells #[.slice none 0 0] 24 (0, 0))) lo1 (fun k => k < hi1) (.slice D1 m.length k1) m from (Kd.S_alloc S1.out _))
    have HL1_ := Aside0.mk (show hi1 ≤ (World.alloc w18 (.cells #[.slice none 0 0] 24 (0, 0))).heap.size from Nat.le_trans HL1.out (below_alloc (Below.refl _ _) _).size)
    clear X7
    have X7 := X7_
    clear X7_
    clear S1
    have S1 := S1_
    clear S1_
    clear HL1
    have HL1 := HL1_
    clear HL1_
    have X8 := Xn
    clear Xn
    refine hK _ _ (below_alloc hS _) (fun hS => ?_)
    clear hK K
    try simp only [mk_get2, List.getElem_cons_zero, List.getElem_cons_succ, Act.put, List.setIfInBounds_toArray, List.set_cons_zero, List.set_cons_succ]
    generalize (World.alloc w18 (.cells #[.slice none 0 0] 24 (0, 0))) = W21 at X8 hS X7 S1 HL1 ⊢
    refine one_ (i := 3) (N := some 24) #[bT,bT,bT,bT,bT,bT,bF,bF] rfl rfl (by kernel_rfl) (by decide) (fun K hK => ?_)
    refine goes_ Try.func24 (by kernel_rfl) rfl #[.agg #[.slice A0 m.length c0]] (by rfl) rfl rfl (by simp only [List.map_toArray, List.map_cons, List.map_nil]; rfl) ?_
    refine (copy_c m A0 c0 _ (Kd.C_below HM.out hS) HC.out HN.out).mono ?_
    rintro e w22 ⟨⟨v, rfl, hs⟩, hb⟩
    obtain ⟨D2, k2, rfl, _, _⟩ := SM_reads hs
    refine ⟨_, rfl, ?_⟩
    obtain ⟨lo2, hi2, HSn, HLn, HBn⟩ : ∃ lo2 hi2 : Nat, Aside0 (Kd.S sF 27 w22 lo2 (fun k => k < hi2) (.slice D2 m.length k2) m) ∧ Aside0 (hi2 ≤ w22.heap.size) ∧ Aside0 (wr.heap.size ≤ lo2 ∧ lo2 ≤ hi2 ∧ wr.heap.size < lo2 ∧ w18.heap.size < lo2 ∧ hi1 ≤ lo2) := ⟨_, w22.heap.size, ⟨Kd.S_mono (Kd.S_bound hs) (fun k hk => hk.2.2.1)⟩, ⟨Nat.le_refl _⟩, ⟨hS.size, hb.size, blk_lt X7.out, blk_lt X8.out, HL1.out⟩⟩
    have X7_ := Aside0.mk (blk_below X7.out hb)
    have X8_ := Aside0.mk (blk_below X8.out hb)
    have S1_ := Aside0.mk (Kd.S_below S1.out hb)
    have HL1_ := Aside0.mk (Nat.le_trans HL1.out hb.size)
    clear X7
    have X7 := X7_
    clear X7_
    clear X8
    have X8 := X8_
    clear X8_
    clear S1
    have S1 := S1_
    clear S1_
    clear HL1
    have HL1 := HL1_
    clear HL1_
    have S2 := HSn
    have HL2 := HLn
    have HB2 := HBn
    clear HSn HLn HBn hs
    have hS' := hS.trans (hb.mono hS.size)
    clear hb
    refine hK _ _ hS' (fun hS => ?_)
    clear hK K
    try simp only [mk_get2, List.getElem_cons_zero, List.getElem_cons_succ, Act.put, List.setIfInBounds_toArray, List.set_cons_zero, List.set_cons_succ]
    have HNUM := Aside0.mk (show wr.heap.size ≤ lo1 ∧ lo1 ≤ hi1 ∧ hi1 ≤ lo2 ∧ lo2 ≤ hi2 ∧ wr.heap.size ≤ wr.heap.size ∧ wr.heap.size ≤ w18.heap.size ∧ wr.heap.size ≠ w18.heap.size ∧ (wr.heap.size < lo1 ∨ hi1 ≤ wr.heap.size) ∧ (w18.heap.size < lo1 ∨ hi1 ≤ w18.heap.size) ∧ (wr.heap.size < lo2 ∨ hi2 ≤ wr.heap.size) ∧ (w18.heap.size < lo2 ∨ hi2 ≤ w18.heap.size) by have := HB1.out; have := HB2.out; have := HB7.out; have := HB8.out; omega)
    clear HB1 HB2 HB7 HB8 HL1 HL2
    skip
    have HX7 := Aside0.mk (show (w22.setCell ⟨wr.heap.size, 0, none⟩ (.slice D1 m.length k1)).heap[wr.heap.size]? = some (.cells #[.slice D1 m.length k1] 24 (0, 0)) from set_blk 0 _ X7.out rfl)
    have HX8 := Aside0.mk (show (w22.setCell ⟨wr.heap.size, 0, none⟩ (.slice D1 m.length k1)).heap[w18.heap.size]? = some (.cells #[.slice none 0 0] 24 (0, 0)) from blk_far X8.out (p := ⟨wr.heap.size, 0, none⟩) (Ne.symm HNUM.out.2.2.2.2.2.2.1) _)
    have x7_ := (blk_cell X7.out 0).trans rfl
    have z7_ := blk_frozen X7.out 0
    have x8_ := (blk_cell HX8.out 0).trans rfl
    have z8_ := blk_frozen HX8.out 0
    refine last_ (i := 6) (N := none) #[bT,bT,bT,bT,bT,bT,bT,bF] rfl rfl (by kernel_rfl) (by decide) (fun K hK => ?_)
    refine skip_ (w1 := ?_) (by rfl) rfl ?_ ?_
    rotate_left
    ·go_simp
     rfl
    refine hK _ _ ?_
    clear hK K
    try simp only [Act.put, sA_, sZ_, sS_]
    refine last_ (i := 7) (N := none) #[bT,bT,bT,bT,bT,bT,bT,bT] rfl rfl (by kernel_rfl) (by decide) (fun K hK => ?_)
    refine skip_ (w1 := ?_) (by rfl) rfl ?_ ?_
    rotate_left
    ·go_simp
     rfl
    refine hK _ _ ?_
    clear hK K
    try simp only [Act.put, sA_, sZ_, sS_]
    refine done_ (by kernel_rfl) ?_
    exact HQQ.out D1 D2 k1 k2 (wr.heap.size) (w18.heap.size) lo1 hi1 lo2 hi2 _ (below_set (below_set hS HNUM.out.2.2.2.2.1) HNUM.out.2.2.2.2.2.1) (blk_far HX7.out (p := ⟨w18.heap.size, 0, none⟩) HNUM.out.2.2.2.2.2.2.1 _) (set_blk 0 _ HX8.out rfl) (Kd.S_set (Kd.S_set S1.out X7.out (by decide) _ _) HX8.out (by decide) _ _) (Kd.S_set (Kd.S_set S2.out X7.out (by decide) _ _) HX8.out (by decide) _ _) HNUM.out
  ·skip
   refine value_ (w1 := ?_) (v := ?_) (by rfl) rfl ?_ ?_
   rotate_left 2
   ·go_simp
    constructor
    ·rfl
    ·rfl
   have HB8 := Aside0.mk (show wr.heap.size ≤ W17.heap.size ∧ wr.heap.size < W17.heap.size from ⟨hS.size, blk_lt X7.out⟩)
   have Xn := Aside0.mk (show (World.alloc W17 (.cells #[.slice none 0 0] 24 (0, 0))).heap[W17.heap.size]? = some (.cells #[.slice none 0 0] 24 (0, 0)) from blk_new _ _)
   have X7_ := Aside0.mk (show (World.alloc W17 (.cells #[.slice none 0 0] 24 (0, 0))).heap[wr.heap.size]? = some (.cells #[.slice none 0 0] 24 (0, 0)) from (blk_alloc X7.out _))
   clear X7
   have X7 := X7_
   clear X7_
   have X8 := Xn
   clear Xn
   refine hK _ _ (below_alloc hS _) (fun hS => ?_)
   clear hK K
   try simp only [mk_get2, List.getElem_cons_zero, List.getElem_cons_succ, Act.put, List.setIfInBounds_toArray, List.set_cons_zero, List.set_cons_succ]
   generalize (World.alloc W17 (.cells #[.slice none 0 0] 24 (0, 0))) = W23 at X8 hS X7 ⊢
   refine one_ (i := 1) (N := some 22) #[bT,bT,bT,bF,bT,bT,bF,bF] rfl rfl (by kernel_rfl) (by decide) (fun K hK => ?_)
   refine goes_ Try.func24 (by kernel_rfl) rfl #[.agg #[.slice A0 m.length c0]] (by rfl) rfl rfl (by simp only [List.map_toArray, List.map_cons, List.map_nil]; rfl) ?_
   refine (copy_c m A0 c0 _ (Kd.C_below HM.out hS) HC.out HN.out).mono ?_
   rintro e w24 ⟨⟨v, rfl, hs⟩, hb⟩
   obtain ⟨D1, k1, rfl, _, _⟩ := SM_reads hs
   refine ⟨_, rfl, ?_⟩
   obtain ⟨lo1, hi1, HSn, HLn, HBn⟩ : ∃ lo1 hi1 : Nat, Aside0 (Kd.S sF 27 w24 lo1 (fun k => k < hi1) (.slice D1 m.length k1) m) ∧ Aside0 (hi1 ≤ w24.heap.size) ∧ Aside0 (wr.heap.size ≤ lo1 ∧ lo1 ≤ hi1 ∧ wr.heap.size < lo1 ∧ W17.heap.size < lo1) := ⟨_, w24.heap.size, ⟨Kd.S_mono (Kd.S_bound hs) (fun k hk => hk.2.2.1)⟩, ⟨Nat.le_refl _⟩, ⟨hS.size, hb.size, blk_lt X7.out, blk_lt X8.out⟩⟩
   have X7_ := Aside0.mk (blk_below X7.out hb)
   have X8_ := Aside0.mk (blk_below X8.out hb)
   clear X7
   have X7 := X7_
   clear X7_
   clear X8
   have X8 := X8_
   clear X8_
   have S1 := HSn
   have HL1 := HLn
   have HB1 := HBn
   clear HSn HLn HBn hs
   have hS' := hS.trans (hb.mono hS.size)
   clear hb
   refine hK _ _ hS' (fun hS => ?_)
   clear hK K
   try simp only [mk_get2, List.getElem_cons_zero, List.getElem_cons_succ, Act.put, List.setIfInBounds_toArray, List.set_cons_zero, List.set_cons_succ]
   refine one_ (i := 3) (N := some 24) #[bT,bT,bT,bT,bT,bT,bF,bF] rfl rfl (by kernel_rfl) (by decide) (fun K hK => ?_)
   refine goes_ Try.func24 (by kernel_rfl) rfl #[.agg #[.slice A0 m.length c0]] (by rfl) rfl rfl (by simp only [List.map_toArray, List.map_cons, List.map_nil]; rfl) ?_
   refine (copy_c m A0 c0 _ (Kd.C_below HM.out hS) HC.out HN.out).mono ?_
   rintro e w25 ⟨⟨v, rfl, hs⟩, hb⟩
   obtain ⟨D2, k2, rfl, _, _⟩ := SM_reads hs
   refine ⟨_, rfl, ?_⟩
   obtain ⟨lo2, hi2, HSn, HLn, HBn⟩ : ∃ lo2 hi2 : Nat, Aside0 (Kd.S sF 27 w25 lo2 (fun k => k < hi2) (.slice D2 m.length k2) m) ∧ Aside0 (hi2 ≤ w25.heap.size) ∧ Aside0 (wr.heap.size ≤ lo2 ∧ lo2 ≤ hi2 ∧ wr.heap.size < lo2 ∧ W17.heap.size < lo2 ∧ hi1 ≤ lo2) := ⟨_, w25.heap.size, ⟨Kd.S_mono (Kd.S_bound hs) (fun k hk => hk.2.2.1)⟩, ⟨Nat.le_refl _⟩, ⟨hS.size, hb.size, blk_lt X7.out, blk_lt X8.out, HL1.out⟩⟩
   have X7_ := Aside0.mk (blk_below X7.out hb)
   have X8_ := Aside0.mk (blk_below X8.out hb)
   have S1_ := Aside0.mk (Kd.S_below S1.out hb)
   have HL1_ := Aside0.mk (Nat.le_trans HL1.out hb.size)
   clear X7
   have X7 := X7_
   clear X7_
   clear X8
   have X8 := X8_
   clear X8_
   clear S1
   have S1 := S1_
   clear S1_
   clear HL1
   have HL1 := HL1_
   clear HL1_
   have S2 := HSn
   have HL2 := HLn
   have HB2 := HBn
   clear HSn HLn HBn hs
   have hS' := hS.trans (hb.mono hS.size)
   clear hb
   refine hK _ _ hS' (fun hS => ?_)
   clear hK K
   try simp only [mk_get2, List.getElem_cons_zero, List.getElem_cons_succ, Act.put, List.setIfInBounds_toArray, List.set_cons_zero, List.set_cons_succ]
   have HNUM := Aside0.mk (show wr.heap.size ≤ lo1 ∧ lo1 ≤ hi1 ∧ hi1 ≤ lo2 ∧ lo2 ≤ hi2 ∧ wr.heap.size ≤ wr.heap.size ∧ wr.heap.size ≤ W17.heap.size ∧ wr.heap.size ≠ W17.heap.size ∧ (wr.heap.size < lo1 ∨ hi1 ≤ wr.heap.size) ∧ (W17.heap.size < lo1 ∨ hi1 ≤ W17.heap.size) ∧ (wr.heap.size < lo2 ∨ hi2 ≤ wr.heap.size) ∧ (W17.heap.size < lo2 ∨ hi2 ≤ W17.heap.size) by have := HB1.out; have := HB2.out; have := HB7.out; have := HB8.out; omega)
   clear HB1 HB2 HB7 HB8 HL1 HL2
   skip
   have HX7 := Aside0.mk (show (w25.setCell ⟨wr.heap.size, 0, none⟩ (.slice D1 m.length k1)).heap[wr.heap.size]? = some (.cells #[.slice D1 m.length k1] 24 (0, 0)) from set_blk 0 _ X7.out rfl)
   have HX8 := Aside0.mk (show (w25.setCell ⟨wr.heap.size, 0, none⟩ (.slice D1 m.length k1)).heap[W17.heap.size]? = some (.cells #[.slice none 0 0] 24 (0, 0)) from blk_far X8.out (p := ⟨wr.heap.size, 0, none⟩) (Ne.symm HNUM.out.2.2.2.2.2.2.1) _)
   have x7_ := (blk_cell X7.out 0).trans rfl
   have z7_ := blk_frozen X7.out 0
   have x8_ := (blk_cell HX8.out 0).trans rfl
   have z8_ := blk_frozen HX8.out 0
   refine last_ (i := 6) (N := none) #[bT,bT,bT,bT,bT,bT,bT,bF] rfl rfl (by kernel_rfl) (by decide) (fun K hK => ?_)
   refine skip_ (w1 := ?_) (by rfl) rfl ?_ ?_
   rotate_left
   ·go_simp
    rfl
   refine hK _ _ ?_
   clear hK K
   try simp only [Act.put, sA_, sZ_, sS_]
   refine last_ (i := 7) (N := none) #[bT,bT,bT,bT,bT,bT,bT,bT] rfl rfl (by kernel_rfl) (by decide) (fun K hK => ?_)
   refine skip_ (w1 := ?_) (by rfl) rfl ?_ ?_
   rotate_left
   ·go_simp
    rfl
   refine hK _ _ ?_
   clear hK K
   try simp only [Act.put, sA_, sZ_, sS_]
   refine done_ (by kernel_rfl) ?_
   exact HQQ.out D1 D2 k1 k2 (wr.heap.size) (W17.heap.size) lo1 hi1 lo2 hi2 _ (below_set (below_set hS HNUM.out.2.2.2.2.1) HNUM.out.2.2.2.2.2.1) (blk_far HX7.out (p := ⟨W17.heap.size, 0, none⟩) HNUM.out.2.2.2.2.2.2.1 _) (set_blk 0 _ HX8.out rfl) (Kd.S_set (Kd.S_set S1.out X7.out (by decide) _ _) HX8.out (by decide) _ _) (Kd.S_set (Kd.S_set S2.out X7.out (by decide) _ _) HX8.out (by decide) _ _) HNUM.out
 ·skip
  refine value_ (w1 := ?_) (v := ?_) (by rfl) rfl ?_ ?_
  rotate_left 2
  ·go_simp
   constructor
   ·rfl
   ·rfl
  have HB8 := Aside0.mk (show wr.heap.size ≤ wr.heap.size from Nat.le_refl _)
  have Xn := Aside0.mk (show (World.drew (World.alloc wr (.cells #[.slice none 0 0] 24 (0, 0)))).heap[wr.heap.size]? = some (.cells #[.slice none 0 0] 24 (0, 0)) from blk_drew (blk_new _ _))
  have X8 := Xn
  clear Xn
  refine hK _ _ (below_alloc hS _) (fun hS => ?_)
  clear hK K
  try simp only [mk_get2, List.getElem_cons_zero, List.getElem_cons_succ, Act.put, List.setIfInBounds_toArray, List.set_cons_zero, List.set_cons_succ]
  generalize (World.drew (World.alloc wr (.cells #[.slice none 0 0] 24 (0, 0)))) = W26 at X8 hS ⊢
  refine two_ (i := 1) (j := 4) (Ni := some 22) (Nj := some 7) #[bT,bT,bT,bF,bF,bT,bF,bF] #[bT,bF,bT,bF,bT,bT,bF,bF] rfl rfl rfl rfl (by kernel_rfl) (by decide) (by decide) (fun K hK => ?_) (fun K hK => ?_)
  ·skip
   refine goes_ Try.func24 (by kernel_rfl) rfl #[.agg #[.slice A0 m.length c0]] (by rfl) rfl rfl (by simp only [List.map_toArray, List.map_cons, List.map_nil]; rfl) ?_
   refine (copy_c m A0 c0 _ (Kd.C_below HM.out hS) HC.out HN.out).mono ?_
   rintro e w27 ⟨⟨v, rfl, hs⟩, hb⟩
   obtain ⟨D1, k1, rfl, _, _⟩ := SM_reads hs
   refine ⟨_, rfl, ?_⟩
   obtain ⟨lo1, hi1, HSn, HLn, HBn⟩ : ∃ lo1 hi1 : Nat, Aside0 (Kd.S sF 27 w27 lo1 (fun k => k < hi1) (.slice D1 m.length k1) m) ∧ Aside0 (hi1 ≤ w27.heap.size) ∧ Aside0 (wr.heap.size ≤ lo1 ∧ lo1 ≤ hi1 ∧ wr.heap.size < lo1) := ⟨_, w27.heap.size, ⟨Kd.S_mono (Kd.S_bound hs) (fun k hk => hk.2.2.1)⟩, ⟨Nat.le_refl _⟩, ⟨hS.size, hb.size, blk_lt X8.out⟩⟩
   have X8_ := Aside0.mk (blk_below X8.out hb)
   clear X8
   have X8 := X8_
   clear X8_
   have S1 := HSn
   have HL1 := HLn
   have HB1 := HBn
   clear HSn HLn HBn hs
   have hS' := hS.trans (hb.mono hS.size)
   clear hb
   refine hK _ _ hS' (fun hS => ?_)
   clear hK K
   try simp only [mk_get2, List.getElem_cons_zero, List.getElem_cons_succ, Act.put, List.setIfInBounds_toArray, List.set_cons_zero, List.set_cons_succ]
   refine two_ (i := 3) (j := 4) (Ni := some 24) (Nj := some 7) #[bT,bT,bT,bT,bF,bT,bF,bF] #[bT,bT,bT,bF,bT,bT,bF,bF] rfl rfl rfl rfl (by kernel_rfl) (by decide) (by decide) (fun K hK => ?_) (fun K hK => ?_)
   ·skip
    refine goes_ Try.func24 (by kernel_rfl) rfl #[.agg #[.slice A0 m.length c0]] (by rfl) rfl rfl (by simp only [List.map_toArray, List.map_cons, List.map_nil]; rfl) ?_
    refine (copy_c m A0 c0 _ (Kd.C_below HM.out hS) HC.out HN.out).mono ?_
    rintro e w28 ⟨⟨v, rfl, hs⟩, hb⟩
    obtain ⟨D2, k2, rfl, _, _⟩ := SM_reads hs
    refine ⟨_, rfl, ?_⟩
    obtain ⟨lo2, hi2, HSn, HLn, HBn⟩ : ∃ lo2 hi2 : Nat, Aside0 (Kd.S sF 27 w28 lo2 (fun k => k < hi2) (.slice D2 m.length k2) m) ∧ Aside0 (hi2 ≤ w28.heap.size) ∧ Aside0 (wr.heap.size ≤ lo2 ∧ lo2 ≤ hi2 ∧ wr.heap.size < lo2 ∧ hi1 ≤ lo2) := ⟨_, w28.heap.size, ⟨Kd.S_mono (Kd.S_bound hs) (fun k hk => hk.2.2.1)⟩, ⟨Nat.le_refl _⟩, ⟨hS.size, hb.size, blk_lt X8.out, HL1.out⟩⟩
    have X8_ := Aside0.mk (blk_below X8.out hb)
    have S1_ := Aside0.mk (Kd.S_below S1.out hb)
    have HL1_ := Aside0.mk (Nat.le_trans HL1.out hb.size)
    clear X8
    have X8 := X8_
    clear X8_
    clear S1
    have S1 := S1_
    clear S1_
    clear HL1
    have HL1 := HL1_
    clear HL1_
    have S2 := HSn
    have HL2 := HLn
    have HB2 := HBn
    clear HSn HLn HBn hs
    have hS' := hS.trans (hb.mono hS.size)
    clear hb
    refine hK _ _ hS' (fun hS => ?_)
    clear hK K
    try simp only [mk_get2, List.getElem_cons_zero, List.getElem_cons_succ, Act.put, List.setIfInBounds_toArray, List.set_cons_zero, List.set_cons_succ]
    refine one_ (i := 4) (N := some 7) #[bT,bT,bT,bT,bT,bT,bF,bF] rfl rfl (by kernel_rfl) (by decide) (fun K hK => ?_)
    refine value_ (w1 := ?_) (v := ?_) (by rfl) rfl ?_ ?_
    rotate_left 2
    ·go_simp
     constructor
     ·rfl
     ·rfl
    have HB7 := Aside0.mk (show wr.heap.size ≤ w28.heap.size ∧ wr.heap.size < w28.heap.size ∧ hi1 ≤ w28.heap.size ∧ hi2 ≤ w28.heap.size from ⟨hS.size, blk_lt X8.out, HL1.out, HL2.out⟩)
    have Xn := Aside0.mk (show (World.alloc w28 (.cells #[.slice none 0 0] 24 (0, 0))).heap[w28.heap.size]? = some (.cells #[.slice none 0 0] 24 (0, 0)) from blk_new _ _)
    have X8_ := Aside0.mk (show (World.alloc w28 (.cells #[.slice none 0 0] 24 (0, 0))).heap[wr.heap.size]? = some (.cells #[.slice none 0 0] 24 (0, 0)) from (blk_alloc X8.out _))
    have S1_ := Aside0.mk (show Kd.S sF 27 (World.alloc w28 (.cells #[.slice none 0 0] 24 (0, 0))) lo1 (fun k => k < hi1) (.slice D1 m.length k1) m from (Kd.S_alloc S1.out _))
    have S2_ := Aside0.mk (show Kd.S sF 27 (World.alloc w28 (.cells #[.slice none 0 0] 24 (0, 0))) lo2 (fun k => k < hi2) (.slice D2 m.length k2) m from (Kd.S_alloc S2.out _))
    have HL1_ := Aside0.mk (show hi1 ≤ (World.alloc w28 (.cells #[.slice none 0 0] 24 (0, 0))).heap.size from Nat.le_trans HL1.out (below_alloc (Below.refl _ _) _).size)
    have HL2_ := Aside0.mk (show hi2 ≤ (World.alloc w28 (.cells #[.slice none 0 0] 24 (0, 0))).heap.size from Nat.le_trans HL2.out (below_alloc (Below.refl _ _) _).size)
    clear X8
    have X8 := X8_
    clear X8_
    clear S1
    have S1 := S1_
    clear S1_
    clear S2
    have S2 := S2_
    clear S2_
    clear HL1
    have HL1 := HL1_
    clear HL1_
    clear HL2
    have HL2 := HL2_
    clear HL2_
    have X7 := Xn
    clear Xn
    refine hK _ _ (below_alloc hS _) (fun hS => ?_)
    clear hK K
    try simp only [mk_get2, List.getElem_cons_zero, List.getElem_cons_succ, Act.put, List.setIfInBounds_toArray, List.set_cons_zero, List.set_cons_succ]
    generalize (World.alloc w28 (.cells #[.slice none 0 0] 24 (0, 0))) = W29 at X7 hS X8 S1 S2 HL1 HL2 ⊢
    have HNUM := Aside0.mk (show wr.heap.size ≤ lo1 ∧ lo1 ≤ hi1 ∧ hi1 ≤ lo2 ∧ lo2 ≤ hi2 ∧ wr.heap.size ≤ w28.heap.size ∧ wr.heap.size ≤ wr.heap.size ∧ w28.heap.size ≠ wr.heap.size ∧ (w28.heap.size < lo1 ∨ hi1 ≤ w28.heap.size) ∧ (wr.heap.size < lo1 ∨ hi1 ≤ wr.heap.size) ∧ (w28.heap.size < lo2 ∨ hi2 ≤ w28.heap.size) ∧ (wr.heap.size < lo2 ∨ hi2 ≤ wr.heap.size) by have := HB1.out; have := HB2.out; have := HB7.out; have := HB8.out; omega)
    clear HB1 HB2 HB7 HB8 HL1 HL2
    skip
    have HX7 := Aside0.mk (show (W29.setCell ⟨w28.heap.size, 0, none⟩ (.slice D1 m.length k1)).heap[w28.heap.size]? = some (.cells #[.slice D1 m.length k1] 24 (0, 0)) from set_blk 0 _ X7.out rfl)
    have HX8 := Aside0.mk (show (W29.setCell ⟨w28.heap.size, 0, none⟩ (.slice D1 m.length k1)).heap[wr.heap.size]? = some (.cells #[.slice none 0 0] 24 (0, 0)) from blk_far X8.out (p := ⟨w28.heap.size, 0, none⟩) (Ne.symm HNUM.out.2.2.2.2.2.2.1) _)
    have x7_ := (blk_cell X7.out 0).trans rfl
    have z7_ := blk_frozen X7.out 0
    have x8_ := (blk_cell HX8.out 0).trans rfl
    have z8_ := blk_frozen HX8.out 0
    refine last_ (i := 6) (N := none) #[bT,bT,bT,bT,bT,bT,bT,bF] rfl rfl (by kernel_rfl) (by decide) (fun K hK => ?_)
    refine skip_ (w1 := ?_) (by rfl) rfl ?_ ?_
    rotate_left
    ·go_simp
     rfl
    refine hK _ _ ?_
    clear hK K
    try simp only [Act.put, sA_, sZ_, sS_]
    refine last_ (i := 7) (N := none) #[bT,bT,bT,bT,bT,bT,bT,bT] rfl rfl (by kernel_rfl) (by decide) (fun K hK => ?_)
    refine skip_ (w1 := ?_) (by rfl) rfl ?_ ?_
    rotate_left
    ·go_simp
     rfl
    refine hK _ _ ?_
    clear hK K
    try simp only [Act.put, sA_, sZ_, sS_]
    refine done_ (by kernel_rfl) ?_
    exact HQQ.out D1 D2 k1 k2 (w28.heap.size) (wr.heap.size) lo1 hi1 lo2 hi2 _ (below_set (below_set hS HNUM.out.2.2.2.2.1) HNUM.out.2.2.2.2.2.1) (blk_far HX7.out (p := ⟨wr.heap.size, 0, none⟩) HNUM.out.2.2.2.2.2.2.1 _) (set_blk 0 _ HX8.out rfl) (Kd.S_set (Kd.S_set S1.out X7.out (by decide) _ _) HX8.out (by decide) _ _) (Kd.S_set (Kd.S_set S2.out X7.out (by decide) _ _) HX8.out (by decide) _ _) HNUM.out
   ·skip
    refine value_ (w1 := ?_) (v := ?_) (by rfl) rfl ?_ ?_
    rotate_left 2
    ·go_simp
     constructor
     ·rfl
     ·rfl
    have HB7 := Aside0.mk (show wr.heap.size ≤ w27.heap.size ∧ wr.heap.size < w27.heap.size ∧ hi1 ≤ w27.heap.size from ⟨hS.size, blk_lt X8.out, HL1.out⟩)
    have Xn := Aside0.mk (show (World.alloc w27 (.cells #[.slice none 0 0] 24 (0, 0))).heap[w27.heap.size]? = some (.cells #[.slice none 0 0] 24 (0, 0)) from blk_new _ _)
    have X8_ := Aside0.mk (show (World.alloc w27 (.cells #[.slice none 0 0] 24 (0, 0))).heap[wr.heap.size]? = some (.cells #[.slice none 0 0] 24 (0, 0)) from (blk_alloc X8.out _))
    have S1_ := Aside0.mk (show Kd.S sF 27 (World.alloc w27 (.cells #[.slice none 0 0] 24 (0, 0))) lo1 (fun k => k < hi1) (.slice D1 m.length k1) m from (Kd.S_alloc S1.out _))
    have HL1_ := Aside0.mk (show hi1 ≤ (World.alloc w27 (.cells #[.slice none 0 0] 24 (0, 0))).heap.size from Nat.le_trans HL1.out (below_alloc (Below.refl _ _) _).size)
    clear X8
    have X8 := X8_
    clear X8_
    clear S1
    have S1 := S1_
    clear S1_
    clear HL1
    have HL1 := HL1_
    clear HL1_
    have X7 := Xn
    clear Xn
    refine hK _ _ (below_alloc hS _) (fun hS => ?_)
    clear hK K
    try simp only [mk_get2, List.getElem_cons_zero, List.getElem_cons_succ, Act.put, List.setIfInBounds_toArray, List.set_cons_zero, List.set_cons_succ]
    generalize (World.alloc w27 (.cells #[.slice none 0 0] 24 (0, 0))) = W30 at X7 hS X8 S1 HL1 ⊢
    refine one_ (i := 3) (N := some 24) #[bT,bT,bT,bT,bT,bT,bF,bF] rfl rfl (by kernel_rfl) (by decide) (fun K hK => ?_)
    refine goes_ Try.func24 (by kernel_rfl) rfl #[.agg #[.slice A0 m.length c0]] (by rfl) rfl rfl (by simp only [List.map_toArray, List.map_cons, List.map_nil]; rfl) ?_
    refine (copy_c m A0 c0 _ (Kd.C_below HM.out hS) HC.out HN.out).mono ?_
    rintro e w31 ⟨⟨v, rfl, hs⟩, hb⟩
    obtain ⟨D2, k2, rfl, _, _⟩ := SM_reads hs
    refine ⟨_, rfl, ?_⟩
    obtain ⟨lo2, hi2, HSn, HLn, HBn⟩ : ∃ lo2 hi2 : Nat, Aside0 (Kd.S sF 27 w31 lo2 (fun k => k < hi2) (.slice D2 m.length k2) m) ∧ Aside0 (hi2 ≤ w31.heap.size) ∧ Aside0 (wr.heap.size ≤ lo2 ∧ lo2 ≤ hi2 ∧ w27.heap.size < lo2 ∧ wr.heap.size < lo2 ∧ hi1 ≤ lo2) := ⟨_, w31.heap.size, ⟨Kd.S_mono (Kd.S_bound hs) (fun k hk => hk.2.2.1)⟩, ⟨Nat.le_refl _⟩, ⟨hS.size, hb.size, blk_lt X7.out, blk_lt X8.out, HL1.out⟩⟩
    have X7_ := Aside0.mk (blk_below X7.out hb)
    have X8_ := Aside0.mk (blk_below X8.out hb)
    have S1_ := Aside0.mk (Kd.S_below S1.out hb)
    have HL1_ := Aside0.mk (Nat.le_trans HL1.out hb.size)
    clear X7
    have X7 := X7_
    clear X7_
    clear X8
    have X8 := X8_
    clear X8_
    clear S1
    have S1 := S1_
    clear S1_
    clear HL1
    have HL1 := HL1_
    clear HL1_
    have S2 := HSn
    have HL2 := HLn
    have HB2 := HBn
    clear HSn HLn HBn hs
    have hS' := hS.trans (hb.mono hS.size)
    clear hb
    refine hK _ _ hS' (fun hS => ?_)
    clear hK K
    try simp only [mk_get2, List.getElem_cons_zero, List.getElem_cons_succ, Act.put, List.setIfInBounds_toArray, List.set_cons_zero, List.set_cons_succ]
    have HNUM := Aside0.mk (show wr.heap.size ≤ lo1 ∧ lo1 ≤ hi1 ∧ hi1 ≤ lo2 ∧ lo2 ≤ hi2 ∧ wr.heap.size ≤ w27.heap.size ∧ wr.heap.size ≤ wr.heap.size ∧ w27.heap.size ≠ wr.heap.size ∧ (w27.heap.size < lo1 ∨ hi1 ≤ w27.heap.size) ∧ (wr.heap.size < lo1 ∨ hi1 ≤ wr.heap.size) ∧ (w27.heap.size < lo2 ∨ hi2 ≤ w27.heap.size) ∧ (wr.heap.size < lo2 ∨ hi2 ≤ wr.heap.size) by have := HB1.out; have := HB2.out; have := HB7.out; have := HB8.out; omega)
    clear HB1 HB2 HB7 HB8 HL1 HL2
    skip
    have HX7 := Aside0.mk (show (w31.setCell ⟨w27.heap.size, 0, none⟩ (.slice D1 m.length k1)).heap[w27.heap.size]? = some (.cells #[.slice D1 m.length k1] 24 (0, 0)) from set_blk 0 _ X7.out rfl)
    have HX8 := Aside0.mk (show (w31.setCell ⟨w27.heap.size, 0, none⟩ (.slice D1 m.length k1)).heap[wr.heap.size]? = some (.cells #[.slice none 0 0] 24 (0, 0)) from blk_far X8.out (p := ⟨w27.heap.size, 0, none⟩) (Ne.symm HNUM.out.2.2.2.2.2.2.1) _)
    have x7_ := (blk_cell X7.out 0).trans rfl
    have z7_ := blk_frozen X7.out 0
    have x8_ := (blk_cell HX8.out 0).trans rfl
    have z8_ := blk_frozen HX8.out 0
    refine last_ (i := 6) (N := none) #[bT,bT,bT,bT,bT,bT,bT,bF] rfl rfl (by kernel_rfl) (by decide) (fun K hK => ?_)
    refine skip_ (w1 := ?_) (by rfl) rfl ?_ ?_
    rotate_left
    ·go_simp
     rfl
    refine hK _ _ ?_
    clear hK K
    try simp only [Act.put, sA_, sZ_, sS_]
    refine last_ (i := 7) (N := none) #[bT,bT,bT,bT,bT,bT,bT,bT] rfl rfl (by kernel_rfl) (by decide) (fun K hK => ?_)
    refine skip_ (w1 := ?_) (by rfl) rfl ?_ ?_
    rotate_left
    ·go_simp
     rfl
    refine hK _ _ ?_
    clear hK K
    try simp only [Act.put, sA_, sZ_, sS_]
    refine done_ (by kernel_rfl) ?_
    exact HQQ.out D1 D2 k1 k2 (w27.heap.size) (wr.heap.size) lo1 hi1 lo2 hi2 _ (below_set (below_set hS HNUM.out.2.2.2.2.1) HNUM.out.2.2.2.2.2.1) (blk_far HX7.out (p := ⟨wr.heap.size, 0, none⟩) HNUM.out.2.2.2.2.2.2.1 _) (set_blk 0 _ HX8.out rfl) (Kd.S_set (Kd.S_set S1.out X7.out (by decide) _ _) HX8.out (by decide) _ _) (Kd.S_set (Kd.S_set S2.out X7.out (by decide) _ _) HX8.out (by decide) _ _) HNUM.out
  ·skip
   refine value_ (w1 := ?_) (v := ?_) (by rfl) rfl ?_ ?_
   rotate_left 2
   ·go_simp
    constructor
    ·rfl
    ·rfl
   have HB7 := Aside0.mk (show wr.heap.size ≤ W26.heap.size ∧ wr.heap.size < W26.heap.size from ⟨hS.size, blk_lt X8.out⟩)
   have Xn := Aside0.mk (show (World.alloc W26 (.cells #[.slice none 0 0] 24 (0, 0))).heap[W26.heap.size]? = some (.cells #[.slice none 0 0] 24 (0, 0)) from blk_new _ _)
   have X8_ := Aside0.mk (show (World.alloc W26 (.cells #[.slice none 0 0] 24 (0, 0))).heap[wr.heap.size]? = some (.cells #[.slice none 0 0] 24 (0, 0)) from (blk_alloc X8.out _))
   clear X8
   have X8 := X8_
   clear X8_
   have X7 := Xn
   clear Xn
   refine hK _ _ (below_alloc hS _) (fun hS => ?_)
   clear hK K
   try simp only [mk_get2, List.getElem_cons_zero, List.getElem_cons_succ, Act.put, List.setIfInBounds_toArray, List.set_cons_zero, List.set_cons_succ]
   generalize (World.alloc W26 (.cells #[.slice none 0 0] 24 (0, 0))) = W32 at X7 hS X8 ⊢
   refine one_ (i := 1) (N := some 22) #[bT,bT,bT,bF,bT,bT,bF,bF] rfl rfl (by kernel_rfl) (by decide) (fun K hK => ?_)
   refine goes_ Try.func24 (by kernel_rfl) rfl #[.agg #[.slice A0 m.length c0]] (by rfl) rfl rfl (by simp only [List.map_toArray, List.map_cons, List.map_nil]; rfl) ?_
   refine (copy_c m A0 c0 _ (Kd.C_below HM.out hS) HC.out HN.out).mono ?_
   rintro e w33 ⟨⟨v, rfl, hs⟩, hb⟩
   obtain ⟨D1, k1, rfl, _, _⟩ := SM_reads hs
   refine ⟨_, rfl, ?_⟩
   obtain ⟨lo1, hi1, HSn, HLn, HBn⟩ : ∃ lo1 hi1 : Nat, Aside0 (Kd.S sF 27 w33 lo1 (fun k => k < hi1) (.slice D1 m.length k1) m) ∧ Aside0 (hi1 ≤ w33.heap.size) ∧ Aside0 (wr.heap.size ≤ lo1 ∧ lo1 ≤ hi1 ∧ W26.heap.size < lo1 ∧ wr.heap.size < lo1) := ⟨_, w33.heap.size, ⟨Kd.S_mono (Kd.S_bound hs) (fun k hk => hk.2.2.1)⟩, ⟨Nat.le_refl _⟩, ⟨hS.size, hb.size, blk_lt X7.out, blk_lt X8.out⟩⟩
   have X7_ := Aside0.mk (blk_below X7.out hb)
   have X8_ := Aside0.mk (blk_below X8.out hb)
   clear X7
   have X7 := X7_
   clear X7_
   clear X8
   have X8 := X8_
   clear X8_
   have S1 := HSn
   have HL1 := HLn
   have HB1 := HBn
   clear HSn HLn HBn hs
   have hS' := hS.trans (hb.mono hS.size)
   clear hb
   refine hK _ _ hS' (fun hS => ?_)
   clear hK K
   try simp only [mk_get2, List.getElem_cons_zero, List.getElem_cons_succ, Act.put, List.setIfInBounds_toArray, List.set_cons_zero, List.set_cons_succ]
   refine one_ (i := 3) (N := some 24) #[bT,bT,bT,bT,bT,bT,bF,bF] rfl rfl (by kernel_rfl) (by decide) (fun K hK => ?_)
   refine goes_ Try.func24 (by kernel_rfl) rfl #[.agg #[.slice A0 m.length c0]] (by rfl) rfl rfl (by simp only [List.map_toArray, List.map_cons, List.map_nil]; rfl) ?_
   refine (copy_c m A0 c0 _ (Kd.C_below HM.out hS) HC.out HN.out).mono ?_
   rintro e w34 ⟨⟨v, rfl, hs⟩, hb⟩
   obtain ⟨D2, k2, rfl, _, _⟩ := SM_reads hs
   refine ⟨_, rfl, ?_⟩
   obtain ⟨lo2, hi2, HSn, HLn, HBn⟩ : ∃ lo2 hi2 : Nat, Aside0 (Kd.S sF 27 w34 lo2 (fun k => k < hi2) (.slice D2 m.length k2) m) ∧ Aside0 (hi2 ≤ w34.heap.size) ∧ Aside0 (wr.heap.size ≤ lo2 ∧ lo2 ≤ hi2 ∧ W26.heap.size < lo2 ∧ wr.heap.size < lo2 ∧ hi1 ≤ lo2) := ⟨_, w34.heap.size, ⟨Kd.S_mono (Kd.S_bound hs) (fun k hk => hk.2.2.1)⟩, ⟨Nat.le_refl _⟩, ⟨hS.size, hb.size, blk_lt X7.out, blk_lt X8.out, HL1.out⟩⟩
   have X7_ := Aside0.mk (blk_below X7.out hb)
   have X8_ := Aside0.mk (blk_below X8.out hb)
   have S1_ := Aside0.mk (Kd.S_below S1.out hb)
   have HL1_ := Aside0.mk (Nat.le_trans HL1.out hb.size)
   clear X7
   have X7 := X7_
   clear X7_
   clear X8
   have X8 := X8_
   clear X8_
   clear S1
   have S1 := S1_
   clear S1_
   clear HL1
   have HL1 := HL1_
   clear HL1_
   have S2 := HSn
   have HL2 := HLn
   have HB2 := HBn
   clear HSn HLn HBn hs
   have hS' := hS.trans (hb.mono hS.size)
   clear hb
   refine hK _ _ hS' (fun hS => ?_)
   clear hK K
   try simp only [mk_get2, List.getElem_cons_zero, List.getElem_cons_succ, Act.put, List.setIfInBounds_toArray, List.set_cons_zero, List.set_cons_succ]
   have HNUM := Aside0.mk (show wr.heap.size ≤ lo1 ∧ lo1 ≤ hi1 ∧ hi1 ≤ lo2 ∧ lo2 ≤ hi2 ∧ wr.heap.size ≤ W26.heap.size ∧ wr.heap.size ≤ wr.heap.size ∧ W26.heap.size ≠ wr.heap.size ∧ (W26.heap.size < lo1 ∨ hi1 ≤ W26.heap.size) ∧ (wr.heap.size < lo1 ∨ hi1 ≤ wr.heap.size) ∧ (W26.heap.size < lo2 ∨ hi2 ≤ W26.heap.size) ∧ (wr.heap.size < lo2 ∨ hi2 ≤ wr.heap.size) by have := HB1.out; have := HB2.out; have := HB7.out; have := HB8.out; omega)
   clear HB1 HB2 HB7 HB8 HL1 HL2
   skip
   have HX7 := Aside0.mk (show (w34.setCell ⟨W26.heap.size, 0, none⟩ (.slice D1 m.length k1)).heap[W26.heap.size]? = some (.cells #[.slice D1 m.length k1] 24 (0, 0)) from set_blk 0 _ X7.out rfl)
   have HX8 := Aside0.mk (show (w34.setCell ⟨W26.heap.size, 0, none⟩ (.slice D1 m.length k1)).heap[wr.heap.size]? = some (.cells #[.slice none 0 0] 24 (0, 0)) from blk_far X8.out (p := ⟨W26.heap.size, 0, none⟩) (Ne.symm HNUM.out.2.2.2.2.2.2.1) _)
   have x7_ := (blk_cell X7.out 0).trans rfl
   have z7_ := blk_frozen X7.out 0
   have x8_ := (blk_cell HX8.out 0).trans rfl
   have z8_ := blk_frozen HX8.out 0
   refine last_ (i := 6) (N := none) #[bT,bT,bT,bT,bT,bT,bT,bF] rfl rfl (by kernel_rfl) (by decide) (fun K hK => ?_)
   refine skip_ (w1 := ?_) (by rfl) rfl ?_ ?_
   rotate_left
   ·go_simp
    rfl
   refine hK _ _ ?_
   clear hK K
   try simp only [Act.put, sA_, sZ_, sS_]
   refine last_ (i := 7) (N := none) #[bT,bT,bT,bT,bT,bT,bT,bT] rfl rfl (by kernel_rfl) (by decide) (fun K hK => ?_)
   refine skip_ (w1 := ?_) (by rfl) rfl ?_ ?_
   rotate_left
   ·go_simp
    rfl
   refine hK _ _ ?_
   clear hK K
   try simp only [Act.put, sA_, sZ_, sS_]
   refine done_ (by kernel_rfl) ?_
   exact HQQ.out D1 D2 k1 k2 (W26.heap.size) (wr.heap.size) lo1 hi1 lo2 hi2 _ (below_set (below_set hS HNUM.out.2.2.2.2.1) HNUM.out.2.2.2.2.2.1) (blk_far HX7.out (p := ⟨wr.heap.size, 0, none⟩) HNUM.out.2.2.2.2.2.2.1 _) (set_blk 0 _ HX8.out rfl) (Kd.S_set (Kd.S_set S1.out X7.out (by decide) _ _) HX8.out (by decide) _ _) (Kd.S_set (Kd.S_set S2.out X7.out (by decide) _ _) HX8.out (by decide) _ _) HNUM.out
end Go.Proofs.Ytbfialebaoeicaa.X
