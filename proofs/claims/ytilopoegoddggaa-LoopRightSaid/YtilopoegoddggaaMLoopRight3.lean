/- Part 4 of the proof of the statement LoopRight: the words of the walks, the walks through the functions that it reaches, and the plain laws of what they compute. -/
import Derived.Test.YtilopoegoddggaaMLoopRight2
namespace Go.Proofs.Ytilopoegoddggaa.X
open Go.RowKit Go.Proofs.YtilopoegoddggaaW.PrintWords Go.Proofs.YtilopoegoddggaaW.PrintLast Go.Proofs.YtilopoegoddggaaW.PrintMore
attribute [local go_sem] max2_int min2_int max_two min_two max_three min_three max_four min_four
set_option linter.all false
noncomputable section
mutual
def davitref07_Without.j0 : Nat → Int → List Bool → Bool → Int → Int → List (S50) → Option (List Bool)
 | 0, _, _, _, _, _, _ => none
 | k + 1, x1, x5, x20, x169000, x169001, x169002 => if x20 = true then (some x5) else (if 0 < (x5.length : Int) then (davitref07_Without.l0 k x1 (x5.set (0 : Int).toNat true) true x169000 x169001 x169002) else (none))
def davitref07_Without.l0 : Nat → Int → List Bool → Bool → Int → Int → List (S50) → Option (List Bool)
 | 0, _, _, _, _, _, _ => none
 | k + 1, x1, x5, x6, x169000, x169001, x169002 => if x6 = true then (davitref07_Without.l1 k x1 x5 false 0 x169000 x169001 x169002) else (some x5)
def davitref07_Without.l1 : Nat → Int → List Bool → Bool → Int → Int → Int → List (S50) → Option (List Bool)
 | 0, _, _, _, _, _, _, _ => none
 | k + 1, x1, x5, x6, x7, x169000, x169001, x169002 => if x7 < (x5.length : Int) then ((davitref07_Next.f k x169000 x169001 x169002 x7).bind fun t173 => (davitref07_Without.l2 k x1 x5 x6 x7 t173 0 x169000 x169001 x169002)) else (davitref07_Without.l0 k x1 x5 x6 x169000 x169001 x169002)
def davitref07_Without.l2 : Nat → Int → List Bool → Bool → Int → List Int → Int → Int → Int → List (S50) → Option (List Bool)
 | 0, _, _, _, _, _, _, _, _, _ => none
 | k + 1, x1, x5, x6, x7, x8, x9, x169000, x169001, x169002 => if x9 < (x8.length : Int) then (if 0 ≤ x7 then (if x7 < (x5.length : Int) then (if rdOf false x5 x7 = true then (if 0 ≤ x9 then (if (rd x8 x9) = x1 then (davitref07_Without.l2 k x1 x5 x6 x7 x8 (wrap64 (x9 + 1)) x169000 x169001 x169002) else (if 0 ≤ (rd x8 x9) then (if (rd x8 x9) < (x5.length : Int) then (if (rdOf false x5 (rd x8 x9) = true) then (davitref07_Without.l2 k x1 x5 x6 x7 x8 (wrap64 (x9 + 1)) x169000 x169001 x169002) else (davitref07_Without.l2 k x1 (x5.set ((rd x8 x9) : Int).toNat true) true x7 x8 (wrap64 (x9 + 1)) x169000 x169001 x169002)) else (none)) else (none))) else (none)) else (davitref07_Without.l2 k x1 x5 x6 x7 x8 (wrap64 (x9 + 1)) x169000 x169001 x169002)) else (none)) else (none)) else (davitref07_Without.l1 k x1 x5 x6 (wrap64 (x7 + 1)) x169000 x169001 x169002)
end
def davitref07_Without.f (k : Nat) (a0_0 : Int) (a0_1 : Int) (l0_2 : List (S50)) (a1 : Int) : Option (List Bool) := if 0 ≤ (l0_2.length : Int) then (if ((l0_2.length : Int) : Int).toNat ≤ 281474976710656 then ((some (List.replicate ((l0_2.length : Int) : Int).toNat false : List Bool)).bind fun y169 => (if (y169.length : Int) = 0 then (davitref07_Without.j0 k a1 y169 true a0_0 a0_1 l0_2) else (davitref07_Without.j0 k a1 y169 (a1 == 0) a0_0 a0_1 l0_2))) else (none)) else (none)
theorem davitref07_Without.mono_l : ∀ k, (∀ y0 y1 y2 y3 y4 y5, LeO (davitref07_Without.j0 k y0 y1 y2 y3 y4 y5) (davitref07_Without.j0 (k + 1) y0 y1 y2 y3 y4 y5)) ∧ (∀ y0 y1 y2 y3 y4 y5, LeO (davitref07_Without.l0 k y0 y1 y2 y3 y4 y5) (davitref07_Without.l0 (k + 1) y0 y1 y2 y3 y4 y5)) ∧ (∀ y0 y1 y2 y3 y4 y5 y6, LeO (davitref07_Without.l1 k y0 y1 y2 y3 y4 y5 y6) (davitref07_Without.l1 (k + 1) y0 y1 y2 y3 y4 y5 y6)) ∧ (∀ y0 y1 y2 y3 y4 y5 y6 y7 y8, LeO (davitref07_Without.l2 k y0 y1 y2 y3 y4 y5 y6 y7 y8) (davitref07_Without.l2 (k + 1) y0 y1 y2 y3 y4 y5 y6 y7 y8))
 | 0 => ⟨fun _ _ _ _ _ _ r h => by simp [davitref07_Without.j0] at h, fun _ _ _ _ _ _ r h => by simp [davitref07_Without.l0] at h, fun _ _ _ _ _ _ _ r h => by simp [davitref07_Without.l1] at h, fun _ _ _ _ _ _ _ _ _ r h => by simp [davitref07_Without.l2] at h⟩
 | k + 1 => by
  obtain ⟨ih0, ih1, ih2, ih3⟩ := davitref07_Without.mono_l k
  refine ⟨?_, ?_, ?_, ?_⟩
  ·intro y0 y1 y2 y3 y4 y5
   unfold davitref07_Without.j0
   repeat' first
   | (with_reducible exact ih0 _ _ _ _ _ _)
   | (with_reducible exact ih1 _ _ _ _ _ _)
   | (with_reducible exact ih2 _ _ _ _ _ _ _)
   | (with_reducible exact ih3 _ _ _ _ _ _ _ _ _)
   | (with_reducible exact davitref07_Next.mono _ _ _ _ _)
   | (with_reducible exact LeO.refl _)
   | (with_reducible exact LeO.none _)
   | (with_reducible refine LeO.ite ?_ ?_)
   | (with_reducible refine LeO.bind ?_ (fun _ => ?_))
   | exact ih0 _ _ _ _ _ _
   | exact ih1 _ _ _ _ _ _
   | exact ih2 _ _ _ _ _ _ _
   | exact ih3 _ _ _ _ _ _ _ _ _
   | exact davitref07_Next.mono _ _ _ _ _
   | exact LeO.none _
   | refine LeO.ite ?_ ?_
   | refine LeO.bind ?_ (fun _ => ?_)
  ·intro y0 y1 y2 y3 y4 y5
   unfold davitref07_Without.l0
   repeat' first
   | (with_reducible exact ih0 _ _ _ _ _ _)
   | (with_reducible exact ih1 _ _ _ _ _ _)
   | (with_reducible exact ih2 _ _ _ _ _ _ _)
   | (with_reducible exact ih3 _ _ _ _ _ _ _ _ _)
   | (with_reducible exact davitref07_Next.mono _ _ _ _ _)
   | (with_reducible exact LeO.refl _)
   | (with_reducible exact LeO.none _)
   | (with_reducible refine LeO.ite ?_ ?_)
   | (with_reducible refine LeO.bind ?_ (fun _ => ?_))
   | exact ih0 _ _ _ _ _ _
   | exact ih1 _ _ _ _ _ _
   | exact ih2 _ _ _ _ _ _ _
   | exact ih3 _ _ _ _ _ _ _ _ _
   | exact davitref07_Next.mono _ _ _ _ _
   | exact LeO.none _
   | refine LeO.ite ?_ ?_
   | refine LeO.bind ?_ (fun _ => ?_)
  ·intro y0 y1 y2 y3 y4 y5 y6
   unfold davitref07_Without.l1
   repeat' first
   | (with_reducible exact ih0 _ _ _ _ _ _)
   | (with_reducible exact ih1 _ _ _ _ _ _)
   | (with_reducible exact ih2 _ _ _ _ _ _ _)
   | (with_reducible exact ih3 _ _ _ _ _ _ _ _ _)
   | (with_reducible exact davitref07_Next.mono _ _ _ _ _)
   | (with_reducible exact LeO.refl _)
   | (with_reducible exact LeO.none _)
   | (with_reducible refine LeO.ite ?_ ?_)
   | (with_reducible refine LeO.bind ?_ (fun _ => ?_))
   | exact ih0 _ _ _ _ _ _
   | exact ih1 _ _ _ _ _ _
   | exact ih2 _ _ _ _ _ _ _
   | exact ih3 _ _ _ _ _ _ _ _ _
   | exact davitref07_Next.mono _ _ _ _ _
   | exact LeO.none _
   | refine LeO.ite ?_ ?_
   | refine LeO.bind ?_ (fun _ => ?_)
  ·intro y0 y1 y2 y3 y4 y5 y6 y7 y8
   unfold davitref07_Without.l2
   repeat' first
   | (with_reducible exact ih0 _ _ _ _ _ _)
   | (with_reducible exact ih1 _ _ _ _ _ _)
   | (with_reducible exact ih2 _ _ _ _ _ _ _)
   | (with_reducible exact ih3 _ _ _ _ _ _ _ _ _)
   | (with_reducible exact davitref07_Next.mono _ _ _ _ _)
   | (with_reducible exact LeO.refl _)
   | (with_reducible exact LeO.none _)
   | (with_reducible refine LeO.ite ?_ ?_)
   | (with_reducible refine LeO.bind ?_ (fun _ => ?_))
   | exact ih0 _ _ _ _ _ _
   | exact ih1 _ _ _ _ _ _
   | exact ih2 _ _ _ _ _ _ _
   | exact ih3 _ _ _ _ _ _ _ _ _
   | exact davitref07_Next.mono _ _ _ _ _
   | exact LeO.none _
   | refine LeO.ite ?_ ?_
   | refine LeO.bind ?_ (fun _ => ?_)
theorem davitref07_Without.mono : ∀ a0 a1 a2 a3 k, LeO (davitref07_Without.f k a0 a1 a2 a3) (davitref07_Without.f (k + 1) a0 a1 a2 a3) := by
 intro a0 a1 a2 a3 k
 obtain ⟨ih0, ih1, ih2, ih3⟩ := davitref07_Without.mono_l k
 unfold davitref07_Without.f
 repeat' first
   | (with_reducible exact ih0 _ _ _ _ _ _)
   | (with_reducible exact ih1 _ _ _ _ _ _)
   | (with_reducible exact ih2 _ _ _ _ _ _ _)
   | (with_reducible exact ih3 _ _ _ _ _ _ _ _ _)
   | (with_reducible exact davitref07_Next.mono _ _ _ _ _)
   | (with_reducible exact LeO.refl _)
   | (with_reducible exact LeO.none _)
   | (with_reducible refine LeO.ite ?_ ?_)
   | (with_reducible refine LeO.bind ?_ (fun _ => ?_))
   | exact ih0 _ _ _ _ _ _
   | exact ih1 _ _ _ _ _ _
   | exact ih2 _ _ _ _ _ _ _
   | exact ih3 _ _ _ _ _ _ _ _ _
   | exact davitref07_Next.mono _ _ _ _ _
   | exact LeO.none _
   | refine LeO.ite ?_ ?_
   | refine LeO.bind ?_ (fun _ => ?_)
set_option maxHeartbeats 8000000 in
set_option maxRecDepth 100000 in
theorem davitref07_Without.calls (k : Nat) (a0_0 : Int) (a0_1 : Int) (A0_2 : Option Addr) (c0_2 : Nat) (l0_2 : List (S50)) (a1 : Int) (r : List Bool) (w : World) (hr0_2 : Kd.C k50 w A0_2 l0_2.length l0_2) (hc0_2 : l0_2.length ≤ c0_2) (h : davitref07_Without.f k a0_0 a0_1 l0_2 a1 = some r) :
  Calls Try.prog 30 #[.agg #[.int .i64 a0_0, .int .i64 a0_1, .slice A0_2 l0_2.length c0_2], .int .i64 a1] w fun e w' => ∃ v0_ : Value, e = .returned (v0_) ∧ Kd.R Kd.bool 4 w' w.heap.size (fun _ => True) v0_ r ∧ Below w.heap.size w w' := by
 have hu24 := Try.underlying24
 have HR0_2 := Aside0.mk hr0_2
 have HC0_2 := Aside0.mk hc0_2
 clear hr0_2 hc0_2
 have HB := Aside0.mk (Below.refl w.heap.size w)
 have H : (if 0 ≤ (l0_2.length : Int) then (if ((l0_2.length : Int) : Int).toNat ≤ 281474976710656 then ((some (List.replicate ((l0_2.length : Int) : Int).toNat false : List Bool)).bind fun y169 => (if (y169.length : Int) = 0 then (davitref07_Without.j0 k a1 y169 true a0_0 a0_1 l0_2) else (davitref07_Without.j0 k a1 y169 (a1 == 0) a0_0 a0_1 l0_2))) else (none)) else (none)) = some r := h
 clear h
 by_cases c3 : 0 ≤ (l0_2.length : Int)
 ·rw [if_pos c3] at H
  have c3b0 := eq_true c3
  have c3b1 : decide (0 ≤ (l0_2.length : Int)) = true := decide_eq_true c3
  clear c3
  by_cases c4 : ((l0_2.length : Int) : Int).toNat ≤ 281474976710656
  ·rw [if_pos c4] at H
   have c4b0 := eq_true c4
   have c4b1 : decide (((l0_2.length : Int) : Int).toNat ≤ 281474976710656) = true := decide_eq_true c4
   clear c4
   obtain ⟨y169, hy169⟩ : ∃ y_ : List Bool, y_ = (List.replicate ((l0_2.length : Int) : Int).toNat false) := ⟨_, rfl⟩
   replace H : (if (y169.length : Int) = 0 then (davitref07_Without.j0 k a1 y169 true a0_0 a0_1 l0_2) else (davitref07_Without.j0 k a1 y169 (a1 == 0) a0_0 a0_1 l0_2)) = some r := by first | (rw [hy169]; with_reducible exact H) | (have H2_ := (Option.bind_some _ _).symm.trans H; rw [hy169]; with_reducible exact H2_) | (have H2_ := (Option.bind_some _ _).symm.trans H; with_reducible exact H2_) | with_reducible exact H | (rw [hy169]; exact H) | exact H
   have Ny169 := Aside0.mk hy169
   clear hy169
   have HC5 := Aside0.mk H
   clear H
   go_enter Try.func30, Try.ntmps30
   go_upto_region 2 with (first | ((with_reducible refine gate_dst (N := 2) rfl ?_); refine box_event ?hg (N := 2) ?hd (cs := #[.int .i64 a0_0, .int .i64 a0_1, .slice A0_2 l0_2.length c0_2]) (t := 24) ?hr ?_; (case hd => rfl); (case hg => rfl); (case hr => first | (go_simp; done) | (go_simp; rfl)); intro gb168 hg w6 hbox hb; have n0_ := Aside0.mk (below_step (by repeat (first | (with_reducible first | exact HB.out | apply below_alloc | apply pw_below_drewN | apply below_drew1) | exact HB.out)) hb); have n1_ := Aside0.mk (hbox); have n2_ := Aside0.mk ((by rw [hg]; exact (below_size (by repeat (first | (with_reducible first | exact HB.out | apply below_alloc | apply pw_below_drewN | apply below_drew1) | exact HB.out))) : w.heap.size ≤ gb168)); have n3_ := Aside0.mk ((by rw [hg]; exact (below_size (by repeat (first | (with_reducible first | exact HB.out | apply below_alloc | apply pw_below_drewN | apply below_drew1) | exact HB.out))) : w.heap.size ≤ gb168)); clear HB; have HB := n0_; have BK168 := n1_; have GW168 := n2_; have GE168 := n3_; clear n0_ n1_ n2_ n3_; clear hb hbox hg; have hcz7_0 : w6.cell? ⟨gb168, 0, none⟩ = some (.int .i64 a0_0) := (blk_cell BK168.out 0).trans rfl; have hcz7_1 : w6.cell? ⟨gb168, 1, none⟩ = some (.int .i64 a0_1) := (blk_cell BK168.out 1).trans rfl; have hcz7_2 : w6.cell? ⟨gb168, 2, none⟩ = some (.slice A0_2 l0_2.length c0_2) := (blk_cell BK168.out 2).trans rfl; have hfz7_0 := blk_frozen BK168.out 0; have hfz7_1 := blk_frozen BK168.out 1; have hfz7_2 := blk_frozen BK168.out 2) | ((with_reducible refine gate_dst (N := 13) rfl ?_); refine Kd.R_make Kd.bool _ 4 rfl (N := 13) rfl 32 _ _ rfl (l0_2.length : Int) rfl rfl Try.underlying32 (.bool false) 1 info4 rfl (by decide) (by omega) false (ok := fun _ => True) (okp := fun _ => True) rfl (fun _ hk => hk) trivial (of_decide_eq_true (by first | (with_reducible assumption) | assumption)) (Nat.le_trans (Nat.mul_le_mul_right _ (of_decide_eq_true (by first | (with_reducible assumption) | assumption) : (l0_2.length : Int).toNat ≤ 281474976710656)) (by omega)) (Below.refl _ _) (Nat.le_refl _) ?_; intro v170 w8 ho9 hb hg_ hnew_; clear hg_ hnew_; (first | rw [← Ny169.out] at ho9 | (simp only [Int.reduceToNat] at ho9; rw [← Ny169.out] at ho9)); have n0_ := Aside0.mk (Kd.R_lower ho9 (below_size (by repeat (first | (with_reducible first | exact HB.out | apply below_alloc | apply pw_below_drewN | apply below_drew1 | refine below_set ?_ GE168.out) | exact HB.out)))); have n1_ := Aside0.mk (blk_below (g := gb168) (o := .cells #[.int .i64 a0_0, .int .i64 a0_1, .slice A0_2 l0_2.length c0_2] 24 (0, 0)) (by (with_reducible repeat (first | refine blk_drewN ?_ _ | refine blk_drew ?_ | refine blk_alloc ?_ _)); exact BK168.out) hb); have n2_ := Aside0.mk (below_step (by repeat (first | (with_reducible first | exact HB.out | apply below_alloc | apply pw_below_drewN | apply below_drew1 | refine below_set ?_ GE168.out) | exact HB.out)) hb); clear BK168; clear HB; have HO171 := n0_; have BK168 := n1_; have HB := n2_; clear n0_ n1_ n2_; clear hb ho9))
   (try simp only [Act.put, List.setIfInBounds_toArray, List.set_cons_zero, List.set_cons_succ])
   go_cut [20] (fun v20 wc => ∃ (kq : Nat) (x20_4 : Bool), v20 = .bool x20_4 ∧ Aside0 (davitref07_Without.j0 kq a1 y169 x20_4 a0_0 a0_1 l0_2 = some r) ∧ Aside0 (kq ≤ k) ∧ Aside0 (Kd.R Kd.bool 4 wc w.heap.size (fun _ => True) v170 y169) ∧ Aside0 (wc.heap[gb168]? = some (.cells #[.int .i64 a0_0, .int .i64 a0_1, (.slice A0_2 l0_2.length c0_2)] 24 (0, 0))) ∧ Aside0 (Below w.heap.size w wc))
   case first =>
    have H := HC5.out
    clear HC5
    by_cases c10 : (y169.length : Int) = 0
    ·rw [if_pos c10] at H
     have c10b0 : ((y169.length : Int) == 0) = true := beq_iff_eq.mpr c10
     have c10b1 : ((y169.length : Int) != 0) = false := bne_eq_false_iff_eq.mpr c10
     clear c10
     (first | rw [c10b0] | (simp only [i64_w, i32_w]; rw [c10b0]) | skip)
     have H' := Aside0.mk H
     clear H
     obtain ⟨Ao11, co11, eo11⟩ := Kd.R_slice HO171.out
     subst eo11
     go_wp2
     go_meet
     case rel => exact ⟨_, (true), (by first | rfl | (simp; done) | (simp [*]; done)), H', ⟨by first | omega | exact Nat.le_refl _⟩, ⟨by (with_reducible repeat (first | apply Kd.R_alloc | apply Kd.R_drewN | apply Kd.R_drew)); exact HO171.out⟩, ⟨by (with_reducible repeat (first | refine blk_drewN ?_ _ | refine blk_drew ?_ | refine blk_alloc ?_ _)); exact BK168.out⟩, ⟨by repeat (first | (with_reducible first | exact HB.out | apply below_alloc | apply pw_below_drewN | apply below_drew1 | refine below_set ?_ GE168.out) | exact HB.out)⟩⟩
    ·rw [if_neg c10] at H
     have c10b0 : ((y169.length : Int) == 0) = false := beq_eq_false_iff_ne.mpr c10
     have c10b1 : ((y169.length : Int) != 0) = true := bne_iff_ne.mpr c10
     have c10b2 : ¬ (y169 = []) := fun h_ => c10 (by rw [h_]; rfl)
     (first | rw [c10b0] | (simp only [i64_w, i32_w]; rw [c10b0]) | skip)
     have H' := Aside0.mk H
     clear H
     obtain ⟨Ao12, co12, eo12⟩ := Kd.R_slice HO171.out
     subst eo12
     go_wp2
     go_meet
     case rel => exact ⟨_, ((a1 == 0)), (by first | rfl | (simp; done) | (simp [*]; done)), H', ⟨by first | omega | exact Nat.le_refl _⟩, ⟨by (with_reducible repeat (first | apply Kd.R_alloc | apply Kd.R_drewN | apply Kd.R_drew)); exact HO171.out⟩, ⟨by (with_reducible repeat (first | refine blk_drewN ?_ _ | refine blk_drew ?_ | refine blk_alloc ?_ _)); exact BK168.out⟩, ⟨by repeat (first | (with_reducible first | exact HB.out | apply below_alloc | apply pw_below_drewN | apply below_drew1 | refine below_set ?_ GE168.out) | exact HB.out)⟩⟩
   case rest =>
    clear HC5
    try clear c1
    try clear p2
    try clear c3
    try clear c3b0
    try clear c3b1
    try clear c4
    try clear c4b0
    try clear c4b1
    try clear c10
    try clear c10b0
    try clear c10b1
    try clear c10b2
    try clear hcz7_0
    try clear hcz7_1
    try clear hcz7_2
    try clear hfz7_0
    try clear hfz7_1
    try clear hfz7_2
    obtain ⟨kq, x20_4, rfl, HA, HJ4, HO_5, BK168, HB⟩ := hcut
    cases kq with
    | zero => exact absurd HA.out (by simp [davitref07_Without.j0])
    | succ kj4 =>
     have H := HA.out
     clear HA
     simp only [davitref07_Without.j0] at H
     by_cases c13 : x20_4 = true
     ·subst c13
      have H1 : (some y169) = some r := by rw [if_pos rfl] at H; exact H
      clear H
      have H := H1
      clear H1
      obtain rfl := Option.some.inj H
      go_wp2
      go_ret
      exact ⟨_, by first | rfl | (simp [errW_none, errW_some] <;> rfl) | (simp [*, errW_none, errW_some] <;> rfl), by (with_reducible repeat (first | apply Kd.R_alloc | apply Kd.R_drewN | apply Kd.R_drew)); exact HO_5.out, by repeat (first | (with_reducible first | exact HB.out | apply below_alloc | apply pw_below_drewN | apply below_drew1 | refine below_set ?_ GE168.out) | exact HB.out)⟩
     ·replace c13 := Bool.eq_false_iff.mpr c13
      subst c13
      have H1 : (if 0 < (y169.length : Int) then (davitref07_Without.l0 kj4 a1 (y169.set (0 : Int).toNat true) true a0_0 a0_1 l0_2) else (none)) = some r := by rw [if_neg (show ¬ (false = true) by decide)] at H; exact H
      clear H
      have H := H1
      clear H1
      by_cases c14 : 0 < (y169.length : Int)
      ·rw [if_pos c14] at H
       have c14b0 : decide (0 < (y169.length : Int)) = true := decide_eq_true c14
       have c14b1 : decide (0 < y169.length) = true := decide_eq_true (by omega)
       clear c14
       obtain ⟨y172, hy172⟩ : ∃ y_ : List Bool, y_ = (y169.set (0 : Int).toNat true) := ⟨_, rfl⟩
       replace H : (davitref07_Without.l0 kj4 a1 y172 true a0_0 a0_1 l0_2) = some r := by first | (rw [hy172]; with_reducible exact H) | (have H2_ := (Option.bind_some _ _).symm.trans H; rw [hy172]; with_reducible exact H2_) | (have H2_ := (Option.bind_some _ _).symm.trans H; with_reducible exact H2_) | with_reducible exact H | (rw [hy172]; exact H) | exact H
       have Ny172 := Aside0.mk hy172
       clear hy172
       have H' := Aside0.mk H
       clear H
       have p15 : 0 ≤ (0 : Int) := (by omega)
       have q15 : (0 : Int) < ((y169.length : Int) : Int) := of_decide_eq_true (by first | (with_reducible assumption) | assumption)
       have qi15 : (0 < y169.length) = True := eq_true (by omega)
       obtain ⟨go15, co15, eo15, gb15, gl15, cl15, HG15⟩ := Kd.R_form HO_5.out (by omega)
       (first | cases eo15 | (injection eo15 with ea_ en_ ec_; (first | subst ea_ | (injection ea_ with ea_; subst ea_)); subst ec_; clear en_))
       have GB15 := Aside0.mk gb15
       have GG15 := Aside0.mk HG15
       clear gb15 gl15 HG15
       obtain ⟨hx15_0, hf15_0⟩ := Kd.R_celln false HO_5.out (0 : Int) p15 q15
       (try rw [show ((0 : Int)).toNat = 0 from rfl] at hx15_0)
       (try simp only [Nat.reduceMul, Nat.zero_mul, Nat.zero_add, Nat.reduceAdd] at hx15_0)
       (try rw [show ((0 : Int)).toNat = 0 from rfl] at hf15_0)
       (try simp only [Nat.reduceMul, Nat.zero_mul, Nat.zero_add, Nat.reduceAdd] at hf15_0)
       replace p15 := eq_true p15
       replace q15 := eq_true q15
       have HP16 := Kd.R_putg HO_5.out (0 : Int) true
       go_wp2_with (first | ((with_reducible refine gate_store (t := 4) (p := 23) rfl ?_); refine store_event (t := 4) (p := 23) (v := ?vo_w17) (w1 := (wc.setCell ⟨go15, (0 : Int).toNat, none⟩ (.bool true))) ?hg ?ho ?hn ?hr ?_; (case ho => rfl); (case hg => rfl); (case hn => rfl); (case hr => first | (go_simp; done) | (go_simp; rfl)); intro w17 hw; have hg : wc.grownBy w17 (some go15) := (by rw [hw]; exact HP16.2); have hp_ : Kd.R Kd.bool 4 w17 w.heap.size (fun _ => True) (.slice (some ⟨go15, 0, none⟩) y169.length co15) y172 := (by rw [hw, Ny172.out]; exact HP16.1); clear HP16; have n0_ := Aside0.mk (hp_); have n1_ := Aside0.mk (blk_grown (g := gb168) (o := .cells #[.int .i64 a0_0, .int .i64 a0_1, .slice A0_2 l0_2.length c0_2] 24 (0, 0)) (by (with_reducible repeat (first | refine blk_drewN ?_ _ | refine blk_drew ?_ | refine blk_alloc ?_ _)); exact BK168.out) hg (Kd.R_ne HO_5.out BK168.out (by decide))); have n2_ := Aside0.mk ((by rw [hw]; exact below_set (HB.out) GB15.out : Below w.heap.size w w17)); clear HO_5; clear BK168; clear HB; have HO_5 := n0_; have BK168 := n1_; have HB := n2_; clear n0_ n1_ n2_; clear hg hw hp_))
       go_loopg [6] kj4 (fun kq v6 w' => ∃ (x5_2 : List Bool) (x6_2 : Bool), v6 = .bool x6_2 ∧ Aside0 (davitref07_Without.l0 kq a1 x5_2 x6_2 a0_0 a0_1 l0_2 = some r) ∧ Aside0 (kq ≤ kj4) ∧ Aside0 (Kd.R Kd.bool 4 w' w.heap.size (fun _ => True) (.slice (some ⟨go15, 0, none⟩) y169.length co15) x5_2) ∧ Aside0 (w'.heap[gb168]? = some (.cells #[.int .i64 a0_0, .int .i64 a0_1, (.slice A0_2 l0_2.length c0_2)] 24 (0, 0))) ∧ Aside0 (Below w.heap.size w w'))
       case atStart => exact ⟨(y172), (true), (by first | rfl | (simp; done) | (simp [*]; done)), H', ⟨Nat.le_refl _⟩, ⟨by (with_reducible repeat (first | apply Kd.R_alloc | apply Kd.R_drewN | apply Kd.R_drew)); exact HO_5.out⟩, ⟨by (with_reducible repeat (first | refine blk_drewN ?_ _ | refine blk_drew ?_ | refine blk_alloc ?_ _)); exact BK168.out⟩, ⟨by repeat (first | (with_reducible first | exact HB.out | apply below_alloc | apply pw_below_drewN | apply below_drew1 | refine below_set ?_ GE168.out) | exact HB.out)⟩⟩
       case round =>
        clear H'
        try clear c1
        try clear p1
        try clear q1
        try clear hx1
        try clear qi1
        try clear p2
        try clear c3
        try clear c3b0
        try clear c3b1
        try clear c4
        try clear c4b0
        try clear c4b1
        try clear c10
        try clear c10b0
        try clear c10b1
        try clear c10b2
        try clear c13
        try clear c14
        try clear c14b0
        try clear c14b1
        try clear p15
        try clear q15
        try clear hx15
        try clear qi15
        try clear hf15
        try clear hcz7_0
        try clear hcz7_1
        try clear hcz7_2
        try clear hfz7_0
        try clear hfz7_1
        try clear hfz7_2
        try clear hx15_0
        try clear p15
        try clear p2
        try clear q15
        obtain ⟨x5_2, x6_2, rfl, HA, HK2, HO_5, BK168, HB⟩ := hrel
        have hl5_2 := (Kd.R_reads' HO_5.out).1
        rw [hl5_2] at HO_5
        (try simp only [hl5_2])
        (try simp only [hl5_2] at BK168)
        cases gk with
        | zero => exact absurd HA.out (by simp [davitref07_Without.l0])
        | succ k2 =>
         have H := HA.out
         clear HA
         simp only [davitref07_Without.l0] at H
         by_cases c18 : x6_2 = true
         ·subst c18
          have H1 : (davitref07_Without.l1 k2 a1 x5_2 false 0 a0_0 a0_1 l0_2) = some r := by rw [if_pos rfl] at H; exact H
          clear H
          have H := H1
          clear H1
          have H' := Aside0.mk H
          clear H
          go_wp2
          go_loopg [6, 7] k2 (fun kq v6 v7 w' => ∃ (x5_3 : List Bool) (x6_3 : Bool) (x7_3 : Int), v6 = .bool x6_3 ∧ v7 = .int .i64 x7_3 ∧ Aside0 (davitref07_Without.l1 kq a1 x5_3 x6_3 x7_3 a0_0 a0_1 l0_2 = some r) ∧ Aside0 (kq ≤ k2) ∧ Aside0 (Kd.R Kd.bool 4 w' w.heap.size (fun _ => True) (.slice (some ⟨go15, 0, none⟩) x5_2.length co15) x5_3) ∧ Aside0 (w'.heap[gb168]? = some (.cells #[.int .i64 a0_0, .int .i64 a0_1, (.slice A0_2 l0_2.length c0_2)] 24 (0, 0))) ∧ Aside0 (Below w.heap.size w w'))
          case atStart => exact ⟨(x5_2), (false), (0), (by first | rfl | (simp; done) | (simp [*]; done)), (by first | rfl | (simp; done) | (simp [*]; done)), H', ⟨Nat.le_refl _⟩, ⟨by (try simp only [hl5_2]); (with_reducible repeat (first | apply Kd.R_alloc | apply Kd.R_drewN | apply Kd.R_drew)); exact HO_5.out⟩, ⟨by (try simp only [hl5_2]); (with_reducible repeat (first | refine blk_drewN ?_ _ | refine blk_drew ?_ | refine blk_alloc ?_ _)); exact BK168.out⟩, ⟨by repeat (first | (with_reducible first | exact HB.out | apply below_alloc | apply pw_below_drewN | apply below_drew1 | refine below_set ?_ GE168.out) | exact HB.out)⟩⟩
          case round =>
           clear H'
           try clear c1
           try clear p1
           try clear q1
           try clear hx1
           try clear qi1
           try clear p2
           try clear c3
           try clear c3b0
           try clear c3b1
           try clear c4
           try clear c4b0
           try clear c4b1
           try clear c10
           try clear c10b0
           try clear c10b1
           try clear c10b2
           try clear c13
           try clear c14
           try clear c14b0
           try clear c14b1
           try clear p15
           try clear q15
           try clear hx15
           try clear qi15
           try clear hf15
           try clear c18
           try clear hcz7_0
           try clear hcz7_1
           try clear hcz7_2
           try clear hfz7_0
           try clear hfz7_1
           try clear hfz7_2
           try clear hx15_0
           try clear p1
           try clear p15
           try clear p2
           try clear q1
           try clear q15
           obtain ⟨x5_3, x6_3, x7_3, rfl, rfl, HA, HK3, HO_5, BK168, HB⟩ := hrel
           have hl5_3 := (Kd.R_reads' HO_5.out).1
           rw [hl5_3] at HO_5
           (try simp only [hl5_3])
           (try simp only [hl5_3] at BK168)
           cases gk with
           | zero => exact absurd HA.out (by simp [davitref07_Without.l1])
           | succ k3 =>
            have H := HA.out
            clear HA
            simp only [davitref07_Without.l1] at H
            by_cases c19 : x7_3 < (x5_3.length : Int)
            ·rw [if_pos c19] at H
             have c19b0 : decide (x7_3 < (x5_3.length : Int)) = true := decide_eq_true c19
             clear c19
             replace H := Option.bind_eq_some_iff.mp H
             obtain ⟨t173, A200, H⟩ := H
             replace H : (davitref07_Without.l2 k3 a1 x5_3 x6_3 x7_3 t173 0 a0_0 a0_1 l0_2) = some r := H
             have A20 := Aside0.mk A200
             clear A200
             have H' := Aside0.mk H
             clear H
             have hcz21_0 : wr.cell? ⟨gb168, 0, none⟩ = some (.int .i64 a0_0) := (blk_cell BK168.out 0).trans rfl
             have hcz21_1 : wr.cell? ⟨gb168, 1, none⟩ = some (.int .i64 a0_1) := (blk_cell BK168.out 1).trans rfl
             have hcz21_2 : wr.cell? ⟨gb168, 2, none⟩ = some (.slice A0_2 l0_2.length c0_2) := (blk_cell BK168.out 2).trans rfl
             have hfz21_0 := blk_frozen BK168.out 0
             have hfz21_1 := blk_frozen BK168.out 1
             have hfz21_2 := blk_frozen BK168.out 2
             go_wp2_with (first | ((with_reducible refine gate_callee (f := 33) rfl ?_); refine goesL_ (some 33) rfl rfl Try.func33 (by kernel_rfl) rfl #[.agg #[.int .i64 a0_0, .int .i64 a0_1, .slice A0_2 l0_2.length c0_2], .int .i64 x7_3] rfl (by (try simp only [List.map_toArray, List.map_cons, List.map_nil]); first | done | rfl | (simp only [List.length_drop, List.length_take]; rfl)) ?_; (with_reducible refine (davitref07_Next.calls k3 a0_0 a0_1 _ _ l0_2 x7_3 t173 _ ?side1 ?side2 A20.out).mono ?_); (case side1 => repeat (first | exact (Kd.C_below HR0_2.out HB.out) | (with_reducible refine Kd.C_alloc ?_ _) | (with_reducible refine Kd.C_drewN ?_ _) | (with_reducible refine Kd.C_drew ?_))); (case side2 => exact HC0_2.out); rintro e w22 ⟨v174, rfl, ho0, hb⟩; refine ⟨_, rfl, ?_⟩; have n0_ := Aside0.mk (Kd.R_below (by (with_reducible repeat (first | apply Kd.R_alloc | apply Kd.R_drewN | apply Kd.R_drew)); exact HO_5.out) hb); have n1_ := Aside0.mk (Kd.R_lower ho0 (below_size (by repeat (first | (with_reducible first | exact HB.out | apply below_alloc | apply pw_below_drewN | apply below_drew1 | refine below_set ?_ GE168.out) | exact HB.out)))); have n2_ := Aside0.mk (blk_below (g := gb168) (o := .cells #[.int .i64 a0_0, .int .i64 a0_1, .slice A0_2 l0_2.length c0_2] 24 (0, 0)) (by (with_reducible repeat (first | refine blk_drewN ?_ _ | refine blk_drew ?_ | refine blk_alloc ?_ _)); exact BK168.out) hb); have n3_ := Aside0.mk (below_step (by repeat (first | (with_reducible first | exact HB.out | apply below_alloc | apply pw_below_drewN | apply below_drew1 | refine below_set ?_ GE168.out) | exact HB.out)) hb); clear HO_5; clear BK168; clear HB; have HO_5 := n0_; have HO175 := n1_; have BK168 := n2_; have HB := n3_; clear n0_ n1_ n2_ n3_; (try clear hb); (try clear hb2); (try clear hk); (try clear hi); (try clear ho0)))
             go_loopg [6, 9] k3 (fun kq v6 v9 w' => ∃ (x5_4 : List Bool) (x6_4 : Bool) (x9_4 : Int), v6 = .bool x6_4 ∧ v9 = .int .i64 x9_4 ∧ Aside0 (davitref07_Without.l2 kq a1 x5_4 x6_4 x7_3 t173 x9_4 a0_0 a0_1 l0_2 = some r) ∧ Aside0 (kq ≤ k3) ∧ Aside0 (Kd.R Kd.bool 4 w' w.heap.size (fun _ => True) (.slice (some ⟨go15, 0, none⟩) x5_3.length co15) x5_4) ∧ Aside0 (Kd.R (Kd.int .i64) 3 w' w.heap.size (fun _ => True) v174 t173) ∧ Aside0 (w'.heap[gb168]? = some (.cells #[.int .i64 a0_0, .int .i64 a0_1, (.slice A0_2 l0_2.length c0_2)] 24 (0, 0))) ∧ Aside0 (Below w.heap.size w w'))
             case atStart => exact ⟨(x5_3), (x6_3), (0), (by first | rfl | (simp; done) | (simp [*]; done)), (by first | rfl | (simp; done) | (simp [*]; done)), H', ⟨Nat.le_refl _⟩, ⟨by (try simp only [hl5_2]); (try simp only [hl5_3]); (with_reducible repeat (first | apply Kd.R_alloc | apply Kd.R_drewN | apply Kd.R_drew)); exact HO_5.out⟩, ⟨by (try simp only [hl5_2]); (try simp only [hl5_3]); (with_reducible repeat (first | apply Kd.R_alloc | apply Kd.R_drewN | apply Kd.R_drew)); exact HO175.out⟩, ⟨by (try simp only [hl5_2]); (try simp only [hl5_3]); (with_reducible repeat (first | refine blk_drewN ?_ _ | refine blk_drew ?_ | refine blk_alloc ?_ _)); exact BK168.out⟩, ⟨by repeat (first | (with_reducible first | exact HB.out | apply below_alloc | apply pw_below_drewN | apply below_drew1 | refine below_set ?_ GE168.out) | exact HB.out)⟩⟩
             case round =>
              clear H'
              try clear c1
              try clear p1
              try clear q1
              try clear hx1
              try clear qi1
              try clear p2
              try clear c3
              try clear c3b0
              try clear c3b1
              try clear c4
              try clear c4b0
              try clear c4b1
              try clear c10
              try clear c10b0
              try clear c10b1
              try clear c10b2
              try clear c13
              try clear c14
              try clear c14b0
              try clear c14b1
              try clear p15
              try clear q15
              try clear hx15
              try clear qi15
              try clear hf15
              try clear c18
              try clear c19
              try clear c19b0
              try clear hcz21_0
              try clear hcz21_1
              try clear hcz21_2
              try clear hcz7_0
              try clear hcz7_1
              try clear hcz7_2
              try clear hfz21_0
              try clear hfz21_1
              try clear hfz21_2
              try clear hfz7_0
              try clear hfz7_1
              try clear hfz7_2
              try clear hx15_0
              try clear p1
              try clear p15
              try clear p2
              try clear q1
              try clear q15
              obtain ⟨x5_4, x6_4, x9_4, rfl, rfl, HA, HK4, HO_5, HO_8, BK168, HB⟩ := hrel
              have hl5_4 := (Kd.R_reads' HO_5.out).1
              rw [hl5_4] at HO_5
              (try simp only [hl5_4])
              (try simp only [hl5_4] at BK168)
              (try simp only [hl5_4] at HO_8)
              cases gk with
              | zero => exact absurd HA.out (by simp [davitref07_Without.l2])
              | succ k4 =>
               have H := HA.out
               clear HA
               simp only [davitref07_Without.l2] at H
               by_cases c23 : x9_4 < (t173.length : Int)
               ·rw [if_pos c23] at H
                have c23b0 : decide (x9_4 < (t173.length : Int)) = true := decide_eq_true c23
                clear c23
                by_cases c24 : 0 ≤ x7_3
                ·rw [if_pos c24] at H
                 have c24b0 : decide (0 ≤ x7_3) = true := decide_eq_true c24
                 clear c24
                 by_cases c25 : x7_3 < (x5_4.length : Int)
                 ·rw [if_pos c25] at H
                  have c25b0 : decide (x7_3 < (x5_4.length : Int)) = true := decide_eq_true c25
                  clear c25
                  obtain ⟨bq26, hbq26⟩ : ∃ b_ : Bool, b_ = (rdOf false x5_4 x7_3) := ⟨_, rfl⟩
                  replace H : (if bq26 = true then (if 0 ≤ x9_4 then (if (rd t173 x9_4) = a1 then (davitref07_Without.l2 k4 a1 x5_4 x6_4 x7_3 t173 (wrap64 (x9_4 + 1)) a0_0 a0_1 l0_2) else (if 0 ≤ (rd t173 x9_4) then (if (rd t173 x9_4) < (x5_4.length : Int) then (if (rdOf false x5_4 (rd t173 x9_4) = true) then (davitref07_Without.l2 k4 a1 x5_4 x6_4 x7_3 t173 (wrap64 (x9_4 + 1)) a0_0 a0_1 l0_2) else (davitref07_Without.l2 k4 a1 (x5_4.set ((rd t173 x9_4) : Int).toNat true) true x7_3 t173 (wrap64 (x9_4 + 1)) a0_0 a0_1 l0_2)) else (none)) else (none))) else (none)) else (davitref07_Without.l2 k4 a1 x5_4 x6_4 x7_3 t173 (wrap64 (x9_4 + 1)) a0_0 a0_1 l0_2)) = some r := by rw [← hbq26] at H; exact H
                  have Nbq26 := Aside0.mk hbq26
                  clear hbq26
                  by_cases c27 : bq26 = true
                  ·subst c27
                   have H1 : (if 0 ≤ x9_4 then (if (rd t173 x9_4) = a1 then (davitref07_Without.l2 k4 a1 x5_4 x6_4 x7_3 t173 (wrap64 (x9_4 + 1)) a0_0 a0_1 l0_2) else (if 0 ≤ (rd t173 x9_4) then (if (rd t173 x9_4) < (x5_4.length : Int) then (if (rdOf false x5_4 (rd t173 x9_4) = true) then (davitref07_Without.l2 k4 a1 x5_4 x6_4 x7_3 t173 (wrap64 (x9_4 + 1)) a0_0 a0_1 l0_2) else (davitref07_Without.l2 k4 a1 (x5_4.set ((rd t173 x9_4) : Int).toNat true) true x7_3 t173 (wrap64 (x9_4 + 1)) a0_0 a0_1 l0_2)) else (none)) else (none))) else (none)) = some r := by rw [if_pos rfl] at H; exact H
                   clear H
                   have H := H1
                   clear H1
                   by_cases c28 : 0 ≤ x9_4
                   ·rw [if_pos c28] at H
                    have c28b0 : decide (0 ≤ x9_4) = true := decide_eq_true c28
                    clear c28
                    by_cases c29 : (rd t173 x9_4) = a1
                    ·rw [if_pos c29] at H
                     have c29b0 : ((rd t173 x9_4) == a1) = true := beq_iff_eq.mpr c29
                     have c29b1 : ((rd t173 x9_4) != a1) = false := bne_eq_false_iff_eq.mpr c29
                     clear c29
                     have H' := Aside0.mk H
                     clear H
                     obtain ⟨Ao30, co30, eo30⟩ := Kd.R_slice HO_8.out
                     subst eo30
                     have p176 : 0 ≤ (x7_3 : Int) := of_decide_eq_true (by first | (with_reducible assumption) | assumption)
                     have q176 : x7_3 < (x5_4.length : Int) := of_decide_eq_true (by first | (with_reducible assumption) | assumption)
                     obtain ⟨ad176, e176, hx176_0⟩ := Kd.at_bool (Kd.R_reads' HO_5.out).2.2 x7_3 p176 q176
                     (try rw [← Nbq26.out] at hx176_0)
                     obtain rfl : (⟨go15, 0, none⟩ : Addr) = ad176 := (by injection e176)
                     (first | simp only [add_plain] at hx176_0 | simp only [add_at] at hx176_0 | simp only [Addr.add, Nat.zero_add] at hx176_0 | skip)
                     replace p176 := eq_true p176
                     replace q176 := eq_true q176
                     have p177 : 0 ≤ (x9_4 : Int) := of_decide_eq_true (by first | (with_reducible assumption) | assumption)
                     have q177 : x9_4 < (t173.length : Int) := of_decide_eq_true (by first | (with_reducible assumption) | assumption)
                     obtain ⟨ad177, e177, hx177_0⟩ := Kd.at_int (Kd.R_reads' HO_8.out).2.2 x9_4 p177 q177
                     cases e177
                     replace p177 := eq_true p177
                     replace q177 := eq_true q177
                     go_wp2
                     (try simp only [← hl5_4])
                     go_roundg k4
                     case measure => have := HJ4.out; have := HK2.out; have := HK3.out; have := HK4.out; omega
                     case rel => exact ⟨(x5_4), (x6_4), (wrap64 (x9_4 + 1)), (by first | rfl | (simp; done) | (simp [*]; done)), (by first | rfl | (simp; done) | (simp [*]; done)), H', ⟨by have := HJ4.out; have := HK2.out; have := HK3.out; have := HK4.out; omega⟩, ⟨by (try simp only [hl5_2]); (try simp only [hl5_3]); (try simp only [hl5_4]); (with_reducible repeat (first | apply Kd.R_alloc | apply Kd.R_drewN | apply Kd.R_drew)); exact HO_5.out⟩, ⟨by (try simp only [hl5_2]); (try simp only [hl5_3]); (try simp only [hl5_4]); (with_reducible repeat (first | apply Kd.R_alloc | apply Kd.R_drewN | apply Kd.R_drew)); exact HO_8.out⟩, ⟨by (try simp only [hl5_2]); (try simp only [hl5_3]); (try simp only [hl5_4]); (with_reducible repeat (first | refine blk_drewN ?_ _ | refine blk_drew ?_ | refine blk_alloc ?_ _)); exact BK168.out⟩, ⟨by repeat (first | (with_reducible first | exact HB.out | apply below_alloc | apply pw_below_drewN | apply below_drew1 | refine below_set ?_ GE168.out) | exact HB.out)⟩⟩
                    ·rw [if_neg c29] at H
                     have c29b0 : ((rd t173 x9_4) == a1) = false := beq_eq_false_iff_ne.mpr c29
                     have c29b1 : ((rd t173 x9_4) != a1) = true := bne_iff_ne.mpr c29
                     by_cases c31 : 0 ≤ (rd t173 x9_4)
                     ·rw [if_pos c31] at H
                      have c31b0 : decide (0 ≤ (rd t173 x9_4)) = true := decide_eq_true c31
                      clear c31
                      by_cases c32 : (rd t173 x9_4) < (x5_4.length : Int)
                      ·rw [if_pos c32] at H
                       have c32b0 : decide ((rd t173 x9_4) < (x5_4.length : Int)) = true := decide_eq_true c32
                       clear c32
                       obtain ⟨bq33, hbq33⟩ : ∃ b_ : Bool, b_ = (rdOf false x5_4 (rd t173 x9_4)) := ⟨_, rfl⟩
                       replace H : (if (bq33 = true) then (davitref07_Without.l2 k4 a1 x5_4 x6_4 x7_3 t173 (wrap64 (x9_4 + 1)) a0_0 a0_1 l0_2) else (davitref07_Without.l2 k4 a1 (x5_4.set ((rd t173 x9_4) : Int).toNat true) true x7_3 t173 (wrap64 (x9_4 + 1)) a0_0 a0_1 l0_2)) = some r := by rw [← hbq33] at H; exact H
                       have Nbq33 := Aside0.mk hbq33
                       clear hbq33
                       by_cases c34 : (bq33 = true)
                       ·subst c34
                        have H1 : (davitref07_Without.l2 k4 a1 x5_4 x6_4 x7_3 t173 (wrap64 (x9_4 + 1)) a0_0 a0_1 l0_2) = some r := by rw [if_pos rfl] at H; exact H
                        clear H
                        have H := H1
                        clear H1
                        have H' := Aside0.mk H
                        clear H
                        obtain ⟨Ao35, co35, eo35⟩ := Kd.R_slice HO_8.out
                        subst eo35
                        have p176 : 0 ≤ (x7_3 : Int) := of_decide_eq_true (by first | (with_reducible assumption) | assumption)
                        have q176 : x7_3 < (x5_4.length : Int) := of_decide_eq_true (by first | (with_reducible assumption) | assumption)
                        obtain ⟨ad176, e176, hx176_0⟩ := Kd.at_bool (Kd.R_reads' HO_5.out).2.2 x7_3 p176 q176
                        (try rw [← Nbq26.out] at hx176_0)
                        (try rw [← Nbq33.out] at hx176_0)
                        obtain rfl : (⟨go15, 0, none⟩ : Addr) = ad176 := (by injection e176)
                        (first | simp only [add_plain] at hx176_0 | simp only [add_at] at hx176_0 | simp only [Addr.add, Nat.zero_add] at hx176_0 | skip)
                        replace p176 := eq_true p176
                        replace q176 := eq_true q176
                        have p177 : 0 ≤ (x9_4 : Int) := of_decide_eq_true (by first | (with_reducible assumption) | assumption)
                        have q177 : x9_4 < (t173.length : Int) := of_decide_eq_true (by first | (with_reducible assumption) | assumption)
                        obtain ⟨ad177, e177, hx177_0⟩ := Kd.at_int (Kd.R_reads' HO_8.out).2.2 x9_4 p177 q177
                        cases e177
                        replace p177 := eq_true p177
                        replace q177 := eq_true q177
                        have p178 : 0 ≤ (x9_4 : Int) := of_decide_eq_true (by first | (with_reducible assumption) | assumption)
                        have q178 : x9_4 < (t173.length : Int) := of_decide_eq_true (by first | (with_reducible assumption) | assumption)
                        obtain ⟨ad178, e178, hx178_0⟩ := Kd.at_int (Kd.R_reads' HO_8.out).2.2 x9_4 p178 q178
                        obtain rfl : ad177 = ad178 := (by injection e178)
                        replace p178 := eq_true p178
                        replace q178 := eq_true q178
                        have p179 : 0 ≤ ((rd t173 x9_4) : Int) := of_decide_eq_true (by first | (with_reducible assumption) | assumption)
                        have q179 : (rd t173 x9_4) < (x5_4.length : Int) := of_decide_eq_true (by first | (with_reducible assumption) | assumption)
                        obtain ⟨ad179, e179, hx179_0⟩ := Kd.at_bool (Kd.R_reads' HO_5.out).2.2 (rd t173 x9_4) p179 q179
                        (try rw [← Nbq26.out] at hx179_0)
                        (try rw [← Nbq33.out] at hx179_0)
                        obtain rfl : (⟨go15, 0, none⟩ : Addr) = ad179 := (by injection e179)
                        (first | simp only [add_plain] at hx179_0 | simp only [add_at] at hx179_0 | simp only [Addr.add, Nat.zero_add] at hx179_0 | skip)
                        replace p179 := eq_true p179
                        replace q179 := eq_true q179
                        go_wp2
                        (try simp only [← hl5_4])
                        go_roundg k4
                        case measure => have := HJ4.out; have := HK2.out; have := HK3.out; have := HK4.out; omega
                        case rel => exact ⟨(x5_4), (x6_4), (wrap64 (x9_4 + 1)), (by first | rfl | (simp; done) | (simp [*]; done)), (by first | rfl | (simp; done) | (simp [*]; done)), H', ⟨by have := HJ4.out; have := HK2.out; have := HK3.out; have := HK4.out; omega⟩, ⟨by (try simp only [hl5_2]); (try simp only [hl5_3]); (try simp only [hl5_4]); (with_reducible repeat (first | apply Kd.R_alloc | apply Kd.R_drewN | apply Kd.R_drew)); exact HO_5.out⟩, ⟨by (try simp only [hl5_2]); (try simp only [hl5_3]); (try simp only [hl5_4]); (with_reducible repeat (first | apply Kd.R_alloc | apply Kd.R_drewN | apply Kd.R_drew)); exact HO_8.out⟩, ⟨by (try simp only [hl5_2]); (try simp only [hl5_3]); (try simp only [hl5_4]); (with_reducible repeat (first | refine blk_drewN ?_ _ | refine blk_drew ?_ | refine blk_alloc ?_ _)); exact BK168.out⟩, ⟨by repeat (first | (with_reducible first | exact HB.out | apply below_alloc | apply pw_below_drewN | apply below_drew1 | refine below_set ?_ GE168.out) | exact HB.out)⟩⟩
                       ·replace c34 := Bool.eq_false_iff.mpr c34
                        subst c34
                        have H1 : (davitref07_Without.l2 k4 a1 (x5_4.set ((rd t173 x9_4) : Int).toNat true) true x7_3 t173 (wrap64 (x9_4 + 1)) a0_0 a0_1 l0_2) = some r := by rw [if_neg (show ¬ (false = true) by decide)] at H; exact H
                        clear H
                        have H := H1
                        clear H1
                        obtain ⟨y181, hy181⟩ : ∃ y_ : List Bool, y_ = (x5_4.set ((rd t173 x9_4) : Int).toNat true) := ⟨_, rfl⟩
                        replace H : (davitref07_Without.l2 k4 a1 y181 true x7_3 t173 (wrap64 (x9_4 + 1)) a0_0 a0_1 l0_2) = some r := by first | (rw [hy181]; with_reducible exact H) | (have H2_ := (Option.bind_some _ _).symm.trans H; rw [hy181]; with_reducible exact H2_) | (have H2_ := (Option.bind_some _ _).symm.trans H; with_reducible exact H2_) | with_reducible exact H | (rw [hy181]; exact H) | exact H
                        have Ny181 := Aside0.mk hy181
                        clear hy181
                        have H' := Aside0.mk H
                        clear H
                        obtain ⟨Ao37, co37, eo37⟩ := Kd.R_slice HO_8.out
                        subst eo37
                        have p176 : 0 ≤ (x7_3 : Int) := of_decide_eq_true (by first | (with_reducible assumption) | assumption)
                        have q176 : x7_3 < (x5_4.length : Int) := of_decide_eq_true (by first | (with_reducible assumption) | assumption)
                        obtain ⟨ad176, e176, hx176_0⟩ := Kd.at_bool (Kd.R_reads' HO_5.out).2.2 x7_3 p176 q176
                        (try rw [← Nbq26.out] at hx176_0)
                        (try rw [← Nbq33.out] at hx176_0)
                        obtain rfl : (⟨go15, 0, none⟩ : Addr) = ad176 := (by injection e176)
                        (first | simp only [add_plain] at hx176_0 | simp only [add_at] at hx176_0 | simp only [Addr.add, Nat.zero_add] at hx176_0 | skip)
                        replace p176 := eq_true p176
                        replace q176 := eq_true q176
                        have p177 : 0 ≤ (x9_4 : Int) := of_decide_eq_true (by first | (with_reducible assumption) | assumption)
                        have q177 : x9_4 < (t173.length : Int) := of_decide_eq_true (by first | (with_reducible assumption) | assumption)
                        obtain ⟨ad177, e177, hx177_0⟩ := Kd.at_int (Kd.R_reads' HO_8.out).2.2 x9_4 p177 q177
                        cases e177
                        replace p177 := eq_true p177
                        replace q177 := eq_true q177
                        have p178 : 0 ≤ (x9_4 : Int) := of_decide_eq_true (by first | (with_reducible assumption) | assumption)
                        have q178 : x9_4 < (t173.length : Int) := of_decide_eq_true (by first | (with_reducible assumption) | assumption)
                        obtain ⟨ad178, e178, hx178_0⟩ := Kd.at_int (Kd.R_reads' HO_8.out).2.2 x9_4 p178 q178
                        obtain rfl : ad177 = ad178 := (by injection e178)
                        replace p178 := eq_true p178
                        replace q178 := eq_true q178
                        have p179 : 0 ≤ ((rd t173 x9_4) : Int) := of_decide_eq_true (by first | (with_reducible assumption) | assumption)
                        have q179 : (rd t173 x9_4) < (x5_4.length : Int) := of_decide_eq_true (by first | (with_reducible assumption) | assumption)
                        obtain ⟨ad179, e179, hx179_0⟩ := Kd.at_bool (Kd.R_reads' HO_5.out).2.2 (rd t173 x9_4) p179 q179
                        (try rw [← Nbq26.out] at hx179_0)
                        (try rw [← Nbq33.out] at hx179_0)
                        obtain rfl : (⟨go15, 0, none⟩ : Addr) = ad179 := (by injection e179)
                        (first | simp only [add_plain] at hx179_0 | simp only [add_at] at hx179_0 | simp only [Addr.add, Nat.zero_add] at hx179_0 | skip)
                        replace p179 := eq_true p179
                        replace q179 := eq_true q179
                        have p180 : 0 ≤ (x9_4 : Int) := of_decide_eq_true (by first | (with_reducible assumption) | assumption)
                        have q180 : x9_4 < (t173.length : Int) := of_decide_eq_true (by first | (with_reducible assumption) | assumption)
                        obtain ⟨ad180, e180, hx180_0⟩ := Kd.at_int (Kd.R_reads' HO_8.out).2.2 x9_4 p180 q180
                        obtain rfl : ad177 = ad180 := (by injection e180)
                        replace p180 := eq_true p180
                        replace q180 := eq_true q180
                        have p36 : 0 ≤ ((rd t173 x9_4) : Int) := of_decide_eq_true (by first | (with_reducible assumption) | assumption)
                        have q36 : ((rd t173 x9_4) : Int) < ((x5_4.length : Int) : Int) := of_decide_eq_true (by first | (with_reducible assumption) | assumption)
                        obtain ⟨hx36_0, hf36_0⟩ := Kd.R_celln false HO_5.out ((rd t173 x9_4) : Int) p36 q36
                        replace p36 := eq_true p36
                        replace q36 := eq_true q36
                        have HP38 := Kd.R_putg HO_5.out ((rd t173 x9_4) : Int) true
                        go_wp2_with (first | ((with_reducible refine gate_store (t := 4) (p := 67) rfl ?_); refine store_event (t := 4) (p := 67) (v := ?vo_w39) (w1 := (wr.setCell ⟨go15, ((rd t173 x9_4) : Int).toNat, none⟩ (.bool true))) ?hg ?ho ?hn ?hr ?_; (case ho => rfl); (case hg => rfl); (case hn => rfl); (case hr => first | (go_simp; done) | (go_simp; rfl)); intro w39 hw; have hg : wr.grownBy w39 (some go15) := (by rw [hw]; exact HP38.2); have hp_ : Kd.R Kd.bool 4 w39 w.heap.size (fun _ => True) (.slice (some ⟨go15, 0, none⟩) x5_4.length co15) y181 := (by rw [hw, Ny181.out]; exact HP38.1); clear HP38; have n0_ := Aside0.mk (hp_); have n1_ := Aside0.mk (Kd.R_over' (v := (.slice (some ⟨go15, 0, none⟩) x5_4.length co15)) (by (with_reducible repeat (first | apply Kd.R_alloc | apply Kd.R_drewN | apply Kd.R_drew)); exact HO_8.out) (Kd.R_typed HO_5.out) (by decide) hg); have n2_ := Aside0.mk (blk_grown (g := gb168) (o := .cells #[.int .i64 a0_0, .int .i64 a0_1, .slice A0_2 l0_2.length c0_2] 24 (0, 0)) (by (with_reducible repeat (first | refine blk_drewN ?_ _ | refine blk_drew ?_ | refine blk_alloc ?_ _)); exact BK168.out) hg (Kd.R_ne HO_5.out BK168.out (by decide))); have n3_ := Aside0.mk ((by rw [hw]; exact below_set (HB.out) GB15.out : Below w.heap.size w w39)); clear HO_5; clear HO_8; clear BK168; clear HB; have HO_5 := n0_; have HO_8 := n1_; have BK168 := n2_; have HB := n3_; clear n0_ n1_ n2_ n3_; clear hg hw hp_))
                        (try simp only [← hl5_4])
                        go_roundg k4
                        case measure => have := HJ4.out; have := HK2.out; have := HK3.out; have := HK4.out; omega
                        case rel => exact ⟨(y181), (true), (wrap64 (x9_4 + 1)), (by first | rfl | (simp; done) | (simp [*]; done)), (by first | rfl | (simp; done) | (simp [*]; done)), H', ⟨by have := HJ4.out; have := HK2.out; have := HK3.out; have := HK4.out; omega⟩, ⟨by (try simp only [hl5_2]); (try simp only [hl5_3]); (try simp only [hl5_4]); (with_reducible repeat (first | apply Kd.R_alloc | apply Kd.R_drewN | apply Kd.R_drew)); exact HO_5.out⟩, ⟨by (try simp only [hl5_2]); (try simp only [hl5_3]); (try simp only [hl5_4]); (with_reducible repeat (first | apply Kd.R_alloc | apply Kd.R_drewN | apply Kd.R_drew)); exact HO_8.out⟩, ⟨by (try simp only [hl5_2]); (try simp only [hl5_3]); (try simp only [hl5_4]); (with_reducible repeat (first | refine blk_drewN ?_ _ | refine blk_drew ?_ | refine blk_alloc ?_ _)); exact BK168.out⟩, ⟨by repeat (first | (with_reducible first | exact HB.out | apply below_alloc | apply pw_below_drewN | apply below_drew1 | refine below_set ?_ GE168.out) | exact HB.out)⟩⟩
                      ·rw [if_neg c32] at H
                       exact absurd H (by simp)
                     ·rw [if_neg c31] at H
                      exact absurd H (by simp)
                   ·rw [if_neg c28] at H
                    exact absurd H (by simp)
                  ·replace c27 := Bool.eq_false_iff.mpr c27
                   subst c27
                   have H1 : (davitref07_Without.l2 k4 a1 x5_4 x6_4 x7_3 t173 (wrap64 (x9_4 + 1)) a0_0 a0_1 l0_2) = some r := by rw [if_neg (show ¬ (false = true) by decide)] at H; exact H
                   clear H
                   have H := H1
                   clear H1
                   have H' := Aside0.mk H
                   clear H
                   obtain ⟨Ao40, co40, eo40⟩ := Kd.R_slice HO_8.out
                   subst eo40
                   have p176 : 0 ≤ (x7_3 : Int) := of_decide_eq_true (by first | (with_reducible assumption) | assumption)
                   have q176 : x7_3 < (x5_4.length : Int) := of_decide_eq_true (by first | (with_reducible assumption) | assumption)
                   obtain ⟨ad176, e176, hx176_0⟩ := Kd.at_bool (Kd.R_reads' HO_5.out).2.2 x7_3 p176 q176
                   (try rw [← Nbq26.out] at hx176_0)
                   obtain rfl : (⟨go15, 0, none⟩ : Addr) = ad176 := (by injection e176)
                   (first | simp only [add_plain] at hx176_0 | simp only [add_at] at hx176_0 | simp only [Addr.add, Nat.zero_add] at hx176_0 | skip)
                   replace p176 := eq_true p176
                   replace q176 := eq_true q176
                   go_wp2
                   (try simp only [← hl5_4])
                   go_roundg k4
                   case measure => have := HJ4.out; have := HK2.out; have := HK3.out; have := HK4.out; omega
                   case rel => exact ⟨(x5_4), (x6_4), (wrap64 (x9_4 + 1)), (by first | rfl | (simp; done) | (simp [*]; done)), (by first | rfl | (simp; done) | (simp [*]; done)), H', ⟨by have := HJ4.out; have := HK2.out; have := HK3.out; have := HK4.out; omega⟩, ⟨by (try simp only [hl5_2]); (try simp only [hl5_3]); (try simp only [hl5_4]); (with_reducible repeat (first | apply Kd.R_alloc | apply Kd.R_drewN | apply Kd.R_drew)); exact HO_5.out⟩, ⟨by (try simp only [hl5_2]); (try simp only [hl5_3]); (try simp only [hl5_4]); (with_reducible repeat (first | apply Kd.R_alloc | apply Kd.R_drewN | apply Kd.R_drew)); exact HO_8.out⟩, ⟨by (try simp only [hl5_2]); (try simp only [hl5_3]); (try simp only [hl5_4]); (with_reducible repeat (first | refine blk_drewN ?_ _ | refine blk_drew ?_ | refine blk_alloc ?_ _)); exact BK168.out⟩, ⟨by repeat (first | (with_reducible first | exact HB.out | apply below_alloc | apply pw_below_drewN | apply below_drew1 | refine below_set ?_ GE168.out) | exact HB.out)⟩⟩
                 ·rw [if_neg c25] at H
                  exact absurd H (by simp)
                ·rw [if_neg c24] at H
                 exact absurd H (by simp)
               ·rw [if_neg c23] at H
                have c23b0 : decide (x9_4 < (t173.length : Int)) = false := decide_eq_false c23
                clear c23
                have H' := Aside0.mk H
                clear H
                obtain ⟨Ao41, co41, eo41⟩ := Kd.R_slice HO_8.out
                subst eo41
                go_wp2
                (try simp only [← hl5_3, ← hl5_4])
                go_roundg k4
                case measure => have := HJ4.out; have := HK2.out; have := HK3.out; have := HK4.out; omega
                case rel => exact ⟨(x5_4), (x6_4), (wrap64 (x7_3 + 1)), (by first | rfl | (simp; done) | (simp [*]; done)), (by first | rfl | (simp; done) | (simp [*]; done)), H', ⟨by have := HJ4.out; have := HK2.out; have := HK3.out; have := HK4.out; omega⟩, ⟨by (try simp only [hl5_2]); (try simp only [hl5_3]); (try simp only [hl5_4]); (with_reducible repeat (first | apply Kd.R_alloc | apply Kd.R_drewN | apply Kd.R_drew)); exact HO_5.out⟩, ⟨by (try simp only [hl5_2]); (try simp only [hl5_3]); (try simp only [hl5_4]); (with_reducible repeat (first | refine blk_drewN ?_ _ | refine blk_drew ?_ | refine blk_alloc ?_ _)); exact BK168.out⟩, ⟨by repeat (first | (with_reducible first | exact HB.out | apply below_alloc | apply pw_below_drewN | apply below_drew1 | refine below_set ?_ GE168.out) | exact HB.out)⟩⟩
            ·rw [if_neg c19] at H
             have c19b0 : decide (x7_3 < (x5_3.length : Int)) = false := decide_eq_false c19
             clear c19
             have H' := Aside0.mk H
             clear H
             go_wp2
             (try simp only [← hl5_2, ← hl5_3])
             go_roundg k3
             case measure => have := HJ4.out; have := HK2.out; have := HK3.out; omega
             case rel => exact ⟨(x5_3), (x6_3), (by first | rfl | (simp; done) | (simp [*]; done)), H', ⟨by have := HJ4.out; have := HK2.out; have := HK3.out; omega⟩, ⟨by (try simp only [hl5_2]); (try simp only [hl5_3]); (with_reducible repeat (first | apply Kd.R_alloc | apply Kd.R_drewN | apply Kd.R_drew)); exact HO_5.out⟩, ⟨by (try simp only [hl5_2]); (try simp only [hl5_3]); (with_reducible repeat (first | refine blk_drewN ?_ _ | refine blk_drew ?_ | refine blk_alloc ?_ _)); exact BK168.out⟩, ⟨by repeat (first | (with_reducible first | exact HB.out | apply below_alloc | apply pw_below_drewN | apply below_drew1 | refine below_set ?_ GE168.out) | exact HB.out)⟩⟩
         ·replace c18 := Bool.eq_false_iff.mpr c18
          subst c18
          have H1 : (some x5_2) = some r := by rw [if_neg (show ¬ (false = true) by decide)] at H; exact H
          clear H
          have H := H1
          clear H1
          obtain rfl := Option.some.inj H
          go_wp2
          go_ret
          exact ⟨_, by first | rfl | (simp [errW_none, errW_some] <;> rfl) | (simp [*, errW_none, errW_some] <;> rfl), by (with_reducible repeat (first | apply Kd.R_alloc | apply Kd.R_drewN | apply Kd.R_drew)); exact HO_5.out, by repeat (first | (with_reducible first | exact HB.out | apply below_alloc | apply pw_below_drewN | apply below_drew1 | refine below_set ?_ GE168.out) | exact HB.out)⟩
      ·rw [if_neg c14] at H
       exact absurd H (by simp)
  ·rw [if_neg c4] at H
   exact absurd H (by simp)
 ·rw [if_neg c3] at H
  exact absurd H (by simp)
end
end Go.Proofs.Ytilopoegoddggaa.X
namespace Go.Proofs.Ytilopoegoddggaa.X
open Go.RowKit Go.Proofs.YtilopoegoddggaaW.PrintWords Go.Proofs.YtilopoegoddggaaW.PrintLast Go.Proofs.YtilopoegoddggaaW.PrintMore
attribute [local go_sem] max2_int min2_int max_two min_two max_three min_three max_four min_four
set_option linter.all false
noncomputable section
def davitref07_Reached.f (k : Nat) (a0_0 : Int) (a0_1 : Int) (l0_2 : List (S50)) : Option (List Bool) := (davitref07_Without.f k a0_0 a0_1 l0_2 (-1)).bind fun t183 => (some t183)
theorem davitref07_Reached.mono : ∀ a0 a1 a2 k, LeO (davitref07_Reached.f k a0 a1 a2) (davitref07_Reached.f (k + 1) a0 a1 a2) := by
 intro a0 a1 a2 k
 unfold davitref07_Reached.f
 repeat' first
   | (with_reducible exact davitref07_Without.mono _ _ _ _ _)
   | (with_reducible exact LeO.refl _)
   | (with_reducible exact LeO.none _)
   | (with_reducible refine LeO.ite ?_ ?_)
   | (with_reducible refine LeO.bind ?_ (fun _ => ?_))
   | exact davitref07_Without.mono _ _ _ _ _
   | exact LeO.none _
   | refine LeO.ite ?_ ?_
   | refine LeO.bind ?_ (fun _ => ?_)
set_option maxHeartbeats 8000000 in
set_option maxRecDepth 100000 in
theorem davitref07_Reached.calls (k : Nat) (a0_0 : Int) (a0_1 : Int) (A0_2 : Option Addr) (c0_2 : Nat) (l0_2 : List (S50)) (r : List Bool) (w : World) (hr0_2 : Kd.C k50 w A0_2 l0_2.length l0_2) (hc0_2 : l0_2.length ≤ c0_2) (h : davitref07_Reached.f k a0_0 a0_1 l0_2 = some r) :
  Calls Try.prog 29 #[.agg #[.int .i64 a0_0, .int .i64 a0_1, .slice A0_2 l0_2.length c0_2]] w fun e w' => ∃ v0_ : Value, e = .returned (v0_) ∧ Kd.R Kd.bool 4 w' w.heap.size (fun _ => True) v0_ r ∧ Below w.heap.size w w' := by
 have hu24 := Try.underlying24
 have HR0_2 := Aside0.mk hr0_2
 have HC0_2 := Aside0.mk hc0_2
 clear hr0_2 hc0_2
 have HB := Aside0.mk (Below.refl w.heap.size w)
 have H : ((davitref07_Without.f k a0_0 a0_1 l0_2 (-1)).bind fun t183 => (some t183)) = some r := h
 clear h
 replace H := Option.bind_eq_some_iff.mp H
 obtain ⟨t183, A20, H⟩ := H
 replace H : (some t183) = some r := H
 have A2 := Aside0.mk A20
 clear A20
 obtain rfl := Option.some.inj H
 go_enter Try.func29, Try.ntmps29
 go_wp2_with (first | ((with_reducible refine gate_dst (N := 1) rfl ?_); refine box_event ?hg (N := 1) ?hd (cs := #[.int .i64 a0_0, .int .i64 a0_1, .slice A0_2 l0_2.length c0_2]) (t := 24) ?hr ?_; (case hd => rfl); (case hg => rfl); (case hr => first | (go_simp; done) | (go_simp; rfl)); intro gb182 hg w3 hbox hb; have n0_ := Aside0.mk (below_step (by repeat (first | (with_reducible first | exact HB.out | apply below_alloc | apply pw_below_drewN | apply below_drew1) | exact HB.out)) hb); have n1_ := Aside0.mk (hbox); have n2_ := Aside0.mk ((by rw [hg]; exact (below_size (by repeat (first | (with_reducible first | exact HB.out | apply below_alloc | apply pw_below_drewN | apply below_drew1) | exact HB.out))) : w.heap.size ≤ gb182)); have n3_ := Aside0.mk ((by rw [hg]; exact (below_size (by repeat (first | (with_reducible first | exact HB.out | apply below_alloc | apply pw_below_drewN | apply below_drew1) | exact HB.out))) : w.heap.size ≤ gb182)); clear HB; have HB := n0_; have BK182 := n1_; have GW182 := n2_; have GE182 := n3_; clear n0_ n1_ n2_ n3_; clear hb hbox hg; have hcz4_0 : w3.cell? ⟨gb182, 0, none⟩ = some (.int .i64 a0_0) := (blk_cell BK182.out 0).trans rfl; have hcz4_1 : w3.cell? ⟨gb182, 1, none⟩ = some (.int .i64 a0_1) := (blk_cell BK182.out 1).trans rfl; have hcz4_2 : w3.cell? ⟨gb182, 2, none⟩ = some (.slice A0_2 l0_2.length c0_2) := (blk_cell BK182.out 2).trans rfl; have hfz4_0 := blk_frozen BK182.out 0; have hfz4_1 := blk_frozen BK182.out 1; have hfz4_2 := blk_frozen BK182.out 2) | ((with_reducible refine gate_callee (f := 30) rfl ?_); refine goesL_ (some 4) rfl rfl Try.func30 (by kernel_rfl) rfl #[.agg #[.int .i64 a0_0, .int .i64 a0_1, .slice A0_2 l0_2.length c0_2], .int .i64 (-1)] rfl (by (try simp only [List.map_toArray, List.map_cons, List.map_nil]); first | done | rfl | (simp only [List.length_drop, List.length_take]; rfl)) ?_; (with_reducible refine (davitref07_Without.calls k a0_0 a0_1 _ _ l0_2 (-1) t183 _ ?side1 ?side2 A2.out).mono ?_); (case side1 => repeat (first | exact (Kd.C_below HR0_2.out HB.out) | (with_reducible refine Kd.C_alloc ?_ _) | (with_reducible refine Kd.C_drewN ?_ _) | (with_reducible refine Kd.C_drew ?_))); (case side2 => exact HC0_2.out); rintro e w5 ⟨v184, rfl, ho0, hb⟩; refine ⟨_, rfl, ?_⟩; have n0_ := Aside0.mk (Kd.R_lower ho0 (below_size (by repeat (first | (with_reducible first | exact HB.out | apply below_alloc | apply pw_below_drewN | apply below_drew1 | refine below_set ?_ GE182.out) | exact HB.out)))); have n1_ := Aside0.mk (blk_below (g := gb182) (o := .cells #[.int .i64 a0_0, .int .i64 a0_1, .slice A0_2 l0_2.length c0_2] 24 (0, 0)) (by (with_reducible repeat (first | refine blk_drewN ?_ _ | refine blk_drew ?_ | refine blk_alloc ?_ _)); exact BK182.out) hb); have n2_ := Aside0.mk (below_step (by repeat (first | (with_reducible first | exact HB.out | apply below_alloc | apply pw_below_drewN | apply below_drew1 | refine below_set ?_ GE182.out) | exact HB.out)) hb); clear BK182; clear HB; have HO185 := n0_; have BK182 := n1_; have HB := n2_; clear n0_ n1_ n2_; (try clear hb); (try clear hb2); (try clear hk); (try clear hi); (try clear ho0)))
 go_ret
 exact ⟨_, by first | rfl | (simp [errW_none, errW_some] <;> rfl) | (simp [*, errW_none, errW_some] <;> rfl), by (with_reducible repeat (first | apply Kd.R_alloc | apply Kd.R_drewN | apply Kd.R_drew)); exact HO185.out, by repeat (first | (with_reducible first | exact HB.out | apply below_alloc | apply pw_below_drewN | apply below_drew1 | refine below_set ?_ GE182.out) | exact HB.out)⟩
end
end Go.Proofs.Ytilopoegoddggaa.X
namespace Go.Proofs.Ytilopoegoddggaa.X
open Go.RowKit Go.Proofs.YtilopoegoddggaaW.PrintWords Go.Proofs.YtilopoegoddggaaW.PrintLast Go.Proofs.YtilopoegoddggaaW.PrintMore
attribute [local go_sem] max2_int min2_int max_two min_two max_three min_three max_four min_four
set_option linter.all false
noncomputable section
mutual
def davitref08_All.l0 : Nat → List Bool → List (List Bool) → Int → Int → Int → List (S50) → Option ((List (List Bool)))
 | 0, _, _, _, _, _, _ => none
 | k + 1, x3, x4, x5, x187000, x187001, x187002 => if x5 < (x187002.length : Int) then ((davitref07_Without.f k x187000 x187001 x187002 x5).bind fun t190 => (if 0 ≤ (x187002.length : Int) then (if ((x187002.length : Int) : Int).toNat ≤ 281474976710656 then (davitref08_All.l1 k x3 x4 x5 t190 (List.replicate ((x187002.length : Int) : Int).toNat false) 0 x187000 x187001 x187002) else (none)) else (none))) else (some x4)
def davitref08_All.l1 : Nat → List Bool → List (List Bool) → Int → List Bool → List Bool → Int → Int → Int → List (S50) → Option ((List (List Bool)))
 | 0, _, _, _, _, _, _, _, _, _ => none
 | k + 1, x3, x4, x5, x6, x7, x8, x187000, x187001, x187002 => if x8 < (x187002.length : Int) then (if 0 ≤ x8 then (if x8 < (x3.length : Int) then (if rdOf false x3 x8 = true then (if x5 = x8 then (if x8 < (x7.length : Int) then (davitref08_All.l1 k x3 x4 x5 x6 (x7.set (x8 : Int).toNat true) (wrap64 (x8 + 1)) x187000 x187001 x187002) else (none)) else (if x8 < (x6.length : Int) then (if x8 < (x7.length : Int) then (davitref08_All.l1 k x3 x4 x5 x6 (x7.set (x8 : Int).toNat (!(rdOf false x6 x8))) (wrap64 (x8 + 1)) x187000 x187001 x187002) else (none)) else (none))) else (if x8 < (x7.length : Int) then (davitref08_All.l1 k x3 x4 x5 x6 (x7.set (x8 : Int).toNat false) (wrap64 (x8 + 1)) x187000 x187001 x187002) else (none))) else (none)) else (none)) else (if x4.length < 5864062014805 then (davitref08_All.l0 k x3 (x4 ++ [x7]) (wrap64 (x5 + 1)) x187000 x187001 x187002) else (none))
end
def davitref08_All.f (k : Nat) (a0_0 : Int) (a0_1 : Int) (l0_2 : List (S50)) : Option ((List (List Bool))) := (davitref07_Reached.f k a0_0 a0_1 l0_2).bind fun t187 => (davitref08_All.l0 k t187 ([] : List (List Bool)) 0 a0_0 a0_1 l0_2)
theorem davitref08_All.mono_l : ∀ k, (∀ y0 y1 y2 y3 y4 y5, LeO (davitref08_All.l0 k y0 y1 y2 y3 y4 y5) (davitref08_All.l0 (k + 1) y0 y1 y2 y3 y4 y5)) ∧ (∀ y0 y1 y2 y3 y4 y5 y6 y7 y8, LeO (davitref08_All.l1 k y0 y1 y2 y3 y4 y5 y6 y7 y8) (davitref08_All.l1 (k + 1) y0 y1 y2 y3 y4 y5 y6 y7 y8))
 | 0 => ⟨fun _ _ _ _ _ _ r h => by simp [davitref08_All.l0] at h, fun _ _ _ _ _ _ _ _ _ r h => by simp [davitref08_All.l1] at h⟩
 | k + 1 => by
  obtain ⟨ih0, ih1⟩ := davitref08_All.mono_l k
  refine ⟨?_, ?_⟩
  ·intro y0 y1 y2 y3 y4 y5
   unfold davitref08_All.l0
   repeat' first
   | (with_reducible exact ih0 _ _ _ _ _ _)
   | (with_reducible exact ih1 _ _ _ _ _ _ _ _ _)
   | (with_reducible exact davitref07_Reached.mono _ _ _ _)
   | (with_reducible exact davitref07_Without.mono _ _ _ _ _)
   | (with_reducible exact LeO.refl _)
   | (with_reducible exact LeO.none _)
   | (with_reducible refine LeO.ite ?_ ?_)
   | (with_reducible refine LeO.bind ?_ (fun _ => ?_))
   | exact ih0 _ _ _ _ _ _
   | exact ih1 _ _ _ _ _ _ _ _ _
   | exact davitref07_Reached.mono _ _ _ _
   | exact davitref07_Without.mono _ _ _ _ _
   | exact LeO.none _
   | refine LeO.ite ?_ ?_
   | refine LeO.bind ?_ (fun _ => ?_)
  ·intro y0 y1 y2 y3 y4 y5 y6 y7 y8
   unfold davitref08_All.l1
   repeat' first
   | (with_reducible exact ih0 _ _ _ _ _ _)
   | (with_reducible exact ih1 _ _ _ _ _ _ _ _ _)
   | (with_reducible exact davitref07_Reached.mono _ _ _ _)
   | (with_reducible exact davitref07_Without.mono _ _ _ _ _)
   | (with_reducible exact LeO.refl _)
   | (with_reducible exact LeO.none _)
   | (with_reducible refine LeO.ite ?_ ?_)
   | (with_reducible refine LeO.bind ?_ (fun _ => ?_))
   | exact ih0 _ _ _ _ _ _
   | exact ih1 _ _ _ _ _ _ _ _ _
   | exact davitref07_Reached.mono _ _ _ _
   | exact davitref07_Without.mono _ _ _ _ _
   | exact LeO.none _
   | refine LeO.ite ?_ ?_
   | refine LeO.bind ?_ (fun _ => ?_)
theorem davitref08_All.mono : ∀ a0 a1 a2 k, LeO (davitref08_All.f k a0 a1 a2) (davitref08_All.f (k + 1) a0 a1 a2) := by
 intro a0 a1 a2 k
 obtain ⟨ih0, ih1⟩ := davitref08_All.mono_l k
 unfold davitref08_All.f
 repeat' first
   | (with_reducible exact ih0 _ _ _ _ _ _)
   | (with_reducible exact ih1 _ _ _ _ _ _ _ _ _)
   | (with_reducible exact davitref07_Reached.mono _ _ _ _)
   | (with_reducible exact davitref07_Without.mono _ _ _ _ _)
   | (with_reducible exact LeO.refl _)
   | (with_reducible exact LeO.none _)
   | (with_reducible refine LeO.ite ?_ ?_)
   | (with_reducible refine LeO.bind ?_ (fun _ => ?_))
   | exact ih0 _ _ _ _ _ _
   | exact ih1 _ _ _ _ _ _ _ _ _
   | exact davitref07_Reached.mono _ _ _ _
   | exact davitref07_Without.mono _ _ _ _ _
   | exact LeO.none _
   | refine LeO.ite ?_ ?_
   | refine LeO.bind ?_ (fun _ => ?_)
set_option maxHeartbeats 8000000 in
set_option maxRecDepth 100000 in
theorem davitref08_All.calls (k : Nat) (a0_0 : Int) (a0_1 : Int) (A0_2 : Option Addr) (c0_2 : Nat) (l0_2 : List (S50)) (r : List (List Bool)) (w : World) (hr0_2 : Kd.C k50 w A0_2 l0_2.length l0_2) (hc0_2 : l0_2.length ≤ c0_2) (h : davitref08_All.f k a0_0 a0_1 l0_2 = some r) :
  Calls Try.prog 28 #[.agg #[.int .i64 a0_0, .int .i64 a0_1, .slice A0_2 l0_2.length c0_2]] w fun e w' => ∃ v0_ : Value, e = .returned (v0_) ∧ Kd.S (Kd.slice 4 Kd.bool) 32 w' w.heap.size (fun _ => True) v0_ r ∧ Below w.heap.size w w' := by
 have hu24 := Try.underlying24
 have HR0_2 := Aside0.mk hr0_2
 have HC0_2 := Aside0.mk hc0_2
 clear hr0_2 hc0_2
 have HB := Aside0.mk (Below.refl w.heap.size w)
 have H : ((davitref07_Reached.f k a0_0 a0_1 l0_2).bind fun t187 => (davitref08_All.l0 k t187 ([] : List (List Bool)) 0 a0_0 a0_1 l0_2)) = some r := h
 clear h
 replace H := Option.bind_eq_some_iff.mp H
 obtain ⟨t187, A20, H⟩ := H
 replace H : (davitref08_All.l0 k t187 ([] : List (List Bool)) 0 a0_0 a0_1 l0_2) = some r := H
 have A2 := Aside0.mk A20
 clear A20
 have H' := Aside0.mk H
 clear H
 go_enter Try.func28, Try.ntmps28
 go_wp2_with (first | ((with_reducible refine gate_dst (N := 1) rfl ?_); refine box_event ?hg (N := 1) ?hd (cs := #[.int .i64 a0_0, .int .i64 a0_1, .slice A0_2 l0_2.length c0_2]) (t := 24) ?hr ?_; (case hd => rfl); (case hg => rfl); (case hr => first | (go_simp; done) | (go_simp; rfl)); intro gb186 hg w3 hbox hb; have n0_ := Aside0.mk (below_step (by repeat (first | (with_reducible first | exact HB.out | apply below_alloc | apply pw_below_drewN | apply below_drew1) | exact HB.out)) hb); have n1_ := Aside0.mk (hbox); have n2_ := Aside0.mk ((by rw [hg]; exact (below_size (by repeat (first | (with_reducible first | exact HB.out | apply below_alloc | apply pw_below_drewN | apply below_drew1) | exact HB.out))) : w.heap.size ≤ gb186)); have n3_ := Aside0.mk ((by rw [hg]; exact (below_size (by repeat (first | (with_reducible first | exact HB.out | apply below_alloc | apply pw_below_drewN | apply below_drew1) | exact HB.out))) : w.heap.size ≤ gb186)); clear HB; have HB := n0_; have BK186 := n1_; have GW186 := n2_; have GE186 := n3_; clear n0_ n1_ n2_ n3_; clear hb hbox hg; have hcz4_0 : w3.cell? ⟨gb186, 0, none⟩ = some (.int .i64 a0_0) := (blk_cell BK186.out 0).trans rfl; have hcz4_1 : w3.cell? ⟨gb186, 1, none⟩ = some (.int .i64 a0_1) := (blk_cell BK186.out 1).trans rfl; have hcz4_2 : w3.cell? ⟨gb186, 2, none⟩ = some (.slice A0_2 l0_2.length c0_2) := (blk_cell BK186.out 2).trans rfl; have hfz4_0 := blk_frozen BK186.out 0; have hfz4_1 := blk_frozen BK186.out 1; have hfz4_2 := blk_frozen BK186.out 2) | ((with_reducible refine gate_callee (f := 29) rfl ?_); refine goesL_ (some 10) rfl rfl Try.func29 (by kernel_rfl) rfl #[.agg #[.int .i64 a0_0, .int .i64 a0_1, .slice A0_2 l0_2.length c0_2]] rfl (by (try simp only [List.map_toArray, List.map_cons, List.map_nil]); first | done | rfl | (simp only [List.length_drop, List.length_take]; rfl)) ?_; (with_reducible refine (davitref07_Reached.calls k a0_0 a0_1 _ _ l0_2 t187 _ ?side1 ?side2 A2.out).mono ?_); (case side1 => repeat (first | exact (Kd.C_below HR0_2.out HB.out) | (with_reducible refine Kd.C_alloc ?_ _) | (with_reducible refine Kd.C_drewN ?_ _) | (with_reducible refine Kd.C_drew ?_))); (case side2 => exact HC0_2.out); rintro e w5 ⟨v188, rfl, ho0, hb⟩; refine ⟨_, rfl, ?_⟩; have n0_ := Aside0.mk (Kd.R_lower ho0 (below_size (by repeat (first | (with_reducible first | exact HB.out | apply below_alloc | apply pw_below_drewN | apply below_drew1 | refine below_set ?_ GE186.out) | exact HB.out)))); have n1_ := Aside0.mk (blk_below (g := gb186) (o := .cells #[.int .i64 a0_0, .int .i64 a0_1, .slice A0_2 l0_2.length c0_2] 24 (0, 0)) (by (with_reducible repeat (first | refine blk_drewN ?_ _ | refine blk_drew ?_ | refine blk_alloc ?_ _)); exact BK186.out) hb); have n2_ := Aside0.mk (below_step (by repeat (first | (with_reducible first | exact HB.out | apply below_alloc | apply pw_below_drewN | apply below_drew1 | refine below_set ?_ GE186.out) | exact HB.out)) hb); clear BK186; clear HB; have HO189 := n0_; have BK186 := n1_; have HB := n2_; clear n0_ n1_ n2_; (try clear hb); (try clear hb2); (try clear hk); (try clear hi); (try clear ho0)))
 go_loopg [4, 5] k (fun kq v4 v5 w' => ∃ (x3_1 : List Bool) (x4_1 : List (List Bool)) (x5_1 : Int), v5 = .int .i64 x5_1 ∧ Aside0 (davitref08_All.l0 kq x3_1 x4_1 x5_1 a0_0 a0_1 l0_2 = some r) ∧ Aside0 (kq ≤ k) ∧ Aside0 (Kd.R Kd.bool 4 w' w.heap.size (fun _ => True) v188 x3_1) ∧ Aside0 (Kd.S (Kd.slice 4 Kd.bool) 32 w' w.heap.size (fun k_ => some k_ ≠ (v188 : Value).ownBlock) v4 x4_1) ∧ Aside0 (w'.heap[gb186]? = some (.cells #[.int .i64 a0_0, .int .i64 a0_1, (.slice A0_2 l0_2.length c0_2)] 24 (0, 0))) ∧ Aside0 (Below w.heap.size w w'))
 case atStart => exact ⟨(t187), (([] : List (List Bool))), (0), (by first | rfl | (simp; done) | (simp [*]; done)), H', ⟨Nat.le_refl _⟩, ⟨by (with_reducible repeat (first | apply Kd.R_alloc | apply Kd.R_drewN | apply Kd.R_drew)); exact HO189.out⟩, ⟨by first | exact Kd.S_nil _ _ _ _ _ | exact Kd.N_nil _ _ _ _ _ | exact Kd.V_nil _ _ _ _ _ | exact Kd.Q_nil _ _ _ _ _ | exact Kd.R_nil _ _ _ _ _⟩, ⟨by (with_reducible repeat (first | refine blk_drewN ?_ _ | refine blk_drew ?_ | refine blk_alloc ?_ _)); exact BK186.out⟩, ⟨by repeat (first | (with_reducible first | exact HB.out | apply below_alloc | apply pw_below_drewN | apply below_drew1 | refine below_set ?_ GE186.out) | exact HB.out)⟩⟩
 case round =>
  clear H'
  try clear c2
  try clear p2
  try clear hcz4_0
  try clear hcz4_1
  try clear hcz4_2
  try clear hfz4_0
  try clear hfz4_1
  try clear hfz4_2
  obtain ⟨x3_1, x4_1, x5_1, rfl, HA, HK1, HO_3, HO_4, BK186, HB⟩ := hrel
  cases gk with
  | zero => exact absurd HA.out (by simp [davitref08_All.l0])
  | succ k1 =>
   have H := HA.out
   clear HA
   simp only [davitref08_All.l0] at H
   by_cases c6 : x5_1 < (l0_2.length : Int)
   ·rw [if_pos c6] at H
    have c6b0 : decide (x5_1 < (l0_2.length : Int)) = true := decide_eq_true c6
    clear c6
    replace H := Option.bind_eq_some_iff.mp H
    obtain ⟨t190, A70, H⟩ := H
    replace H : (if 0 ≤ (l0_2.length : Int) then (if ((l0_2.length : Int) : Int).toNat ≤ 281474976710656 then (davitref08_All.l1 k1 x3_1 x4_1 x5_1 t190 (List.replicate ((l0_2.length : Int) : Int).toNat false) 0 a0_0 a0_1 l0_2) else (none)) else (none)) = some r := H
    have A7 := Aside0.mk A70
    clear A70
    by_cases c8 : 0 ≤ (l0_2.length : Int)
    ·rw [if_pos c8] at H
     have c8b0 := eq_true c8
     have c8b1 : decide (0 ≤ (l0_2.length : Int)) = true := decide_eq_true c8
     clear c8
     by_cases c9 : ((l0_2.length : Int) : Int).toNat ≤ 281474976710656
     ·rw [if_pos c9] at H
      have c9b0 := eq_true c9
      have c9b1 : decide (((l0_2.length : Int) : Int).toNat ≤ 281474976710656) = true := decide_eq_true c9
      clear c9
      obtain ⟨y193, hy193⟩ : ∃ y_ : List Bool, y_ = (List.replicate ((l0_2.length : Int) : Int).toNat false) := ⟨_, rfl⟩
      replace H : (davitref08_All.l1 k1 x3_1 x4_1 x5_1 t190 y193 0 a0_0 a0_1 l0_2) = some r := by first | (rw [hy193]; with_reducible exact H) | (have H2_ := (Option.bind_some _ _).symm.trans H; rw [hy193]; with_reducible exact H2_) | (have H2_ := (Option.bind_some _ _).symm.trans H; with_reducible exact H2_) | with_reducible exact H | (rw [hy193]; exact H) | exact H
      have Ny193 := Aside0.mk hy193
      clear hy193
      have H' := Aside0.mk H
      clear H
      have hcz10_0 : wr.cell? ⟨gb186, 0, none⟩ = some (.int .i64 a0_0) := (blk_cell BK186.out 0).trans rfl
      have hcz10_1 : wr.cell? ⟨gb186, 1, none⟩ = some (.int .i64 a0_1) := (blk_cell BK186.out 1).trans rfl
      have hcz10_2 : wr.cell? ⟨gb186, 2, none⟩ = some (.slice A0_2 l0_2.length c0_2) := (blk_cell BK186.out 2).trans rfl
      have hfz10_0 := blk_frozen BK186.out 0
      have hfz10_1 := blk_frozen BK186.out 1
      have hfz10_2 := blk_frozen BK186.out 2
      go_wp2_with (first | ((with_reducible refine gate_callee (f := 30) rfl ?_); refine goesL_ (some 20) rfl rfl Try.func30 (by kernel_rfl) rfl #[.agg #[.int .i64 a0_0, .int .i64 a0_1, .slice A0_2 l0_2.length c0_2], .int .i64 x5_1] rfl (by (try simp only [List.map_toArray, List.map_cons, List.map_nil]); first | done | rfl | (simp only [List.length_drop, List.length_take]; rfl)) ?_; (with_reducible refine (davitref07_Without.calls k1 a0_0 a0_1 _ _ l0_2 x5_1 t190 _ ?side1 ?side2 A7.out).mono ?_); (case side1 => repeat (first | exact (Kd.C_below HR0_2.out HB.out) | (with_reducible refine Kd.C_alloc ?_ _) | (with_reducible refine Kd.C_drewN ?_ _) | (with_reducible refine Kd.C_drew ?_))); (case side2 => exact HC0_2.out); rintro e w11 ⟨v191, rfl, ho0, hb⟩; refine ⟨_, rfl, ?_⟩; have n0_ := Aside0.mk (Kd.R_elder' (by (with_reducible repeat (first | apply Kd.R_alloc | apply Kd.R_drewN | apply Kd.R_drew)); exact HO_3.out) (Kd.R_base ho0) hb); have n1_ := Aside0.mk (Kd.S_elder' (by (with_reducible repeat (first | apply Kd.S_alloc | apply Kd.S_drewN | apply Kd.S_drew)); exact HO_4.out) (Kd.R_base ho0) hb); have n2_ := Aside0.mk (Kd.R_lower (Kd.R_new' ho0 (Kd.R_lt (by (with_reducible repeat (first | apply Kd.R_alloc | apply Kd.R_drewN | apply Kd.R_drew)); exact HO_3.out))) (below_size (by repeat (first | (with_reducible first | exact HB.out | apply below_alloc | apply pw_below_drewN | apply below_drew1 | refine below_set ?_ GE186.out) | exact HB.out)))); have n3_ := Aside0.mk (blk_below (g := gb186) (o := .cells #[.int .i64 a0_0, .int .i64 a0_1, .slice A0_2 l0_2.length c0_2] 24 (0, 0)) (by (with_reducible repeat (first | refine blk_drewN ?_ _ | refine blk_drew ?_ | refine blk_alloc ?_ _)); exact BK186.out) hb); have n4_ := Aside0.mk (below_step (by repeat (first | (with_reducible first | exact HB.out | apply below_alloc | apply pw_below_drewN | apply below_drew1 | refine below_set ?_ GE186.out) | exact HB.out)) hb); clear HO_3; clear HO_4; clear BK186; clear HB; have HO_3 := n0_; have HO_4 := n1_; have HO192 := n2_; have BK186 := n3_; have HB := n4_; clear n0_ n1_ n2_ n3_ n4_; (try clear hb); (try clear hb2); (try clear hk); (try clear hi); (try clear ho0); have hcz12_0 : w11.cell? ⟨gb186, 0, none⟩ = some (.int .i64 a0_0) := (blk_cell BK186.out 0).trans rfl; have hcz12_1 : w11.cell? ⟨gb186, 1, none⟩ = some (.int .i64 a0_1) := (blk_cell BK186.out 1).trans rfl; have hcz12_2 : w11.cell? ⟨gb186, 2, none⟩ = some (.slice A0_2 l0_2.length c0_2) := (blk_cell BK186.out 2).trans rfl; have hfz12_0 := blk_frozen BK186.out 0; have hfz12_1 := blk_frozen BK186.out 1; have hfz12_2 := blk_frozen BK186.out 2) | ((with_reducible refine gate_dst (N := 24) rfl ?_); refine Kd.R_make Kd.bool _ 4 rfl (N := 24) rfl 32 _ _ rfl (l0_2.length : Int) rfl rfl Try.underlying32 (.bool false) 1 info4 rfl (by decide) (by omega) false (ok := fun _ => True) (okp := fun _ => True) rfl (fun _ hk => hk) trivial (of_decide_eq_true (by first | (with_reducible assumption) | assumption)) (Nat.le_trans (Nat.mul_le_mul_right _ (of_decide_eq_true (by first | (with_reducible assumption) | assumption) : (l0_2.length : Int).toNat ≤ 281474976710656)) (by omega)) (Below.refl _ _) (Nat.le_refl _) ?_; intro v194 w13 ho14 hb hg_ hnew_; clear hg_ hnew_; (first | rw [← Ny193.out] at ho14 | (simp only [Int.reduceToNat] at ho14; rw [← Ny193.out] at ho14)); have n0_ := Aside0.mk (Kd.R_elder' (by (with_reducible repeat (first | apply Kd.R_alloc | apply Kd.R_drewN | apply Kd.R_drew)); exact HO_3.out) (Kd.R_base ho14) hb); have n1_ := Aside0.mk (Kd.S_elder' (by (with_reducible repeat (first | apply Kd.S_alloc | apply Kd.S_drewN | apply Kd.S_drew)); exact HO_4.out) (Kd.R_base ho14) hb); have n2_ := Aside0.mk (Kd.R_elder' (by (with_reducible repeat (first | apply Kd.R_alloc | apply Kd.R_drewN | apply Kd.R_drew)); exact HO192.out) (Kd.R_base ho14) hb); have n3_ := Aside0.mk (Kd.R_lower (Kd.R_new' (Kd.R_new' ho14 (Kd.R_lt (by (with_reducible repeat (first | apply Kd.R_alloc | apply Kd.R_drewN | apply Kd.R_drew)); exact HO_3.out))) (Kd.R_lt (by (with_reducible repeat (first | apply Kd.R_alloc | apply Kd.R_drewN | apply Kd.R_drew)); exact HO192.out))) (below_size (by repeat (first | (with_reducible first | exact HB.out | apply below_alloc | apply pw_below_drewN | apply below_drew1 | refine below_set ?_ GE186.out) | exact HB.out)))); have n4_ := Aside0.mk (blk_below (g := gb186) (o := .cells #[.int .i64 a0_0, .int .i64 a0_1, .slice A0_2 l0_2.length c0_2] 24 (0, 0)) (by (with_reducible repeat (first | refine blk_drewN ?_ _ | refine blk_drew ?_ | refine blk_alloc ?_ _)); exact BK186.out) hb); have n5_ := Aside0.mk (below_step (by repeat (first | (with_reducible first | exact HB.out | apply below_alloc | apply pw_below_drewN | apply below_drew1 | refine below_set ?_ GE186.out) | exact HB.out)) hb); clear HO_3; clear HO_4; clear HO192; clear BK186; clear HB; have HO_3 := n0_; have HO_4 := n1_; have HO192 := n2_; have HO195 := n3_; have BK186 := n4_; have HB := n5_; clear n0_ n1_ n2_ n3_ n4_ n5_; clear hb ho14))
      go_loopg [8] k1 (fun kq v8 w' => ∃ (x7_2 : List Bool) (x8_2 : Int), v8 = .int .i64 x8_2 ∧ Aside0 (davitref08_All.l1 kq x3_1 x4_1 x5_1 t190 x7_2 x8_2 a0_0 a0_1 l0_2 = some r) ∧ Aside0 (kq ≤ k1) ∧ Aside0 (Kd.R Kd.bool 4 w' w.heap.size (fun k_ => some k_ ≠ (v191 : Value).ownBlock ∧ some k_ ≠ (v194 : Value).ownBlock) v188 x3_1) ∧ Aside0 (Kd.S (Kd.slice 4 Kd.bool) 32 w' w.heap.size (fun k_ => some k_ ≠ (v188 : Value).ownBlock ∧ some k_ ≠ (v191 : Value).ownBlock ∧ some k_ ≠ (v194 : Value).ownBlock) u4 x4_1) ∧ Aside0 (Kd.R Kd.bool 4 w' w.heap.size (fun k_ => some k_ ≠ (v188 : Value).ownBlock ∧ some k_ ≠ (v194 : Value).ownBlock) v191 t190) ∧ Aside0 (Kd.R Kd.bool 4 w' w.heap.size (fun k_ => some k_ ≠ (v188 : Value).ownBlock ∧ some k_ ≠ (v191 : Value).ownBlock) v194 x7_2) ∧ Aside0 (w'.heap[gb186]? = some (.cells #[.int .i64 a0_0, .int .i64 a0_1, (.slice A0_2 l0_2.length c0_2)] 24 (0, 0))) ∧ Aside0 (Below w.heap.size w w'))
      case atStart => exact ⟨(y193), (0), (by first | rfl | (simp; done) | (simp [*]; done)), H', ⟨Nat.le_refl _⟩, ⟨by (with_reducible repeat (first | apply Kd.R_alloc | apply Kd.R_drewN | apply Kd.R_drew)); exact Kd.R_mono HO_3.out (fun _ hk => ⟨hk.1.2, hk.2⟩)⟩, ⟨by (with_reducible repeat (first | apply Kd.S_alloc | apply Kd.S_drewN | apply Kd.S_drew)); exact Kd.S_mono HO_4.out (fun _ hk => ⟨hk.1.1, ⟨hk.1.2, hk.2⟩⟩)⟩, ⟨by (with_reducible repeat (first | apply Kd.R_alloc | apply Kd.R_drewN | apply Kd.R_drew)); exact Kd.R_mono HO192.out (fun _ hk => ⟨hk.1.2, hk.2⟩)⟩, ⟨by (with_reducible repeat (first | apply Kd.R_alloc | apply Kd.R_drewN | apply Kd.R_drew)); exact Kd.R_mono HO195.out (fun _ hk => ⟨hk.1.2, hk.2⟩)⟩, ⟨by (with_reducible repeat (first | refine blk_drewN ?_ _ | refine blk_drew ?_ | refine blk_alloc ?_ _)); exact BK186.out⟩, ⟨by repeat (first | (with_reducible first | exact HB.out | apply below_alloc | apply pw_below_drewN | apply below_drew1 | refine below_set ?_ GE186.out) | exact HB.out)⟩⟩
      case round =>
       clear H'
       try clear c2
       try clear p2
       try clear c3
       try clear c6
       try clear c6b0
       try clear c8
       try clear c8b0
       try clear c8b1
       try clear c9
       try clear c9b0
       try clear c9b1
       try clear hcz10_0
       try clear hcz10_1
       try clear hcz10_2
       try clear hcz12_0
       try clear hcz12_1
       try clear hcz12_2
       try clear hcz4_0
       try clear hcz4_1
       try clear hcz4_2
       try clear hfz10_0
       try clear hfz10_1
       try clear hfz10_2
       try clear hfz12_0
       try clear hfz12_1
       try clear hfz12_2
       try clear hfz4_0
       try clear hfz4_1
       try clear hfz4_2
       try clear p2
       obtain ⟨x7_2, x8_2, rfl, HA, HK2, HO_3, HO_4, HO_6, HO_7, BK186, HB⟩ := hrel
       cases gk with
       | zero => exact absurd HA.out (by simp [davitref08_All.l1])
       | succ k2 =>
        have H := HA.out
        clear HA
        simp only [davitref08_All.l1] at H
        by_cases c15 : x8_2 < (l0_2.length : Int)
        ·rw [if_pos c15] at H
         have c15b0 : decide (x8_2 < (l0_2.length : Int)) = true := decide_eq_true c15
         clear c15
         by_cases c16 : 0 ≤ x8_2
         ·rw [if_pos c16] at H
          have c16b0 : decide (0 ≤ x8_2) = true := decide_eq_true c16
          clear c16
          by_cases c17 : x8_2 < (x3_1.length : Int)
          ·rw [if_pos c17] at H
           have c17b0 : decide (x8_2 < (x3_1.length : Int)) = true := decide_eq_true c17
           clear c17
           obtain ⟨bq18, hbq18⟩ : ∃ b_ : Bool, b_ = (rdOf false x3_1 x8_2) := ⟨_, rfl⟩
           replace H : (if bq18 = true then (if x5_1 = x8_2 then (if x8_2 < (x7_2.length : Int) then (davitref08_All.l1 k2 x3_1 x4_1 x5_1 t190 (x7_2.set (x8_2 : Int).toNat true) (wrap64 (x8_2 + 1)) a0_0 a0_1 l0_2) else (none)) else (if x8_2 < (t190.length : Int) then (if x8_2 < (x7_2.length : Int) then (davitref08_All.l1 k2 x3_1 x4_1 x5_1 t190 (x7_2.set (x8_2 : Int).toNat (!(rdOf false t190 x8_2))) (wrap64 (x8_2 + 1)) a0_0 a0_1 l0_2) else (none)) else (none))) else (if x8_2 < (x7_2.length : Int) then (davitref08_All.l1 k2 x3_1 x4_1 x5_1 t190 (x7_2.set (x8_2 : Int).toNat false) (wrap64 (x8_2 + 1)) a0_0 a0_1 l0_2) else (none))) = some r := by rw [← hbq18] at H; exact H
           have Nbq18 := Aside0.mk hbq18
           clear hbq18
           by_cases c19 : bq18 = true
           ·subst c19
            have H1 : (if x5_1 = x8_2 then (if x8_2 < (x7_2.length : Int) then (davitref08_All.l1 k2 x3_1 x4_1 x5_1 t190 (x7_2.set (x8_2 : Int).toNat true) (wrap64 (x8_2 + 1)) a0_0 a0_1 l0_2) else (none)) else (if x8_2 < (t190.length : Int) then (if x8_2 < (x7_2.length : Int) then (davitref08_All.l1 k2 x3_1 x4_1 x5_1 t190 (x7_2.set (x8_2 : Int).toNat (!(rdOf false t190 x8_2))) (wrap64 (x8_2 + 1)) a0_0 a0_1 l0_2) else (none)) else (none))) = some r := by rw [if_pos rfl] at H; exact H
            clear H
            have H := H1
            clear H1
            by_cases c20 : x5_1 = x8_2
            ·rw [if_pos c20] at H
             have c20b0 : (x5_1 == x8_2) = true := beq_iff_eq.mpr c20
             have c20b1 : (x5_1 != x8_2) = false := bne_eq_false_iff_eq.mpr c20
             clear c20
             by_cases c21 : x8_2 < (x7_2.length : Int)
             ·rw [if_pos c21] at H
              have c21b0 : decide (x8_2 < (x7_2.length : Int)) = true := decide_eq_true c21
              clear c21
              obtain ⟨y197, hy197⟩ : ∃ y_ : List Bool, y_ = (x7_2.set (x8_2 : Int).toNat true) := ⟨_, rfl⟩
              replace H : (davitref08_All.l1 k2 x3_1 x4_1 x5_1 t190 y197 (wrap64 (x8_2 + 1)) a0_0 a0_1 l0_2) = some r := by first | (rw [hy197]; with_reducible exact H) | (have H2_ := (Option.bind_some _ _).symm.trans H; rw [hy197]; with_reducible exact H2_) | (have H2_ := (Option.bind_some _ _).symm.trans H; with_reducible exact H2_) | with_reducible exact H | (rw [hy197]; exact H) | exact H
              have Ny197 := Aside0.mk hy197
              clear hy197
              have H' := Aside0.mk H
              clear H
              have hcz23_0 : wr.cell? ⟨gb186, 0, none⟩ = some (.int .i64 a0_0) := (blk_cell BK186.out 0).trans rfl
              have hcz23_1 : wr.cell? ⟨gb186, 1, none⟩ = some (.int .i64 a0_1) := (blk_cell BK186.out 1).trans rfl
              have hcz23_2 : wr.cell? ⟨gb186, 2, none⟩ = some (.slice A0_2 l0_2.length c0_2) := (blk_cell BK186.out 2).trans rfl
              have hfz23_0 := blk_frozen BK186.out 0
              have hfz23_1 := blk_frozen BK186.out 1
              have hfz23_2 := blk_frozen BK186.out 2
              obtain ⟨Ao24, co24, eo24⟩ := Kd.R_slice HO_3.out
              subst eo24
              have p196 : 0 ≤ (x8_2 : Int) := of_decide_eq_true (by first | (with_reducible assumption) | assumption)
              have q196 : x8_2 < (x3_1.length : Int) := of_decide_eq_true (by first | (with_reducible assumption) | assumption)
              obtain ⟨ad196, e196, hx196_0⟩ := Kd.at_bool (Kd.R_reads' HO_3.out).2.2 x8_2 p196 q196
              (try rw [← Nbq18.out] at hx196_0)
              cases e196
              replace p196 := eq_true p196
              replace q196 := eq_true q196
              have p22 : 0 ≤ (x8_2 : Int) := of_decide_eq_true (by first | (with_reducible assumption) | assumption)
              have q22 : (x8_2 : Int) < ((x7_2.length : Int) : Int) := of_decide_eq_true (by first | (with_reducible assumption) | assumption)
              obtain ⟨go22, co22, eo22, gb22, gl22, cl22, HG22⟩ := Kd.R_form HO_7.out (by omega)
              (first | cases eo22 | (injection eo22 with ea_ en_ ec_; (first | subst ea_ | (injection ea_ with ea_; subst ea_)); subst ec_; clear en_))
              have GB22 := Aside0.mk gb22
              have GG22 := Aside0.mk HG22
              clear gb22 gl22 HG22
              obtain ⟨hx22_0, hf22_0⟩ := Kd.R_celln false HO_7.out (x8_2 : Int) p22 q22
              replace p22 := eq_true p22
              replace q22 := eq_true q22
              have HP25 := Kd.R_putg HO_7.out (x8_2 : Int) true
              go_wp2_with (first | ((with_reducible refine gate_store (t := 4) (p := 50) rfl ?_); refine store_event (t := 4) (p := 50) (v := ?vo_w26) (w1 := (wr.setCell ⟨go22, (x8_2 : Int).toNat, none⟩ (.bool true))) ?hg ?ho ?hn ?hr ?_; (case ho => rfl); (case hg => rfl); (case hn => rfl); (case hr => first | (go_simp; done) | (go_simp; rfl)); intro w26 hw; have hg : wr.grownBy w26 (some go22) := (by rw [hw]; exact HP25.2); have hp_ : Kd.R Kd.bool 4 w26 w.heap.size (fun k_ => some k_ ≠ (.slice (some ad196) x3_1.length co24 : Value).ownBlock ∧ some k_ ≠ (v191 : Value).ownBlock) (.slice (some ⟨go22, 0, none⟩) x7_2.length co22) y197 := (by rw [hw, Ny197.out]; exact HP25.1); clear HP25; have n0_ := Aside0.mk (Kd.R_after (v := (.slice (some ⟨go22, 0, none⟩) x7_2.length co22)) (v1 := (.slice (some ⟨go22, 0, none⟩) x7_2.length co22)) (ok := (fun k_ => some k_ ≠ (v191 : Value).ownBlock)) (by (with_reducible repeat (first | apply Kd.R_alloc | apply Kd.R_drewN | apply Kd.R_drew)); exact HO_3.out) hg (.inl rfl)); have n1_ := Aside0.mk (Kd.S_after (v := (.slice (some ⟨go22, 0, none⟩) x7_2.length co22)) (v1 := (.slice (some ⟨go22, 0, none⟩) x7_2.length co22)) (ok := (fun k_ => some k_ ≠ (.slice (some ad196) x3_1.length co24 : Value).ownBlock ∧ some k_ ≠ (v191 : Value).ownBlock)) (by (with_reducible repeat (first | apply Kd.S_alloc | apply Kd.S_drewN | apply Kd.S_drew)); exact Kd.S_mono HO_4.out (fun _ hk => ⟨⟨hk.1, hk.2.1⟩, hk.2.2⟩)) hg (.inl rfl)); have n2_ := Aside0.mk (Kd.R_after (v := (.slice (some ⟨go22, 0, none⟩) x7_2.length co22)) (v1 := (.slice (some ⟨go22, 0, none⟩) x7_2.length co22)) (ok := (fun k_ => some k_ ≠ (.slice (some ad196) x3_1.length co24 : Value).ownBlock)) (by (with_reducible repeat (first | apply Kd.R_alloc | apply Kd.R_drewN | apply Kd.R_drew)); exact HO_6.out) hg (.inl rfl)); have n3_ := Aside0.mk (hp_); have n4_ := Aside0.mk (blk_grown (g := gb186) (o := .cells #[.int .i64 a0_0, .int .i64 a0_1, .slice A0_2 l0_2.length c0_2] 24 (0, 0)) (by (with_reducible repeat (first | refine blk_drewN ?_ _ | refine blk_drew ?_ | refine blk_alloc ?_ _)); exact BK186.out) hg (Kd.R_ne HO_7.out BK186.out (by decide))); have n5_ := Aside0.mk ((by rw [hw]; exact below_set (HB.out) GB22.out : Below w.heap.size w w26)); clear HO_3; clear HO_4; clear HO_6; clear HO_7; clear BK186; clear HB; have HO_3 := n0_; have HO_4 := n1_; have HO_6 := n2_; have HO_7 := n3_; have BK186 := n4_; have HB := n5_; clear n0_ n1_ n2_ n3_ n4_ n5_; clear hg hw hp_))
              go_roundg k2
              case measure => have := HK1.out; have := HK2.out; omega
              case rel => exact ⟨(y197), (wrap64 (x8_2 + 1)), (by first | rfl | (simp; done) | (simp [*]; done)), H', ⟨by have := HK1.out; have := HK2.out; omega⟩, ⟨by (with_reducible repeat (first | apply Kd.R_alloc | apply Kd.R_drewN | apply Kd.R_drew)); exact HO_3.out⟩, ⟨by (with_reducible repeat (first | apply Kd.S_alloc | apply Kd.S_drewN | apply Kd.S_drew)); exact Kd.S_mono HO_4.out (fun _ hk => ⟨hk.1.1, ⟨hk.1.2, hk.2⟩⟩)⟩, ⟨by (with_reducible repeat (first | apply Kd.R_alloc | apply Kd.R_drewN | apply Kd.R_drew)); exact HO_6.out⟩, ⟨by (with_reducible repeat (first | apply Kd.R_alloc | apply Kd.R_drewN | apply Kd.R_drew)); exact HO_7.out⟩, ⟨by (with_reducible repeat (first | refine blk_drewN ?_ _ | refine blk_drew ?_ | refine blk_alloc ?_ _)); exact BK186.out⟩, ⟨by repeat (first | (with_reducible first | exact HB.out | apply below_alloc | apply pw_below_drewN | apply below_drew1 | refine below_set ?_ GE186.out) | exact HB.out)⟩⟩
             ·rw [if_neg c21] at H
              exact absurd H (by simp)
            ·rw [if_neg c20] at H
             have c20b0 : (x5_1 == x8_2) = false := beq_eq_false_iff_ne.mpr c20
             have c20b1 : (x5_1 != x8_2) = true := bne_iff_ne.mpr c20
             by_cases c27 : x8_2 < (t190.length : Int)
             ·rw [if_pos c27] at H
              have c27b0 : decide (x8_2 < (t190.length : Int)) = true := decide_eq_true c27
              clear c27
              by_cases c28 : x8_2 < (x7_2.length : Int)
              ·rw [if_pos c28] at H
               have c28b0 : decide (x8_2 < (x7_2.length : Int)) = true := decide_eq_true c28
               clear c28
               obtain ⟨y199, hy199⟩ : ∃ y_ : List Bool, y_ = (x7_2.set (x8_2 : Int).toNat (!(rdOf false t190 x8_2))) := ⟨_, rfl⟩
               replace H : (davitref08_All.l1 k2 x3_1 x4_1 x5_1 t190 y199 (wrap64 (x8_2 + 1)) a0_0 a0_1 l0_2) = some r := by first | (rw [hy199]; with_reducible exact H) | (have H2_ := (Option.bind_some _ _).symm.trans H; rw [hy199]; with_reducible exact H2_) | (have H2_ := (Option.bind_some _ _).symm.trans H; with_reducible exact H2_) | with_reducible exact H | (rw [hy199]; exact H) | exact H
               have Ny199 := Aside0.mk hy199
               clear hy199
               have H' := Aside0.mk H
               clear H
               have hcz30_0 : wr.cell? ⟨gb186, 0, none⟩ = some (.int .i64 a0_0) := (blk_cell BK186.out 0).trans rfl
               have hcz30_1 : wr.cell? ⟨gb186, 1, none⟩ = some (.int .i64 a0_1) := (blk_cell BK186.out 1).trans rfl
               have hcz30_2 : wr.cell? ⟨gb186, 2, none⟩ = some (.slice A0_2 l0_2.length c0_2) := (blk_cell BK186.out 2).trans rfl
               have hfz30_0 := blk_frozen BK186.out 0
               have hfz30_1 := blk_frozen BK186.out 1
               have hfz30_2 := blk_frozen BK186.out 2
               obtain ⟨Ao31, co31, eo31⟩ := Kd.R_slice HO_3.out
               subst eo31
               have p196 : 0 ≤ (x8_2 : Int) := of_decide_eq_true (by first | (with_reducible assumption) | assumption)
               have q196 : x8_2 < (x3_1.length : Int) := of_decide_eq_true (by first | (with_reducible assumption) | assumption)
               obtain ⟨ad196, e196, hx196_0⟩ := Kd.at_bool (Kd.R_reads' HO_3.out).2.2 x8_2 p196 q196
               (try rw [← Nbq18.out] at hx196_0)
               cases e196
               replace p196 := eq_true p196
               replace q196 := eq_true q196
               obtain ⟨Ao32, co32, eo32⟩ := Kd.R_slice HO_6.out
               subst eo32
               have p198 : 0 ≤ (x8_2 : Int) := of_decide_eq_true (by first | (with_reducible assumption) | assumption)
               have q198 : x8_2 < (t190.length : Int) := of_decide_eq_true (by first | (with_reducible assumption) | assumption)
               obtain ⟨ad198, e198, hx198_0⟩ := Kd.at_bool (Kd.R_reads' HO_6.out).2.2 x8_2 p198 q198
               (try rw [← Nbq18.out] at hx198_0)
               cases e198
               replace p198 := eq_true p198
               replace q198 := eq_true q198
               have p29 : 0 ≤ (x8_2 : Int) := of_decide_eq_true (by first | (with_reducible assumption) | assumption)
               have q29 : (x8_2 : Int) < ((x7_2.length : Int) : Int) := of_decide_eq_true (by first | (with_reducible assumption) | assumption)
               obtain ⟨go29, co29, eo29, gb29, gl29, cl29, HG29⟩ := Kd.R_form HO_7.out (by omega)
               (first | cases eo29 | (injection eo29 with ea_ en_ ec_; (first | subst ea_ | (injection ea_ with ea_; subst ea_)); subst ec_; clear en_))
               have GB29 := Aside0.mk gb29
               have GG29 := Aside0.mk HG29
               clear gb29 gl29 HG29
               obtain ⟨hx29_0, hf29_0⟩ := Kd.R_celln false HO_7.out (x8_2 : Int) p29 q29
               replace p29 := eq_true p29
               replace q29 := eq_true q29
               have HP33 := Kd.R_putg HO_7.out (x8_2 : Int) (!(rdOf false t190 x8_2))
               go_wp2_with (first | ((with_reducible refine gate_store (t := 4) (p := 50) rfl ?_); refine store_event (t := 4) (p := 50) (v := ?vo_w34) (w1 := (wr.setCell ⟨go29, (x8_2 : Int).toNat, none⟩ (.bool (!(rdOf false t190 x8_2))))) ?hg ?ho ?hn ?hr ?_; (case ho => rfl); (case hg => rfl); (case hn => rfl); (case hr => first | (go_simp; done) | (go_simp; rfl)); intro w34 hw; have hg : wr.grownBy w34 (some go29) := (by rw [hw]; exact HP33.2); have hp_ : Kd.R Kd.bool 4 w34 w.heap.size (fun k_ => some k_ ≠ (.slice (some ad196) x3_1.length co31 : Value).ownBlock ∧ some k_ ≠ (.slice (some ad198) t190.length co32 : Value).ownBlock) (.slice (some ⟨go29, 0, none⟩) x7_2.length co29) y199 := (by rw [hw, Ny199.out]; exact HP33.1); clear HP33; have n0_ := Aside0.mk (Kd.R_after (v := (.slice (some ⟨go29, 0, none⟩) x7_2.length co29)) (v1 := (.slice (some ⟨go29, 0, none⟩) x7_2.length co29)) (ok := (fun k_ => some k_ ≠ (.slice (some ad198) t190.length co32 : Value).ownBlock)) (by (with_reducible repeat (first | apply Kd.R_alloc | apply Kd.R_drewN | apply Kd.R_drew)); exact HO_3.out) hg (.inl rfl)); have n1_ := Aside0.mk (Kd.S_after (v := (.slice (some ⟨go29, 0, none⟩) x7_2.length co29)) (v1 := (.slice (some ⟨go29, 0, none⟩) x7_2.length co29)) (ok := (fun k_ => some k_ ≠ (.slice (some ad196) x3_1.length co31 : Value).ownBlock ∧ some k_ ≠ (.slice (some ad198) t190.length co32 : Value).ownBlock)) (by (with_reducible repeat (first | apply Kd.S_alloc | apply Kd.S_drewN | apply Kd.S_drew)); exact Kd.S_mono HO_4.out (fun _ hk => ⟨⟨hk.1, hk.2.1⟩, hk.2.2⟩)) hg (.inl rfl)); have n2_ := Aside0.mk (Kd.R_after (v := (.slice (some ⟨go29, 0, none⟩) x7_2.length co29)) (v1 := (.slice (some ⟨go29, 0, none⟩) x7_2.length co29)) (ok := (fun k_ => some k_ ≠ (.slice (some ad196) x3_1.length co31 : Value).ownBlock)) (by (with_reducible repeat (first | apply Kd.R_alloc | apply Kd.R_drewN | apply Kd.R_drew)); exact HO_6.out) hg (.inl rfl)); have n3_ := Aside0.mk (hp_); have n4_ := Aside0.mk (blk_grown (g := gb186) (o := .cells #[.int .i64 a0_0, .int .i64 a0_1, .slice A0_2 l0_2.length c0_2] 24 (0, 0)) (by (with_reducible repeat (first | refine blk_drewN ?_ _ | refine blk_drew ?_ | refine blk_alloc ?_ _)); exact BK186.out) hg (Kd.R_ne HO_7.out BK186.out (by decide))); have n5_ := Aside0.mk ((by rw [hw]; exact below_set (HB.out) GB29.out : Below w.heap.size w w34)); clear HO_3; clear HO_4; clear HO_6; clear HO_7; clear BK186; clear HB; have HO_3 := n0_; have HO_4 := n1_; have HO_6 := n2_; have HO_7 := n3_; have BK186 := n4_; have HB := n5_; clear n0_ n1_ n2_ n3_ n4_ n5_; clear hg hw hp_))
               go_roundg k2
               case measure => have := HK1.out; have := HK2.out; omega
               case rel => exact ⟨(y199), (wrap64 (x8_2 + 1)), (by first | rfl | (simp; done) | (simp [*]; done)), H', ⟨by have := HK1.out; have := HK2.out; omega⟩, ⟨by (with_reducible repeat (first | apply Kd.R_alloc | apply Kd.R_drewN | apply Kd.R_drew)); exact HO_3.out⟩, ⟨by (with_reducible repeat (first | apply Kd.S_alloc | apply Kd.S_drewN | apply Kd.S_drew)); exact Kd.S_mono HO_4.out (fun _ hk => ⟨hk.1.1, ⟨hk.1.2, hk.2⟩⟩)⟩, ⟨by (with_reducible repeat (first | apply Kd.R_alloc | apply Kd.R_drewN | apply Kd.R_drew)); exact HO_6.out⟩, ⟨by (with_reducible repeat (first | apply Kd.R_alloc | apply Kd.R_drewN | apply Kd.R_drew)); exact HO_7.out⟩, ⟨by (with_reducible repeat (first | refine blk_drewN ?_ _ | refine blk_drew ?_ | refine blk_alloc ?_ _)); exact BK186.out⟩, ⟨by repeat (first | (with_reducible first | exact HB.out | apply below_alloc | apply pw_below_drewN | apply below_drew1 | refine below_set ?_ GE186.out) | exact HB.out)⟩⟩
              ·rw [if_neg c28] at H
               exact absurd H (by simp)
             ·rw [if_neg c27] at H
              exact absurd H (by simp)
           ·replace c19 := Bool.eq_false_iff.mpr c19
            subst c19
            have H1 : (if x8_2 < (x7_2.length : Int) then (davitref08_All.l1 k2 x3_1 x4_1 x5_1 t190 (x7_2.set (x8_2 : Int).toNat false) (wrap64 (x8_2 + 1)) a0_0 a0_1 l0_2) else (none)) = some r := by rw [if_neg (show ¬ (false = true) by decide)] at H; exact H
            clear H
            have H := H1
            clear H1
            by_cases c35 : x8_2 < (x7_2.length : Int)
            ·rw [if_pos c35] at H
             have c35b0 : decide (x8_2 < (x7_2.length : Int)) = true := decide_eq_true c35
             clear c35
             obtain ⟨y200, hy200⟩ : ∃ y_ : List Bool, y_ = (x7_2.set (x8_2 : Int).toNat false) := ⟨_, rfl⟩
             replace H : (davitref08_All.l1 k2 x3_1 x4_1 x5_1 t190 y200 (wrap64 (x8_2 + 1)) a0_0 a0_1 l0_2) = some r := by first | (rw [hy200]; with_reducible exact H) | (have H2_ := (Option.bind_some _ _).symm.trans H; rw [hy200]; with_reducible exact H2_) | (have H2_ := (Option.bind_some _ _).symm.trans H; with_reducible exact H2_) | with_reducible exact H | (rw [hy200]; exact H) | exact H
             have Ny200 := Aside0.mk hy200
             clear hy200
             have H' := Aside0.mk H
             clear H
             have hcz37_0 : wr.cell? ⟨gb186, 0, none⟩ = some (.int .i64 a0_0) := (blk_cell BK186.out 0).trans rfl
             have hcz37_1 : wr.cell? ⟨gb186, 1, none⟩ = some (.int .i64 a0_1) := (blk_cell BK186.out 1).trans rfl
             have hcz37_2 : wr.cell? ⟨gb186, 2, none⟩ = some (.slice A0_2 l0_2.length c0_2) := (blk_cell BK186.out 2).trans rfl
             have hfz37_0 := blk_frozen BK186.out 0
             have hfz37_1 := blk_frozen BK186.out 1
             have hfz37_2 := blk_frozen BK186.out 2
             obtain ⟨Ao38, co38, eo38⟩ := Kd.R_slice HO_3.out
             subst eo38
             have p196 : 0 ≤ (x8_2 : Int) := of_decide_eq_true (by first | (with_reducible assumption) | assumption)
             have q196 : x8_2 < (x3_1.length : Int) := of_decide_eq_true (by first | (with_reducible assumption) | assumption)
             obtain ⟨ad196, e196, hx196_0⟩ := Kd.at_bool (Kd.R_reads' HO_3.out).2.2 x8_2 p196 q196
             (try rw [← Nbq18.out] at hx196_0)
             cases e196
             replace p196 := eq_true p196
             replace q196 := eq_true q196
             have p36 : 0 ≤ (x8_2 : Int) := of_decide_eq_true (by first | (with_reducible assumption) | assumption)
             have q36 : (x8_2 : Int) < ((x7_2.length : Int) : Int) := of_decide_eq_true (by first | (with_reducible assumption) | assumption)
             obtain ⟨go36, co36, eo36, gb36, gl36, cl36, HG36⟩ := Kd.R_form HO_7.out (by omega)
             (first | cases eo36 | (injection eo36 with ea_ en_ ec_; (first | subst ea_ | (injection ea_ with ea_; subst ea_)); subst ec_; clear en_))
             have GB36 := Aside0.mk gb36
             have GG36 := Aside0.mk HG36
             clear gb36 gl36 HG36
             obtain ⟨hx36_0, hf36_0⟩ := Kd.R_celln false HO_7.out (x8_2 : Int) p36 q36
             replace p36 := eq_true p36
             replace q36 := eq_true q36
             have HP39 := Kd.R_putg HO_7.out (x8_2 : Int) false
             go_wp2_with (first | ((with_reducible refine gate_store (t := 4) (p := 50) rfl ?_); refine store_event (t := 4) (p := 50) (v := ?vo_w40) (w1 := (wr.setCell ⟨go36, (x8_2 : Int).toNat, none⟩ (.bool false))) ?hg ?ho ?hn ?hr ?_; (case ho => rfl); (case hg => rfl); (case hn => rfl); (case hr => first | (go_simp; done) | (go_simp; rfl)); intro w40 hw; have hg : wr.grownBy w40 (some go36) := (by rw [hw]; exact HP39.2); have hp_ : Kd.R Kd.bool 4 w40 w.heap.size (fun k_ => some k_ ≠ (.slice (some ad196) x3_1.length co38 : Value).ownBlock ∧ some k_ ≠ (v191 : Value).ownBlock) (.slice (some ⟨go36, 0, none⟩) x7_2.length co36) y200 := (by rw [hw, Ny200.out]; exact HP39.1); clear HP39; have n0_ := Aside0.mk (Kd.R_after (v := (.slice (some ⟨go36, 0, none⟩) x7_2.length co36)) (v1 := (.slice (some ⟨go36, 0, none⟩) x7_2.length co36)) (ok := (fun k_ => some k_ ≠ (v191 : Value).ownBlock)) (by (with_reducible repeat (first | apply Kd.R_alloc | apply Kd.R_drewN | apply Kd.R_drew)); exact HO_3.out) hg (.inl rfl)); have n1_ := Aside0.mk (Kd.S_after (v := (.slice (some ⟨go36, 0, none⟩) x7_2.length co36)) (v1 := (.slice (some ⟨go36, 0, none⟩) x7_2.length co36)) (ok := (fun k_ => some k_ ≠ (.slice (some ad196) x3_1.length co38 : Value).ownBlock ∧ some k_ ≠ (v191 : Value).ownBlock)) (by (with_reducible repeat (first | apply Kd.S_alloc | apply Kd.S_drewN | apply Kd.S_drew)); exact Kd.S_mono HO_4.out (fun _ hk => ⟨⟨hk.1, hk.2.1⟩, hk.2.2⟩)) hg (.inl rfl)); have n2_ := Aside0.mk (Kd.R_after (v := (.slice (some ⟨go36, 0, none⟩) x7_2.length co36)) (v1 := (.slice (some ⟨go36, 0, none⟩) x7_2.length co36)) (ok := (fun k_ => some k_ ≠ (.slice (some ad196) x3_1.length co38 : Value).ownBlock)) (by (with_reducible repeat (first | apply Kd.R_alloc | apply Kd.R_drewN | apply Kd.R_drew)); exact HO_6.out) hg (.inl rfl)); have n3_ := Aside0.mk (hp_); have n4_ := Aside0.mk (blk_grown (g := gb186) (o := .cells #[.int .i64 a0_0, .int .i64 a0_1, .slice A0_2 l0_2.length c0_2] 24 (0, 0)) (by (with_reducible repeat (first | refine blk_drewN ?_ _ | refine blk_drew ?_ | refine blk_alloc ?_ _)); exact BK186.out) hg (Kd.R_ne HO_7.out BK186.out (by decide))); have n5_ := Aside0.mk ((by rw [hw]; exact below_set (HB.out) GB36.out : Below w.heap.size w w40)); clear HO_3; clear HO_4; clear HO_6; clear HO_7; clear BK186; clear HB; have HO_3 := n0_; have HO_4 := n1_; have HO_6 := n2_; have HO_7 := n3_; have BK186 := n4_; have HB := n5_; clear n0_ n1_ n2_ n3_ n4_ n5_; clear hg hw hp_))
             go_roundg k2
             case measure => have := HK1.out; have := HK2.out; omega
             case rel => exact ⟨(y200), (wrap64 (x8_2 + 1)), (by first | rfl | (simp; done) | (simp [*]; done)), H', ⟨by have := HK1.out; have := HK2.out; omega⟩, ⟨by (with_reducible repeat (first | apply Kd.R_alloc | apply Kd.R_drewN | apply Kd.R_drew)); exact HO_3.out⟩, ⟨by (with_reducible repeat (first | apply Kd.S_alloc | apply Kd.S_drewN | apply Kd.S_drew)); exact Kd.S_mono HO_4.out (fun _ hk => ⟨hk.1.1, ⟨hk.1.2, hk.2⟩⟩)⟩, ⟨by (with_reducible repeat (first | apply Kd.R_alloc | apply Kd.R_drewN | apply Kd.R_drew)); exact HO_6.out⟩, ⟨by (with_reducible repeat (first | apply Kd.R_alloc | apply Kd.R_drewN | apply Kd.R_drew)); exact HO_7.out⟩, ⟨by (with_reducible repeat (first | refine blk_drewN ?_ _ | refine blk_drew ?_ | refine blk_alloc ?_ _)); exact BK186.out⟩, ⟨by repeat (first | (with_reducible first | exact HB.out | apply below_alloc | apply pw_below_drewN | apply below_drew1 | refine below_set ?_ GE186.out) | exact HB.out)⟩⟩
            ·rw [if_neg c35] at H
             exact absurd H (by simp)
          ·rw [if_neg c17] at H
           exact absurd H (by simp)
         ·rw [if_neg c16] at H
          exact absurd H (by simp)
        ·rw [if_neg c15] at H
         have c15b0 : decide (x8_2 < (l0_2.length : Int)) = false := decide_eq_false c15
         clear c15
         by_cases c41 : x4_1.length < 5864062014805
         ·rw [if_pos c41] at H
          have LMc41 := Aside0.mk c41
          clear c41
          obtain ⟨y201, hy201⟩ : ∃ y_ : List (List Bool), y_ = (x4_1 ++ [x7_2]) := ⟨_, rfl⟩
          replace H : (davitref08_All.l0 k2 x3_1 y201 (wrap64 (x5_1 + 1)) a0_0 a0_1 l0_2) = some r := by first | (rw [hy201]; with_reducible exact H) | (have H2_ := (Option.bind_some _ _).symm.trans H; rw [hy201]; with_reducible exact H2_) | (have H2_ := (Option.bind_some _ _).symm.trans H; with_reducible exact H2_) | with_reducible exact H | (rw [hy201]; exact H) | exact H
          have Ny201 := Aside0.mk hy201
          clear hy201
          have H' := Aside0.mk H
          clear H
          have hcz42_0 : wr.cell? ⟨gb186, 0, none⟩ = some (.int .i64 a0_0) := (blk_cell BK186.out 0).trans rfl
          have hcz42_1 : wr.cell? ⟨gb186, 1, none⟩ = some (.int .i64 a0_1) := (blk_cell BK186.out 1).trans rfl
          have hcz42_2 : wr.cell? ⟨gb186, 2, none⟩ = some (.slice A0_2 l0_2.length c0_2) := (blk_cell BK186.out 2).trans rfl
          have hfz42_0 := blk_frozen BK186.out 0
          have hfz42_1 := blk_frozen BK186.out 1
          have hfz42_2 := blk_frozen BK186.out 2
          obtain ⟨Ao44, co44, eo44⟩ := Kd.R_slice HO_7.out
          subst eo44
          go_wp2_with (first | ((with_reducible refine gate_builtin (b := .append) (xs := #[.tmp 51, .tmp 53]) rfl ?_); at_builtin; refine Kd.S_append (Kd.slice 4 Kd.bool) (w0 := w) w.heap.size rfl (.tmp 51) (.tmp 53) 56 32 (.slice none 0 0) 24 rfl Try.underlying56 info32 rfl (by decide) (by omega) u4 x4_1 x7_2 [.slice Ao44 x7_2.length co44] (fun k_ => some k_ ≠ (v188 : Value).ownBlock ∧ some k_ ≠ (v191 : Value).ownBlock) (fun k_ => some k_ = (.slice Ao44 x7_2.length co44 : Value).ownBlock) rfl rfl ?aP (fun k_ hk_ => ((Kd.R_mono (ok' := fun k_ => ((fun k_ => some k_ ≠ (v188 : Value).ownBlock ∧ some k_ ≠ (v191 : Value).ownBlock)) k_ ∧ some k_ ≠ (u4 : Value).ownBlock) (Kd.R_apart' (HO_7.out) (Kd.S_typed HO_4.out) (by decide)) (fun k_ hk => ⟨⟨hk.1.1, hk.1.2⟩, hk.2⟩))).1 k_ hk_.symm) ?aF ?aO ?aB ?aS ?aL ?_; (case aP => exact Kd.M_row (Kd.R_mono (Kd.R_tight rfl (Kd.R_mono (ok' := fun k_ => ((fun k_ => some k_ ≠ (v188 : Value).ownBlock ∧ some k_ ≠ (v191 : Value).ownBlock)) k_ ∧ some k_ ≠ (u4 : Value).ownBlock) (Kd.R_apart' (HO_7.out) (Kd.S_typed HO_4.out) (by decide)) (fun k_ hk => ⟨⟨hk.1.1, hk.1.2⟩, hk.2⟩))) (fun _ h_ => h_))); (case aB => exact (by repeat (first | (with_reducible first | exact HB.out | apply below_alloc | apply pw_below_drewN | apply below_drew1 | refine below_set ?_ GE186.out) | exact HB.out))); (case aF => exact (fun k_ hk => ⟨Kd.fresh' (Kd.R_lt (by (with_reducible repeat (first | apply Kd.R_alloc | apply Kd.R_drewN | apply Kd.R_drew)); exact HO_3.out)) k_ hk, Kd.fresh' (Kd.R_lt (by (with_reducible repeat (first | apply Kd.R_alloc | apply Kd.R_drewN | apply Kd.R_drew)); exact HO_6.out)) k_ hk⟩)); (case aO => exact (by (with_reducible repeat (first | apply Kd.S_alloc | apply Kd.S_drewN | apply Kd.S_drew)); exact Kd.S_mono HO_4.out (fun k_ hk => ⟨⟨hk.1, hk.2.1⟩, fun e_ => hk.2.2 e_⟩))); (case aS => exact (below_size (by repeat (first | (with_reducible first | exact HB.out | apply below_alloc | apply pw_below_drewN | apply below_drew1 | refine below_set ?_ GE186.out) | exact HB.out)))); (case aL => have := LMc41.out; omega); intro v202 w43 ho hb hg hat; rw [← Ny201.out] at ho; have n0_ := Aside0.mk (Kd.R_over' (by (with_reducible repeat (first | apply Kd.R_alloc | apply Kd.R_drewN | apply Kd.R_drew)); exact HO_3.out) (Kd.S_typed (by (with_reducible repeat (first | apply Kd.S_alloc | apply Kd.S_drewN | apply Kd.S_drew)); exact HO_4.out)) (by decide) hg); have n1_ := Aside0.mk (Kd.R_over' (by (with_reducible repeat (first | apply Kd.R_alloc | apply Kd.R_drewN | apply Kd.R_drew)); exact HO_6.out) (Kd.S_typed (by (with_reducible repeat (first | apply Kd.S_alloc | apply Kd.S_drewN | apply Kd.S_drew)); exact HO_4.out)) (by decide) hg); have n2_ := Aside0.mk (blk_grown (g := gb186) (o := .cells #[.int .i64 a0_0, .int .i64 a0_1, .slice A0_2 l0_2.length c0_2] 24 (0, 0)) (by (with_reducible repeat (first | refine blk_drewN ?_ _ | refine blk_drew ?_ | refine blk_alloc ?_ _)); exact BK186.out) hg (Kd.S_ne HO_4.out BK186.out (by decide))); have n3_ := Aside0.mk (hb); have n4_ := Aside0.mk (ho); clear HO_3; clear HO_6; clear BK186; clear HB; clear HO_4; clear HO_7; have HO_3 := n0_; have HO_6 := n1_; have BK186 := n2_; have HB := n3_; have HO203 := n4_; clear n0_ n1_ n2_ n3_ n4_; clear ho hb hg hat))
          go_roundg k2
          case measure => have := HK1.out; have := HK2.out; omega
          case rel => exact ⟨(x3_1), (y201), (wrap64 (x5_1 + 1)), (by first | rfl | (simp; done) | (simp [*]; done)), H', ⟨by have := HK1.out; have := HK2.out; omega⟩, ⟨by (with_reducible repeat (first | apply Kd.R_alloc | apply Kd.R_drewN | apply Kd.R_drew)); exact Kd.R_mono HO_3.out (fun _ hk => trivial)⟩, ⟨by (with_reducible repeat (first | apply Kd.S_alloc | apply Kd.S_drewN | apply Kd.S_drew)); exact Kd.S_mono HO203.out (fun _ hk => hk.1)⟩, ⟨by (with_reducible repeat (first | refine blk_drewN ?_ _ | refine blk_drew ?_ | refine blk_alloc ?_ _)); exact BK186.out⟩, ⟨by repeat (first | (with_reducible first | exact HB.out | apply below_alloc | apply pw_below_drewN | apply below_drew1 | refine below_set ?_ GE186.out) | exact HB.out)⟩⟩
         ·rw [if_neg c41] at H
          exact absurd H (by simp)
     ·rw [if_neg c9] at H
      exact absurd H (by simp)
    ·rw [if_neg c8] at H
     exact absurd H (by simp)
   ·rw [if_neg c6] at H
    have c6b0 : decide (x5_1 < (l0_2.length : Int)) = false := decide_eq_false c6
    clear c6
    obtain rfl := Option.some.inj H
    have hcz45_0 : wr.cell? ⟨gb186, 0, none⟩ = some (.int .i64 a0_0) := (blk_cell BK186.out 0).trans rfl
    have hcz45_1 : wr.cell? ⟨gb186, 1, none⟩ = some (.int .i64 a0_1) := (blk_cell BK186.out 1).trans rfl
    have hcz45_2 : wr.cell? ⟨gb186, 2, none⟩ = some (.slice A0_2 l0_2.length c0_2) := (blk_cell BK186.out 2).trans rfl
    have hfz45_0 := blk_frozen BK186.out 0
    have hfz45_1 := blk_frozen BK186.out 1
    have hfz45_2 := blk_frozen BK186.out 2
    go_wp2
    go_ret
    exact ⟨_, by first | rfl | (simp [errW_none, errW_some] <;> rfl) | (simp [*, errW_none, errW_some] <;> rfl), by (with_reducible repeat (first | apply Kd.S_alloc | apply Kd.S_drewN | apply Kd.S_drew)); exact Kd.S_mono HO_4.out (fun _ hk => trivial), by repeat (first | (with_reducible first | exact HB.out | apply below_alloc | apply pw_below_drewN | apply below_drew1 | refine below_set ?_ GE186.out) | exact HB.out)⟩
end
end Go.Proofs.Ytilopoegoddggaa.X
namespace Go.Proofs.Ytilopoegoddggaa.X
open Go.RowKit Go.Proofs.YtilopoegoddggaaW.PrintWords Go.Proofs.YtilopoegoddggaaW.PrintLast Go.Proofs.YtilopoegoddggaaW.PrintMore
attribute [local go_sem] max2_int min2_int max_two min_two max_three min_three max_four min_four
set_option linter.all false
noncomputable section
mutual
def davitref09_comes.l0 : Nat → Int → List Bool → Bool → Int → Int → List (S50) → Option (List Bool)
 | 0, _, _, _, _, _, _ => none
 | k + 1, x2, x7, x8, x368000, x368001, x368002 => if x8 = true then (davitref09_comes.l1 k x2 x7 false 0 x368000 x368001 x368002) else (some x7)
def davitref09_comes.l1 : Nat → Int → List Bool → Bool → Int → Int → Int → List (S50) → Option (List Bool)
 | 0, _, _, _, _, _, _, _ => none
 | k + 1, x2, x7, x8, x9, x368000, x368001, x368002 => if x9 < (x7.length : Int) then (if 0 ≤ x9 then (if rdOf false x7 x9 = true then (davitref09_comes.j2 k x2 x7 x8 x9 true x368000 x368001 x368002) else (davitref09_comes.j2 k x2 x7 x8 x9 (x9 == x2) x368000 x368001 x368002)) else (none)) else (davitref09_comes.l0 k x2 x7 x8 x368000 x368001 x368002)
def davitref09_comes.j2 : Nat → Int → List Bool → Bool → Int → Bool → Int → Int → List (S50) → Option (List Bool)
 | 0, _, _, _, _, _, _, _, _ => none
 | k + 1, x2, x7, x8, x9, x38, x368000, x368001, x368002 => if x38 = true then (davitref09_comes.l1 k x2 x7 x8 (wrap64 (x9 + 1)) x368000 x368001 x368002) else ((davitref07_Next.f k x368000 x368001 x368002 x9).bind fun t373 => (davitref09_comes.l2 k x2 x7 x8 x9 t373 0 x368000 x368001 x368002))
def davitref09_comes.l2 : Nat → Int → List Bool → Bool → Int → List Int → Int → Int → Int → List (S50) → Option (List Bool)
 | 0, _, _, _, _, _, _, _, _, _ => none
 | k + 1, x2, x7, x8, x9, x10, x11, x368000, x368001, x368002 => if x11 < (x10.length : Int) then (if 0 ≤ x11 then (if 0 ≤ (rd x10 x11) then (if (rd x10 x11) < (x7.length : Int) then (if rdOf false x7 (rd x10 x11) = true then (if 0 ≤ x9 then (if x9 < (x7.length : Int) then (davitref09_comes.l2 k x2 (x7.set (x9 : Int).toNat true) true x9 x10 (wrap64 (x11 + 1)) x368000 x368001 x368002) else (none)) else (none)) else (davitref09_comes.l2 k x2 x7 x8 x9 x10 (wrap64 (x11 + 1)) x368000 x368001 x368002)) else (none)) else (none)) else (none)) else (davitref09_comes.l1 k x2 x7 x8 (wrap64 (x9 + 1)) x368000 x368001 x368002)
end
def davitref09_comes.f (k : Nat) (a0_0 : Int) (a0_1 : Int) (l0_2 : List (S50)) (a1 : Int) (a2 : Int) : Option (List Bool) := if 0 ≤ (l0_2.length : Int) then (if ((l0_2.length : Int) : Int).toNat ≤ 281474976710656 then ((some (List.replicate ((l0_2.length : Int) : Int).toNat false : List Bool)).bind fun y368 => (if a1 = a2 then (some y368) else (if 0 ≤ a1 then (if a1 < (y368.length : Int) then (davitref09_comes.l0 k a2 (y368.set (a1 : Int).toNat true) true a0_0 a0_1 l0_2) else (none)) else (none)))) else (none)) else (none)
theorem davitref09_comes.mono_l : ∀ k, (∀ y0 y1 y2 y3 y4 y5, LeO (davitref09_comes.l0 k y0 y1 y2 y3 y4 y5) (davitref09_comes.l0 (k + 1) y0 y1 y2 y3 y4 y5)) ∧ (∀ y0 y1 y2 y3 y4 y5 y6, LeO (davitref09_comes.l1 k y0 y1 y2 y3 y4 y5 y6) (davitref09_comes.l1 (k + 1) y0 y1 y2 y3 y4 y5 y6)) ∧ (∀ y0 y1 y2 y3 y4 y5 y6 y7, LeO (davitref09_comes.j2 k y0 y1 y2 y3 y4 y5 y6 y7) (davitref09_comes.j2 (k + 1) y0 y1 y2 y3 y4 y5 y6 y7)) ∧ (∀ y0 y1 y2 y3 y4 y5 y6 y7 y8, LeO (davitref09_comes.l2 k y0 y1 y2 y3 y4 y5 y6 y7 y8) (davitref09_comes.l2 (k + 1) y0 y1 y2 y3 y4 y5 y6 y7 y8))
 | 0 => ⟨fun _ _ _ _ _ _ r h => by simp [davitref09_comes.l0] at h, fun _ _ _ _ _ _ _ r h => by simp [davitref09_comes.l1] at h, fun _ _ _ _ _ _ _ _ r h => by simp [davitref09_comes.j2] at h, fun _ _ _ _ _ _ _ _ _ r h => by simp [davitref09_comes.l2] at h⟩
 | k + 1 => by
  obtain ⟨ih0, ih1, ih2, ih3⟩ := davitref09_comes.mono_l k
  refine ⟨?_, ?_, ?_, ?_⟩
  ·intro y0 y1 y2 y3 y4 y5
   unfold davitref09_comes.l0
   repeat' first
   | (with_reducible exact ih0 _ _ _ _ _ _)
   | (with_reducible exact ih1 _ _ _ _ _ _ _)
   | (with_reducible exact ih2 _ _ _ _ _ _ _ _)
   | (with_reducible exact ih3 _ _ _ _ _ _ _ _ _)
   | (with_reducible exact davitref07_Next.mono _ _ _ _ _)
   | (with_reducible exact LeO.refl _)
   | (with_reducible exact LeO.none _)
   | (with_reducible refine LeO.ite ?_ ?_)
   | (with_reducible refine LeO.bind ?_ (fun _ => ?_))
   | exact ih0 _ _ _ _ _ _
   | exact ih1 _ _ _ _ _ _ _
   | exact ih2 _ _ _ _ _ _ _ _
   | exact ih3 _ _ _ _ _ _ _ _ _
   | exact davitref07_Next.mono _ _ _ _ _
   | exact LeO.none _
   | refine LeO.ite ?_ ?_
   | refine LeO.bind ?_ (fun _ => ?_)
  ·intro y0 y1 y2 y3 y4 y5 y6
   unfold davitref09_comes.l1
   repeat' first
   | (with_reducible exact ih0 _ _ _ _ _ _)
   | (with_reducible exact ih1 _ _ _ _ _ _ _)
   | (with_reducible exact ih2 _ _ _ _ _ _ _ _)
   | (with_reducible exact ih3 _ _ _ _ _ _ _ _ _)
   | (with_reducible exact davitref07_Next.mono _ _ _ _ _)
   | (with_reducible exact LeO.refl _)
   | (with_reducible exact LeO.none _)
   | (with_reducible refine LeO.ite ?_ ?_)
   | (with_reducible refine LeO.bind ?_ (fun _ => ?_))
   | exact ih0 _ _ _ _ _ _
   | exact ih1 _ _ _ _ _ _ _
   | exact ih2 _ _ _ _ _ _ _ _
   | exact ih3 _ _ _ _ _ _ _ _ _
   | exact davitref07_Next.mono _ _ _ _ _
   | exact LeO.none _
   | refine LeO.ite ?_ ?_
   | refine LeO.bind ?_ (fun _ => ?_)
  ·intro y0 y1 y2 y3 y4 y5 y6 y7
   unfold davitref09_comes.j2
   repeat' first
   | (with_reducible exact ih0 _ _ _ _ _ _)
   | (with_reducible exact ih1 _ _ _ _ _ _ _)
   | (with_reducible exact ih2 _ _ _ _ _ _ _ _)
   | (with_reducible exact ih3 _ _ _ _ _ _ _ _ _)
   | (with_reducible exact davitref07_Next.mono _ _ _ _ _)
   | (with_reducible exact LeO.refl _)
   | (with_reducible exact LeO.none _)
   | (with_reducible refine LeO.ite ?_ ?_)
   | (with_reducible refine LeO.bind ?_ (fun _ => ?_))
   | exact ih0 _ _ _ _ _ _
   | exact ih1 _ _ _ _ _ _ _
   | exact ih2 _ _ _ _ _ _ _ _
   | exact ih3 _ _ _ _ _ _ _ _ _
   | exact davitref07_Next.mono _ _ _ _ _
   | exact LeO.none _
   | refine LeO.ite ?_ ?_
   | refine LeO.bind ?_ (fun _ => ?_)
  ·intro y0 y1 y2 y3 y4 y5 y6 y7 y8
   unfold davitref09_comes.l2
   repeat' first
   | (with_reducible exact ih0 _ _ _ _ _ _)
   | (with_reducible exact ih1 _ _ _ _ _ _ _)
   | (with_reducible exact ih2 _ _ _ _ _ _ _ _)
   | (with_reducible exact ih3 _ _ _ _ _ _ _ _ _)
   | (with_reducible exact davitref07_Next.mono _ _ _ _ _)
   | (with_reducible exact LeO.refl _)
   | (with_reducible exact LeO.none _)
   | (with_reducible refine LeO.ite ?_ ?_)
   | (with_reducible refine LeO.bind ?_ (fun _ => ?_))
   | exact ih0 _ _ _ _ _ _
   | exact ih1 _ _ _ _ _ _ _
   | exact ih2 _ _ _ _ _ _ _ _
   | exact ih3 _ _ _ _ _ _ _ _ _
   | exact davitref07_Next.mono _ _ _ _ _
   | exact LeO.none _
   | refine LeO.ite ?_ ?_
   | refine LeO.bind ?_ (fun _ => ?_)
theorem davitref09_comes.mono : ∀ a0 a1 a2 a3 a4 k, LeO (davitref09_comes.f k a0 a1 a2 a3 a4) (davitref09_comes.f (k + 1) a0 a1 a2 a3 a4) := by
 intro a0 a1 a2 a3 a4 k
 obtain ⟨ih0, ih1, ih2, ih3⟩ := davitref09_comes.mono_l k
 unfold davitref09_comes.f
 repeat' first
   | (with_reducible exact ih0 _ _ _ _ _ _)
   | (with_reducible exact ih1 _ _ _ _ _ _ _)
   | (with_reducible exact ih2 _ _ _ _ _ _ _ _)
   | (with_reducible exact ih3 _ _ _ _ _ _ _ _ _)
   | (with_reducible exact davitref07_Next.mono _ _ _ _ _)
   | (with_reducible exact LeO.refl _)
   | (with_reducible exact LeO.none _)
   | (with_reducible refine LeO.ite ?_ ?_)
   | (with_reducible refine LeO.bind ?_ (fun _ => ?_))
   | exact ih0 _ _ _ _ _ _
   | exact ih1 _ _ _ _ _ _ _
   | exact ih2 _ _ _ _ _ _ _ _
   | exact ih3 _ _ _ _ _ _ _ _ _
   | exact davitref07_Next.mono _ _ _ _ _
   | exact LeO.none _
   | refine LeO.ite ?_ ?_
   | refine LeO.bind ?_ (fun _ => ?_)
set_option maxHeartbeats 8000000 in
set_option maxRecDepth 100000 in
theorem davitref09_comes.calls (k : Nat) (a0_0 : Int) (a0_1 : Int) (A0_2 : Option Addr) (c0_2 : Nat) (l0_2 : List (S50)) (a1 : Int) (a2 : Int) (r : List Bool) (w : World) (hr0_2 : Kd.C k50 w A0_2 l0_2.length l0_2) (hc0_2 : l0_2.length ≤ c0_2) (h : davitref09_comes.f k a0_0 a0_1 l0_2 a1 a2 = some r) :
  Calls Try.prog 42 #[.agg #[.int .i64 a0_0, .int .i64 a0_1, .slice A0_2 l0_2.length c0_2], .int .i64 a1, .int .i64 a2] w fun e w' => ∃ v0_ : Value, e = .returned (v0_) ∧ Kd.R Kd.bool 4 w' w.heap.size (fun _ => True) v0_ r ∧ Below w.heap.size w w' := by
 have hu24 := Try.underlying24
 have HR0_2 := Aside0.mk hr0_2
 have HC0_2 := Aside0.mk hc0_2
 clear hr0_2 hc0_2
 have HB := Aside0.mk (Below.refl w.heap.size w)
 have H : (if 0 ≤ (l0_2.length : Int) then (if ((l0_2.length : Int) : Int).toNat ≤ 281474976710656 then ((some (List.replicate ((l0_2.length : Int) : Int).toNat false : List Bool)).bind fun y368 => (if a1 = a2 then (some y368) else (if 0 ≤ a1 then (if a1 < (y368.length : Int) then (davitref09_comes.l0 k a2 (y368.set (a1 : Int).toNat true) true a0_0 a0_1 l0_2) else (none)) else (none)))) else (none)) else (none)) = some r := h
 clear h
 by_cases c4 : 0 ≤ (l0_2.length : Int)
 ·rw [if_pos c4] at H
  have c4b0 := eq_true c4
  have c4b1 : decide (0 ≤ (l0_2.length : Int)) = true := decide_eq_true c4
  clear c4
  by_cases c5 : ((l0_2.length : Int) : Int).toNat ≤ 281474976710656
  ·rw [if_pos c5] at H
   have c5b0 := eq_true c5
   have c5b1 : decide (((l0_2.length : Int) : Int).toNat ≤ 281474976710656) = true := decide_eq_true c5
   clear c5
   obtain ⟨y368, hy368⟩ : ∃ y_ : List Bool, y_ = (List.replicate ((l0_2.length : Int) : Int).toNat false) := ⟨_, rfl⟩
   replace H : (if a1 = a2 then (some y368) else (if 0 ≤ a1 then (if a1 < (y368.length : Int) then (davitref09_comes.l0 k a2 (y368.set (a1 : Int).toNat true) true a0_0 a0_1 l0_2) else (none)) else (none))) = some r := by first | (rw [hy368]; with_reducible exact H) | (have H2_ := (Option.bind_some _ _).symm.trans H; rw [hy368]; with_reducible exact H2_) | (have H2_ := (Option.bind_some _ _).symm.trans H; with_reducible exact H2_) | with_reducible exact H | (rw [hy368]; exact H) | exact H
   have Ny368 := Aside0.mk hy368
   clear hy368
   by_cases c6 : a1 = a2
   ·rw [if_pos c6] at H
    have c6b0 : (a1 == a2) = true := beq_iff_eq.mpr c6
    have c6b1 : (a1 != a2) = false := bne_eq_false_iff_eq.mpr c6
    clear c6
    obtain rfl := Option.some.inj H
    go_enter Try.func42, Try.ntmps42
    go_wp2_with (first | ((with_reducible refine gate_dst (N := 3) rfl ?_); refine box_event ?hg (N := 3) ?hd (cs := #[.int .i64 a0_0, .int .i64 a0_1, .slice A0_2 l0_2.length c0_2]) (t := 24) ?hr ?_; (case hd => rfl); (case hg => rfl); (case hr => first | (go_simp; done) | (go_simp; rfl)); intro gb367 hg w7 hbox hb; have n0_ := Aside0.mk (below_step (by repeat (first | (with_reducible first | exact HB.out | apply below_alloc | apply pw_below_drewN | apply below_drew1) | exact HB.out)) hb); have n1_ := Aside0.mk (hbox); have n2_ := Aside0.mk ((by rw [hg]; exact (below_size (by repeat (first | (with_reducible first | exact HB.out | apply below_alloc | apply pw_below_drewN | apply below_drew1) | exact HB.out))) : w.heap.size ≤ gb367)); have n3_ := Aside0.mk ((by rw [hg]; exact (below_size (by repeat (first | (with_reducible first | exact HB.out | apply below_alloc | apply pw_below_drewN | apply below_drew1) | exact HB.out))) : w.heap.size ≤ gb367)); clear HB; have HB := n0_; have BK367 := n1_; have GW367 := n2_; have GE367 := n3_; clear n0_ n1_ n2_ n3_; clear hb hbox hg; have hcz8_0 : w7.cell? ⟨gb367, 0, none⟩ = some (.int .i64 a0_0) := (blk_cell BK367.out 0).trans rfl; have hcz8_1 : w7.cell? ⟨gb367, 1, none⟩ = some (.int .i64 a0_1) := (blk_cell BK367.out 1).trans rfl; have hcz8_2 : w7.cell? ⟨gb367, 2, none⟩ = some (.slice A0_2 l0_2.length c0_2) := (blk_cell BK367.out 2).trans rfl; have hfz8_0 := blk_frozen BK367.out 0; have hfz8_1 := blk_frozen BK367.out 1; have hfz8_2 := blk_frozen BK367.out 2) | ((with_reducible refine gate_dst (N := 15) rfl ?_); refine Kd.R_make Kd.bool _ 4 rfl (N := 15) rfl 32 _ _ rfl (l0_2.length : Int) rfl rfl Try.underlying32 (.bool false) 1 info4 rfl (by decide) (by omega) false (ok := fun _ => True) (okp := fun _ => True) rfl (fun _ hk => hk) trivial (of_decide_eq_true (by first | (with_reducible assumption) | assumption)) (Nat.le_trans (Nat.mul_le_mul_right _ (of_decide_eq_true (by first | (with_reducible assumption) | assumption) : (l0_2.length : Int).toNat ≤ 281474976710656)) (by omega)) (Below.refl _ _) (Nat.le_refl _) ?_; intro v369 w9 ho10 hb hg_ hnew_; clear hg_ hnew_; (first | rw [← Ny368.out] at ho10 | (simp only [Int.reduceToNat] at ho10; rw [← Ny368.out] at ho10)); have n0_ := Aside0.mk (Kd.R_lower ho10 (below_size (by repeat (first | (with_reducible first | exact HB.out | apply below_alloc | apply pw_below_drewN | apply below_drew1 | refine below_set ?_ GE367.out) | exact HB.out)))); have n1_ := Aside0.mk (blk_below (g := gb367) (o := .cells #[.int .i64 a0_0, .int .i64 a0_1, .slice A0_2 l0_2.length c0_2] 24 (0, 0)) (by (with_reducible repeat (first | refine blk_drewN ?_ _ | refine blk_drew ?_ | refine blk_alloc ?_ _)); exact BK367.out) hb); have n2_ := Aside0.mk (below_step (by repeat (first | (with_reducible first | exact HB.out | apply below_alloc | apply pw_below_drewN | apply below_drew1 | refine below_set ?_ GE367.out) | exact HB.out)) hb); clear BK367; clear HB; have HO370 := n0_; have BK367 := n1_; have HB := n2_; clear n0_ n1_ n2_; clear hb ho10))
    go_ret
    exact ⟨_, by first | rfl | (simp [errW_none, errW_some] <;> rfl) | (simp [*, errW_none, errW_some] <;> rfl), by (with_reducible repeat (first | apply Kd.R_alloc | apply Kd.R_drewN | apply Kd.R_drew)); exact HO370.out, by repeat (first | (with_reducible first | exact HB.out | apply below_alloc | apply pw_below_drewN | apply below_drew1 | refine below_set ?_ GE367.out) | exact HB.out)⟩
   ·rw [if_neg c6] at H
    have c6b0 : (a1 == a2) = false := beq_eq_false_iff_ne.mpr c6
    have c6b1 : (a1 != a2) = true := bne_iff_ne.mpr c6
    by_cases c11 : 0 ≤ a1
    ·rw [if_pos c11] at H
     have c11b0 : decide (0 ≤ a1) = true := decide_eq_true c11
     clear c11
     by_cases c12 : a1 < (y368.length : Int)
     ·rw [if_pos c12] at H
      have c12b0 : decide (a1 < (y368.length : Int)) = true := decide_eq_true c12
      clear c12
      obtain ⟨y371, hy371⟩ : ∃ y_ : List Bool, y_ = (y368.set (a1 : Int).toNat true) := ⟨_, rfl⟩
      replace H : (davitref09_comes.l0 k a2 y371 true a0_0 a0_1 l0_2) = some r := by first | (rw [hy371]; with_reducible exact H) | (have H2_ := (Option.bind_some _ _).symm.trans H; rw [hy371]; with_reducible exact H2_) | (have H2_ := (Option.bind_some _ _).symm.trans H; with_reducible exact H2_) | with_reducible exact H | (rw [hy371]; exact H) | exact H
      have Ny371 := Aside0.mk hy371
      clear hy371
      have H' := Aside0.mk H
      clear H
      go_enter Try.func42, Try.ntmps42
      go_wp2_with (first | ((with_reducible refine gate_dst (N := 3) rfl ?_); refine box_event ?hg (N := 3) ?hd (cs := #[.int .i64 a0_0, .int .i64 a0_1, .slice A0_2 l0_2.length c0_2]) (t := 24) ?hr ?_; (case hd => rfl); (case hg => rfl); (case hr => first | (go_simp; done) | (go_simp; rfl)); intro gb367 hg w14 hbox hb; have n0_ := Aside0.mk (below_step (by repeat (first | (with_reducible first | exact HB.out | apply below_alloc | apply pw_below_drewN | apply below_drew1) | exact HB.out)) hb); have n1_ := Aside0.mk (hbox); have n2_ := Aside0.mk ((by rw [hg]; exact (below_size (by repeat (first | (with_reducible first | exact HB.out | apply below_alloc | apply pw_below_drewN | apply below_drew1) | exact HB.out))) : w.heap.size ≤ gb367)); have n3_ := Aside0.mk ((by rw [hg]; exact (below_size (by repeat (first | (with_reducible first | exact HB.out | apply below_alloc | apply pw_below_drewN | apply below_drew1) | exact HB.out))) : w.heap.size ≤ gb367)); clear HB; have HB := n0_; have BK367 := n1_; have GW367 := n2_; have GE367 := n3_; clear n0_ n1_ n2_ n3_; clear hb hbox hg; have hcz15_0 : w14.cell? ⟨gb367, 0, none⟩ = some (.int .i64 a0_0) := (blk_cell BK367.out 0).trans rfl; have hcz15_1 : w14.cell? ⟨gb367, 1, none⟩ = some (.int .i64 a0_1) := (blk_cell BK367.out 1).trans rfl; have hcz15_2 : w14.cell? ⟨gb367, 2, none⟩ = some (.slice A0_2 l0_2.length c0_2) := (blk_cell BK367.out 2).trans rfl; have hfz15_0 := blk_frozen BK367.out 0; have hfz15_1 := blk_frozen BK367.out 1; have hfz15_2 := blk_frozen BK367.out 2) | ((with_reducible refine gate_dst (N := 15) rfl ?_); refine Kd.R_make Kd.bool _ 4 rfl (N := 15) rfl 32 _ _ rfl (l0_2.length : Int) rfl rfl Try.underlying32 (.bool false) 1 info4 rfl (by decide) (by omega) false (ok := fun _ => True) (okp := fun _ => True) rfl (fun _ hk => hk) trivial (of_decide_eq_true (by first | (with_reducible assumption) | assumption)) (Nat.le_trans (Nat.mul_le_mul_right _ (of_decide_eq_true (by first | (with_reducible assumption) | assumption) : (l0_2.length : Int).toNat ≤ 281474976710656)) (by omega)) (Below.refl _ _) (Nat.le_refl _) ?_; intro v369 w16 ho17 hb hg_ hnew_; clear hg_ hnew_; (first | rw [← Ny368.out] at ho17 | (simp only [Int.reduceToNat] at ho17; rw [← Ny368.out] at ho17)); have n0_ := Aside0.mk (Kd.R_lower ho17 (below_size (by repeat (first | (with_reducible first | exact HB.out | apply below_alloc | apply pw_below_drewN | apply below_drew1 | refine below_set ?_ GE367.out) | exact HB.out)))); have n1_ := Aside0.mk (blk_below (g := gb367) (o := .cells #[.int .i64 a0_0, .int .i64 a0_1, .slice A0_2 l0_2.length c0_2] 24 (0, 0)) (by (with_reducible repeat (first | refine blk_drewN ?_ _ | refine blk_drew ?_ | refine blk_alloc ?_ _)); exact BK367.out) hb); have n2_ := Aside0.mk (below_step (by repeat (first | (with_reducible first | exact HB.out | apply below_alloc | apply pw_below_drewN | apply below_drew1 | refine below_set ?_ GE367.out) | exact HB.out)) hb); clear BK367; clear HB; have HO370 := n0_; have BK367 := n1_; have HB := n2_; clear n0_ n1_ n2_; clear hb ho17; have p13 : 0 ≤ (a1 : Int) := of_decide_eq_true (by first | (with_reducible assumption) | assumption); have q13 : (a1 : Int) < ((y368.length : Int) : Int) := of_decide_eq_true (by first | (with_reducible assumption) | assumption); obtain ⟨go13, co13, eo13, gb13, gl13, cl13, HG13⟩ := Kd.R_form HO370.out (by omega); (first | cases eo13 | (injection eo13 with ea_ en_ ec_; (first | subst ea_ | (injection ea_ with ea_; subst ea_)); subst ec_; clear en_)); have GB13 := Aside0.mk gb13; have GG13 := Aside0.mk HG13; clear gb13 gl13 HG13; obtain ⟨hx13_0, hf13_0⟩ := Kd.R_celln false HO370.out (a1 : Int) p13 q13; replace p13 := eq_true p13; replace q13 := eq_true q13; obtain ⟨hy18_, hz18_⟩ := Kd.R_celln false HO370.out (a1 : Int) (of_decide_eq_true (by first | (with_reducible assumption) | assumption)) (of_decide_eq_true (by first | (with_reducible assumption) | assumption)); have HP18 := Kd.R_putg HO370.out (a1 : Int) true) | ((with_reducible refine gate_store (t := 4) (p := 22) rfl ?_); refine store_event (t := 4) (p := 22) (v := ?vo_w19) (w1 := (w16.setCell ⟨go13, (a1 : Int).toNat, none⟩ (.bool true))) ?hg ?ho ?hn ?hr ?_; (case ho => rfl); (case hg => rfl); (case hn => rfl); (case hr => first | (go_simp; done) | (go_simp; rfl)); intro w19 hw; have hg : w16.grownBy w19 (some go13) := (by rw [hw]; exact HP18.2); have hp_ : Kd.R Kd.bool 4 w19 w.heap.size (fun _ => True) (.slice (some ⟨go13, 0, none⟩) y368.length co13) y371 := (by rw [hw, Ny371.out]; exact HP18.1); clear HP18; have n0_ := Aside0.mk (blk_grown (g := gb367) (o := .cells #[.int .i64 a0_0, .int .i64 a0_1, .slice A0_2 l0_2.length c0_2] 24 (0, 0)) (by (with_reducible repeat (first | refine blk_drewN ?_ _ | refine blk_drew ?_ | refine blk_alloc ?_ _)); exact BK367.out) hg (Kd.R_ne HO370.out BK367.out (by decide))); have n1_ := Aside0.mk (hp_); have n2_ := Aside0.mk ((by rw [hw]; exact below_set (HB.out) GB13.out : Below w.heap.size w w19)); clear BK367; clear HO370; clear HB; have BK367 := n0_; have HO370 := n1_; have HB := n2_; clear n0_ n1_ n2_; clear hg hw hp_))
      go_loopg [8] k (fun kq v8 w' => ∃ (x7_1 : List Bool) (x8_1 : Bool), v8 = .bool x8_1 ∧ Aside0 (davitref09_comes.l0 kq a2 x7_1 x8_1 a0_0 a0_1 l0_2 = some r) ∧ Aside0 (kq ≤ k) ∧ Aside0 (Kd.R Kd.bool 4 w' w.heap.size (fun _ => True) (.slice (some ⟨go13, 0, none⟩) y368.length co13) x7_1) ∧ Aside0 (w'.heap[gb367]? = some (.cells #[.int .i64 a0_0, .int .i64 a0_1, (.slice A0_2 l0_2.length c0_2)] 24 (0, 0))) ∧ Aside0 (Below w.heap.size w w'))
      case atStart => exact ⟨(y371), (true), (by first | rfl | (simp; done) | (simp [*]; done)), H', ⟨Nat.le_refl _⟩, ⟨by (with_reducible repeat (first | apply Kd.R_alloc | apply Kd.R_drewN | apply Kd.R_drew)); exact HO370.out⟩, ⟨by (with_reducible repeat (first | refine blk_drewN ?_ _ | refine blk_drew ?_ | refine blk_alloc ?_ _)); exact BK367.out⟩, ⟨by repeat (first | (with_reducible first | exact HB.out | apply below_alloc | apply pw_below_drewN | apply below_drew1 | refine below_set ?_ GE367.out) | exact HB.out)⟩⟩
      case round =>
       clear H'
       try clear c1
       try clear p1
       try clear q1
       try clear hx1
       try clear p2
       try clear c4
       try clear c4b0
       try clear c4b1
       try clear c5
       try clear c5b0
       try clear c5b1
       try clear c6
       try clear c6b0
       try clear c6b1
       try clear c11
       try clear c11b0
       try clear c12
       try clear c12b0
       try clear p13
       try clear q13
       try clear hx13
       try clear hf13
       try clear hcz15_0
       try clear hcz15_1
       try clear hcz15_2
       try clear hcz8_0
       try clear hcz8_1
       try clear hcz8_2
       try clear hfz15_0
       try clear hfz15_1
       try clear hfz15_2
       try clear hfz8_0
       try clear hfz8_1
       try clear hfz8_2
       try clear hx13_0
       try clear p13
       try clear q13
       obtain ⟨x7_1, x8_1, rfl, HA, HK1, HO_7, BK367, HB⟩ := hrel
       have hl7_1 := (Kd.R_reads' HO_7.out).1
       rw [hl7_1] at HO_7
       (try simp only [hl7_1])
       (try simp only [hl7_1] at BK367)
       cases gk with
       | zero => exact absurd HA.out (by simp [davitref09_comes.l0])
       | succ k1 =>
        have H := HA.out
        clear HA
        simp only [davitref09_comes.l0] at H
        by_cases c20 : x8_1 = true
        ·subst c20
         have H1 : (davitref09_comes.l1 k1 a2 x7_1 false 0 a0_0 a0_1 l0_2) = some r := by rw [if_pos rfl] at H; exact H
         clear H
         have H := H1
         clear H1
         have H' := Aside0.mk H
         clear H
         go_wp2
         go_loopg [8, 9] k1 (fun kq v8 v9 w' => ∃ (x7_2 : List Bool) (x8_2 : Bool) (x9_2 : Int), v8 = .bool x8_2 ∧ v9 = .int .i64 x9_2 ∧ Aside0 (davitref09_comes.l1 kq a2 x7_2 x8_2 x9_2 a0_0 a0_1 l0_2 = some r) ∧ Aside0 (kq ≤ k1) ∧ Aside0 (Kd.R Kd.bool 4 w' w.heap.size (fun _ => True) (.slice (some ⟨go13, 0, none⟩) x7_1.length co13) x7_2) ∧ Aside0 (w'.heap[gb367]? = some (.cells #[.int .i64 a0_0, .int .i64 a0_1, (.slice A0_2 l0_2.length c0_2)] 24 (0, 0))) ∧ Aside0 (Below w.heap.size w w'))
         case atStart => exact ⟨(x7_1), (false), (0), (by first | rfl | (simp; done) | (simp [*]; done)), (by first | rfl | (simp; done) | (simp [*]; done)), H', ⟨Nat.le_refl _⟩, ⟨by (try simp only [hl7_1]); (with_reducible repeat (first | apply Kd.R_alloc | apply Kd.R_drewN | apply Kd.R_drew)); exact HO_7.out⟩, ⟨by (try simp only [hl7_1]); (with_reducible repeat (first | refine blk_drewN ?_ _ | refine blk_drew ?_ | refine blk_alloc ?_ _)); exact BK367.out⟩, ⟨by repeat (first | (with_reducible first | exact HB.out | apply below_alloc | apply pw_below_drewN | apply below_drew1 | refine below_set ?_ GE367.out) | exact HB.out)⟩⟩
         case round =>
          clear H'
          try clear c1
          try clear p1
          try clear q1
          try clear hx1
          try clear c2
          try clear p2
          try clear c4
          try clear c4b0
          try clear c4b1
          try clear c5
          try clear c5b0
          try clear c5b1
          try clear c6
          try clear c6b0
          try clear c6b1
          try clear c11
          try clear c11b0
          try clear c12
          try clear c12b0
          try clear p13
          try clear q13
          try clear hx13
          try clear hf13
          try clear c20
          try clear hcz15_0
          try clear hcz15_1
          try clear hcz15_2
          try clear hcz8_0
          try clear hcz8_1
          try clear hcz8_2
          try clear hfz15_0
          try clear hfz15_1
          try clear hfz15_2
          try clear hfz8_0
          try clear hfz8_1
          try clear hfz8_2
          try clear hx13_0
          try clear p1
          try clear p13
          try clear p2
          try clear q1
          try clear q13
          obtain ⟨x7_2, x8_2, x9_2, rfl, rfl, HA, HK2, HO_7, BK367, HB⟩ := hrel
          have hl7_2 := (Kd.R_reads' HO_7.out).1
          rw [hl7_2] at HO_7
          (try simp only [hl7_2])
          (try simp only [hl7_2] at BK367)
          cases gk with
          | zero => exact absurd HA.out (by simp [davitref09_comes.l1])
          | succ k2 =>
           have H := HA.out
           clear HA
           simp only [davitref09_comes.l1] at H
           by_cases c21 : x9_2 < (x7_2.length : Int)
           ·rw [if_pos c21] at H
            have c21b0 : decide (x9_2 < (x7_2.length : Int)) = true := decide_eq_true c21
            clear c21
            have HC22 := Aside0.mk H
            clear H
            go_upto_region 11 with (fail)
            go_cut [38] (fun v38 wc => ∃ (kq : Nat) (x38_21 : Bool), v38 = .bool x38_21 ∧ Aside0 (davitref09_comes.j2 kq a2 x7_2 x8_2 x9_2 x38_21 a0_0 a0_1 l0_2 = some r) ∧ Aside0 (kq ≤ k2) ∧ Aside0 (Kd.R Kd.bool 4 wc w.heap.size (fun _ => True) (.slice (some ⟨go13, 0, none⟩) x7_2.length co13) x7_2) ∧ Aside0 (wc.heap[gb367]? = some (.cells #[.int .i64 a0_0, .int .i64 a0_1, (.slice A0_2 l0_2.length c0_2)] 24 (0, 0))) ∧ Aside0 (Below w.heap.size w wc))
            case first =>
             have H := HC22.out
             clear HC22
             by_cases c23 : 0 ≤ x9_2
             ·rw [if_pos c23] at H
              have c23b0 : decide (0 ≤ x9_2) = true := decide_eq_true c23
              clear c23
              (first | rw [c23b0] | (simp only [i64_w, i32_w]; rw [c23b0]) | skip)
              obtain ⟨bq24, hbq24⟩ : ∃ b_ : Bool, b_ = (rdOf false x7_2 x9_2) := ⟨_, rfl⟩
              replace H : (if bq24 = true then (davitref09_comes.j2 k2 a2 x7_2 x8_2 x9_2 true a0_0 a0_1 l0_2) else (davitref09_comes.j2 k2 a2 x7_2 x8_2 x9_2 (x9_2 == a2) a0_0 a0_1 l0_2)) = some r := by rw [← hbq24] at H; exact H
              have Nbq24 := Aside0.mk hbq24
              clear hbq24
              by_cases c25 : bq24 = true
              ·subst c25
               have H1 : (davitref09_comes.j2 k2 a2 x7_2 x8_2 x9_2 true a0_0 a0_1 l0_2) = some r := by rw [if_pos rfl] at H; exact H
               clear H
               have H := H1
               clear H1
               have H' := Aside0.mk H
               clear H
               have p372 : 0 ≤ (x9_2 : Int) := of_decide_eq_true (by first | (with_reducible assumption) | assumption)
               have q372 : x9_2 < (x7_2.length : Int) := of_decide_eq_true (by first | (with_reducible assumption) | assumption)
               obtain ⟨ad372, e372, hx372_0⟩ := Kd.at_bool (Kd.R_reads' HO_7.out).2.2 x9_2 p372 q372
               (try rw [← Nbq24.out] at hx372_0)
               obtain rfl : (⟨go13, 0, none⟩ : Addr) = ad372 := (by injection e372)
               (first | simp only [add_plain] at hx372_0 | simp only [add_at] at hx372_0 | simp only [Addr.add, Nat.zero_add] at hx372_0 | skip)
               replace p372 := eq_true p372
               replace q372 := eq_true q372
               go_wp2
               go_meet
               case rel => exact ⟨_, (true), (by first | rfl | (simp; done) | (simp [*]; done)), H', ⟨by have := HK1.out; have := HK2.out; first | omega | exact Nat.le_refl _⟩, ⟨by (try simp only [hl7_1]); (try simp only [hl7_2]); (with_reducible repeat (first | apply Kd.R_alloc | apply Kd.R_drewN | apply Kd.R_drew)); exact HO_7.out⟩, ⟨by (try simp only [hl7_1]); (try simp only [hl7_2]); (with_reducible repeat (first | refine blk_drewN ?_ _ | refine blk_drew ?_ | refine blk_alloc ?_ _)); exact BK367.out⟩, ⟨by repeat (first | (with_reducible first | exact HB.out | apply below_alloc | apply pw_below_drewN | apply below_drew1 | refine below_set ?_ GE367.out) | exact HB.out)⟩⟩
              ·replace c25 := Bool.eq_false_iff.mpr c25
               subst c25
               have H1 : (davitref09_comes.j2 k2 a2 x7_2 x8_2 x9_2 (x9_2 == a2) a0_0 a0_1 l0_2) = some r := by rw [if_neg (show ¬ (false = true) by decide)] at H; exact H
               clear H
               have H := H1
               clear H1
               have H' := Aside0.mk H
               clear H
               have p372 : 0 ≤ (x9_2 : Int) := of_decide_eq_true (by first | (with_reducible assumption) | assumption)
               have q372 : x9_2 < (x7_2.length : Int) := of_decide_eq_true (by first | (with_reducible assumption) | assumption)
               obtain ⟨ad372, e372, hx372_0⟩ := Kd.at_bool (Kd.R_reads' HO_7.out).2.2 x9_2 p372 q372
               (try rw [← Nbq24.out] at hx372_0)
               obtain rfl : (⟨go13, 0, none⟩ : Addr) = ad372 := (by injection e372)
               (first | simp only [add_plain] at hx372_0 | simp only [add_at] at hx372_0 | simp only [Addr.add, Nat.zero_add] at hx372_0 | skip)
               replace p372 := eq_true p372
               replace q372 := eq_true q372
               go_wp2
               go_meet
               case rel => exact ⟨_, ((x9_2 == a2)), (by first | rfl | (simp; done) | (simp [*]; done)), H', ⟨by have := HK1.out; have := HK2.out; first | omega | exact Nat.le_refl _⟩, ⟨by (try simp only [hl7_1]); (try simp only [hl7_2]); (with_reducible repeat (first | apply Kd.R_alloc | apply Kd.R_drewN | apply Kd.R_drew)); exact HO_7.out⟩, ⟨by (try simp only [hl7_1]); (try simp only [hl7_2]); (with_reducible repeat (first | refine blk_drewN ?_ _ | refine blk_drew ?_ | refine blk_alloc ?_ _)); exact BK367.out⟩, ⟨by repeat (first | (with_reducible first | exact HB.out | apply below_alloc | apply pw_below_drewN | apply below_drew1 | refine below_set ?_ GE367.out) | exact HB.out)⟩⟩
             ·rw [if_neg c23] at H
              exact absurd H (by simp)
            case rest =>
             clear HC22
             try clear c1
             try clear p1
             try clear q1
             try clear hx1
             try clear c2
             try clear p2
             try clear q2
             try clear p3
             try clear q3
             try clear hx3
             try clear c4
             try clear c4b0
             try clear c4b1
             try clear c5
             try clear c5b0
             try clear c5b1
             try clear c6
             try clear c6b0
             try clear c6b1
             try clear c11
             try clear c11b0
             try clear c12
             try clear c12b0
             try clear p13
             try clear q13
             try clear hx13
             try clear hf13
             try clear c20
             try clear c21
             try clear c21b0
             try clear c23
             try clear c23b0
             try clear q24
             try clear c25
             try clear hcz15_0
             try clear hcz15_1
             try clear hcz15_2
             try clear hcz8_0
             try clear hcz8_1
             try clear hcz8_2
             try clear hfz15_0
             try clear hfz15_1
             try clear hfz15_2
             try clear hfz8_0
             try clear hfz8_1
             try clear hfz8_2
             try clear hx13_0
             try clear hx372_0
             try clear p1
             try clear p13
             try clear p2
             try clear p372
             try clear q1
             try clear q13
             try clear q372
             obtain ⟨kq, x38_21, rfl, HA, HJ21, HO_7, BK367, HB⟩ := hcut
             cases kq with
             | zero => exact absurd HA.out (by simp [davitref09_comes.j2])
             | succ kj21 =>
              have H := HA.out
              clear HA
              simp only [davitref09_comes.j2] at H
              by_cases c26 : x38_21 = true
              ·subst c26
               have H1 : (davitref09_comes.l1 kj21 a2 x7_2 x8_2 (wrap64 (x9_2 + 1)) a0_0 a0_1 l0_2) = some r := by rw [if_pos rfl] at H; exact H
               clear H
               have H := H1
               clear H1
               have H' := Aside0.mk H
               clear H
               go_wp2
               (try simp only [← hl7_2])
               go_roundg kj21
               case measure => have := HK1.out; have := HK2.out; have := HJ21.out; omega
               case rel => exact ⟨(x7_2), (x8_2), (wrap64 (x9_2 + 1)), (by first | rfl | (simp; done) | (simp [*]; done)), (by first | rfl | (simp; done) | (simp [*]; done)), H', ⟨by have := HK1.out; have := HK2.out; have := HJ21.out; omega⟩, ⟨by (try simp only [hl7_1]); (try simp only [hl7_2]); (with_reducible repeat (first | apply Kd.R_alloc | apply Kd.R_drewN | apply Kd.R_drew)); exact HO_7.out⟩, ⟨by (try simp only [hl7_1]); (try simp only [hl7_2]); (with_reducible repeat (first | refine blk_drewN ?_ _ | refine blk_drew ?_ | refine blk_alloc ?_ _)); exact BK367.out⟩, ⟨by repeat (first | (with_reducible first | exact HB.out | apply below_alloc | apply pw_below_drewN | apply below_drew1 | refine below_set ?_ GE367.out) | exact HB.out)⟩⟩
              ·replace c26 := Bool.eq_false_iff.mpr c26
               subst c26
               have H1 : ((davitref07_Next.f kj21 a0_0 a0_1 l0_2 x9_2).bind fun t373 => (davitref09_comes.l2 kj21 a2 x7_2 x8_2 x9_2 t373 0 a0_0 a0_1 l0_2)) = some r := by rw [if_neg (show ¬ (false = true) by decide)] at H; exact H
               clear H
               have H := H1
               clear H1
               replace H := Option.bind_eq_some_iff.mp H
               obtain ⟨t373, A270, H⟩ := H
               replace H : (davitref09_comes.l2 kj21 a2 x7_2 x8_2 x9_2 t373 0 a0_0 a0_1 l0_2) = some r := H
               have A27 := Aside0.mk A270
               clear A270
               have H' := Aside0.mk H
               clear H
               have hcz28_0 : wc.cell? ⟨gb367, 0, none⟩ = some (.int .i64 a0_0) := (blk_cell BK367.out 0).trans rfl
               have hcz28_1 : wc.cell? ⟨gb367, 1, none⟩ = some (.int .i64 a0_1) := (blk_cell BK367.out 1).trans rfl
               have hcz28_2 : wc.cell? ⟨gb367, 2, none⟩ = some (.slice A0_2 l0_2.length c0_2) := (blk_cell BK367.out 2).trans rfl
               have hfz28_0 := blk_frozen BK367.out 0
               have hfz28_1 := blk_frozen BK367.out 1
               have hfz28_2 := blk_frozen BK367.out 2
               go_wp2_with (first | ((with_reducible refine gate_callee (f := 33) rfl ?_); refine goesL_ (some 41) rfl rfl Try.func33 (by kernel_rfl) rfl #[.agg #[.int .i64 a0_0, .int .i64 a0_1, .slice A0_2 l0_2.length c0_2], .int .i64 x9_2] rfl (by (try simp only [List.map_toArray, List.map_cons, List.map_nil]); first | done | rfl | (simp only [List.length_drop, List.length_take]; rfl)) ?_; (with_reducible refine (davitref07_Next.calls kj21 a0_0 a0_1 _ _ l0_2 x9_2 t373 _ ?side1 ?side2 A27.out).mono ?_); (case side1 => repeat (first | exact (Kd.C_below HR0_2.out HB.out) | (with_reducible refine Kd.C_alloc ?_ _) | (with_reducible refine Kd.C_drewN ?_ _) | (with_reducible refine Kd.C_drew ?_))); (case side2 => exact HC0_2.out); rintro e w29 ⟨v374, rfl, ho0, hb⟩; refine ⟨_, rfl, ?_⟩; have n0_ := Aside0.mk (Kd.R_below (by (with_reducible repeat (first | apply Kd.R_alloc | apply Kd.R_drewN | apply Kd.R_drew)); exact HO_7.out) hb); have n1_ := Aside0.mk (Kd.R_lower ho0 (below_size (by repeat (first | (with_reducible first | exact HB.out | apply below_alloc | apply pw_below_drewN | apply below_drew1 | refine below_set ?_ GE367.out) | exact HB.out)))); have n2_ := Aside0.mk (blk_below (g := gb367) (o := .cells #[.int .i64 a0_0, .int .i64 a0_1, .slice A0_2 l0_2.length c0_2] 24 (0, 0)) (by (with_reducible repeat (first | refine blk_drewN ?_ _ | refine blk_drew ?_ | refine blk_alloc ?_ _)); exact BK367.out) hb); have n3_ := Aside0.mk (below_step (by repeat (first | (with_reducible first | exact HB.out | apply below_alloc | apply pw_below_drewN | apply below_drew1 | refine below_set ?_ GE367.out) | exact HB.out)) hb); clear HO_7; clear BK367; clear HB; have HO_7 := n0_; have HO375 := n1_; have BK367 := n2_; have HB := n3_; clear n0_ n1_ n2_ n3_; (try clear hb); (try clear hb2); (try clear hk); (try clear hi); (try clear ho0)))
               go_loopg [8, 11] kj21 (fun kq v8 v11 w' => ∃ (x7_4 : List Bool) (x8_4 : Bool) (x11_4 : Int), v8 = .bool x8_4 ∧ v11 = .int .i64 x11_4 ∧ Aside0 (davitref09_comes.l2 kq a2 x7_4 x8_4 x9_2 t373 x11_4 a0_0 a0_1 l0_2 = some r) ∧ Aside0 (kq ≤ kj21) ∧ Aside0 (Kd.R Kd.bool 4 w' w.heap.size (fun _ => True) (.slice (some ⟨go13, 0, none⟩) x7_2.length co13) x7_4) ∧ Aside0 (Kd.R (Kd.int .i64) 3 w' w.heap.size (fun _ => True) v374 t373) ∧ Aside0 (w'.heap[gb367]? = some (.cells #[.int .i64 a0_0, .int .i64 a0_1, (.slice A0_2 l0_2.length c0_2)] 24 (0, 0))) ∧ Aside0 (Below w.heap.size w w'))
               case atStart => exact ⟨(x7_2), (x8_2), (0), (by first | rfl | (simp; done) | (simp [*]; done)), (by first | rfl | (simp; done) | (simp [*]; done)), H', ⟨Nat.le_refl _⟩, ⟨by (try simp only [hl7_1]); (try simp only [hl7_2]); (with_reducible repeat (first | apply Kd.R_alloc | apply Kd.R_drewN | apply Kd.R_drew)); exact HO_7.out⟩, ⟨by (try simp only [hl7_1]); (try simp only [hl7_2]); (with_reducible repeat (first | apply Kd.R_alloc | apply Kd.R_drewN | apply Kd.R_drew)); exact HO375.out⟩, ⟨by (try simp only [hl7_1]); (try simp only [hl7_2]); (with_reducible repeat (first | refine blk_drewN ?_ _ | refine blk_drew ?_ | refine blk_alloc ?_ _)); exact BK367.out⟩, ⟨by repeat (first | (with_reducible first | exact HB.out | apply below_alloc | apply pw_below_drewN | apply below_drew1 | refine below_set ?_ GE367.out) | exact HB.out)⟩⟩
               case round =>
                clear H'
                try clear c1
                try clear p1
                try clear q1
                try clear hx1
                try clear c2
                try clear p2
                try clear q2
                try clear c3
                try clear p3
                try clear q3
                try clear hx3
                try clear c4
                try clear c4b0
                try clear c4b1
                try clear c5
                try clear c5b0
                try clear c5b1
                try clear c6
                try clear c6b0
                try clear c6b1
                try clear p6
                try clear c11
                try clear c11b0
                try clear c12
                try clear c12b0
                try clear p13
                try clear q13
                try clear hx13
                try clear hf13
                try clear c20
                try clear c21
                try clear c21b0
                try clear c23
                try clear c23b0
                try clear q24
                try clear c25
                try clear c26
                try clear hcz15_0
                try clear hcz15_1
                try clear hcz15_2
                try clear hcz28_0
                try clear hcz28_1
                try clear hcz28_2
                try clear hcz8_0
                try clear hcz8_1
                try clear hcz8_2
                try clear hfz15_0
                try clear hfz15_1
                try clear hfz15_2
                try clear hfz28_0
                try clear hfz28_1
                try clear hfz28_2
                try clear hfz8_0
                try clear hfz8_1
                try clear hfz8_2
                try clear hx13_0
                try clear hx372_0
                try clear p1
                try clear p13
                try clear p2
                try clear p3
                try clear p372
                try clear q1
                try clear q13
                try clear q2
                try clear q24
                try clear q3
                try clear q372
                obtain ⟨x7_4, x8_4, x11_4, rfl, rfl, HA, HK4, HO_7, HO_10, BK367, HB⟩ := hrel
                have hl7_4 := (Kd.R_reads' HO_7.out).1
                rw [hl7_4] at HO_7
                (try simp only [hl7_4])
                (try simp only [hl7_4] at BK367)
                (try simp only [hl7_4] at HO_10)
                cases gk with
                | zero => exact absurd HA.out (by simp [davitref09_comes.l2])
                | succ k4 =>
                 have H := HA.out
                 clear HA
                 simp only [davitref09_comes.l2] at H
                 by_cases c30 : x11_4 < (t373.length : Int)
                 ·rw [if_pos c30] at H
                  have c30b0 : decide (x11_4 < (t373.length : Int)) = true := decide_eq_true c30
                  clear c30
                  by_cases c31 : 0 ≤ x11_4
                  ·rw [if_pos c31] at H
                   have c31b0 : decide (0 ≤ x11_4) = true := decide_eq_true c31
                   clear c31
                   by_cases c32 : 0 ≤ (rd t373 x11_4)
                   ·rw [if_pos c32] at H
                    have c32b0 : decide (0 ≤ (rd t373 x11_4)) = true := decide_eq_true c32
                    clear c32
                    by_cases c33 : (rd t373 x11_4) < (x7_4.length : Int)
                    ·rw [if_pos c33] at H
                     have c33b0 : decide ((rd t373 x11_4) < (x7_4.length : Int)) = true := decide_eq_true c33
                     clear c33
                     obtain ⟨bq34, hbq34⟩ : ∃ b_ : Bool, b_ = (rdOf false x7_4 (rd t373 x11_4)) := ⟨_, rfl⟩
                     replace H : (if bq34 = true then (if 0 ≤ x9_2 then (if x9_2 < (x7_4.length : Int) then (davitref09_comes.l2 k4 a2 (x7_4.set (x9_2 : Int).toNat true) true x9_2 t373 (wrap64 (x11_4 + 1)) a0_0 a0_1 l0_2) else (none)) else (none)) else (davitref09_comes.l2 k4 a2 x7_4 x8_4 x9_2 t373 (wrap64 (x11_4 + 1)) a0_0 a0_1 l0_2)) = some r := by rw [← hbq34] at H; exact H
                     have Nbq34 := Aside0.mk hbq34
                     clear hbq34
                     by_cases c35 : bq34 = true
                     ·subst c35
                      have H1 : (if 0 ≤ x9_2 then (if x9_2 < (x7_4.length : Int) then (davitref09_comes.l2 k4 a2 (x7_4.set (x9_2 : Int).toNat true) true x9_2 t373 (wrap64 (x11_4 + 1)) a0_0 a0_1 l0_2) else (none)) else (none)) = some r := by rw [if_pos rfl] at H; exact H
                      clear H
                      have H := H1
                      clear H1
                      by_cases c36 : 0 ≤ x9_2
                      ·rw [if_pos c36] at H
                       have c36b0 : decide (0 ≤ x9_2) = true := decide_eq_true c36
                       clear c36
                       by_cases c37 : x9_2 < (x7_4.length : Int)
                       ·rw [if_pos c37] at H
                        have c37b0 : decide (x9_2 < (x7_4.length : Int)) = true := decide_eq_true c37
                        clear c37
                        obtain ⟨y378, hy378⟩ : ∃ y_ : List Bool, y_ = (x7_4.set (x9_2 : Int).toNat true) := ⟨_, rfl⟩
                        replace H : (davitref09_comes.l2 k4 a2 y378 true x9_2 t373 (wrap64 (x11_4 + 1)) a0_0 a0_1 l0_2) = some r := by first | (rw [hy378]; with_reducible exact H) | (have H2_ := (Option.bind_some _ _).symm.trans H; rw [hy378]; with_reducible exact H2_) | (have H2_ := (Option.bind_some _ _).symm.trans H; with_reducible exact H2_) | with_reducible exact H | (rw [hy378]; exact H) | exact H
                        have Ny378 := Aside0.mk hy378
                        clear hy378
                        have H' := Aside0.mk H
                        clear H
                        obtain ⟨Ao39, co39, eo39⟩ := Kd.R_slice HO_10.out
                        subst eo39
                        have p376 : 0 ≤ (x11_4 : Int) := of_decide_eq_true (by first | (with_reducible assumption) | assumption)
                        have q376 : x11_4 < (t373.length : Int) := of_decide_eq_true (by first | (with_reducible assumption) | assumption)
                        obtain ⟨ad376, e376, hx376_0⟩ := Kd.at_int (Kd.R_reads' HO_10.out).2.2 x11_4 p376 q376
                        cases e376
                        replace p376 := eq_true p376
                        replace q376 := eq_true q376
                        have p377 : 0 ≤ ((rd t373 x11_4) : Int) := of_decide_eq_true (by first | (with_reducible assumption) | assumption)
                        have q377 : (rd t373 x11_4) < (x7_4.length : Int) := of_decide_eq_true (by first | (with_reducible assumption) | assumption)
                        obtain ⟨ad377, e377, hx377_0⟩ := Kd.at_bool (Kd.R_reads' HO_7.out).2.2 (rd t373 x11_4) p377 q377
                        (try rw [← Nbq34.out] at hx377_0)
                        obtain rfl : (⟨go13, 0, none⟩ : Addr) = ad377 := (by injection e377)
                        (first | simp only [add_plain] at hx377_0 | simp only [add_at] at hx377_0 | simp only [Addr.add, Nat.zero_add] at hx377_0 | skip)
                        replace p377 := eq_true p377
                        replace q377 := eq_true q377
                        have p38 : 0 ≤ (x9_2 : Int) := of_decide_eq_true (by first | (with_reducible assumption) | assumption)
                        have q38 : (x9_2 : Int) < ((x7_4.length : Int) : Int) := of_decide_eq_true (by first | (with_reducible assumption) | assumption)
                        obtain ⟨hx38_0, hf38_0⟩ := Kd.R_celln false HO_7.out (x9_2 : Int) p38 q38
                        replace p38 := eq_true p38
                        replace q38 := eq_true q38
                        have HP40 := Kd.R_putg HO_7.out (x9_2 : Int) true
                        go_wp2_with (first | ((with_reducible refine gate_store (t := 4) (p := 57) rfl ?_); refine store_event (t := 4) (p := 57) (v := ?vo_w41) (w1 := (wr.setCell ⟨go13, (x9_2 : Int).toNat, none⟩ (.bool true))) ?hg ?ho ?hn ?hr ?_; (case ho => rfl); (case hg => rfl); (case hn => rfl); (case hr => first | (go_simp; done) | (go_simp; rfl)); intro w41 hw; have hg : wr.grownBy w41 (some go13) := (by rw [hw]; exact HP40.2); have hp_ : Kd.R Kd.bool 4 w41 w.heap.size (fun _ => True) (.slice (some ⟨go13, 0, none⟩) x7_4.length co13) y378 := (by rw [hw, Ny378.out]; exact HP40.1); clear HP40; have n0_ := Aside0.mk (hp_); have n1_ := Aside0.mk (Kd.R_over' (v := (.slice (some ⟨go13, 0, none⟩) x7_4.length co13)) (by (with_reducible repeat (first | apply Kd.R_alloc | apply Kd.R_drewN | apply Kd.R_drew)); exact HO_10.out) (Kd.R_typed HO_7.out) (by decide) hg); have n2_ := Aside0.mk (blk_grown (g := gb367) (o := .cells #[.int .i64 a0_0, .int .i64 a0_1, .slice A0_2 l0_2.length c0_2] 24 (0, 0)) (by (with_reducible repeat (first | refine blk_drewN ?_ _ | refine blk_drew ?_ | refine blk_alloc ?_ _)); exact BK367.out) hg (Kd.R_ne HO_7.out BK367.out (by decide))); have n3_ := Aside0.mk ((by rw [hw]; exact below_set (HB.out) GB13.out : Below w.heap.size w w41)); clear HO_7; clear HO_10; clear BK367; clear HB; have HO_7 := n0_; have HO_10 := n1_; have BK367 := n2_; have HB := n3_; clear n0_ n1_ n2_ n3_; clear hg hw hp_))
                        (try simp only [← hl7_4])
                        go_roundg k4
                        case measure => have := HK1.out; have := HK2.out; have := HJ21.out; have := HK4.out; omega
                        case rel => exact ⟨(y378), (true), (wrap64 (x11_4 + 1)), (by first | rfl | (simp; done) | (simp [*]; done)), (by first | rfl | (simp; done) | (simp [*]; done)), H', ⟨by have := HK1.out; have := HK2.out; have := HJ21.out; have := HK4.out; omega⟩, ⟨by (try simp only [hl7_1]); (try simp only [hl7_2]); (try simp only [hl7_4]); (with_reducible repeat (first | apply Kd.R_alloc | apply Kd.R_drewN | apply Kd.R_drew)); exact HO_7.out⟩, ⟨by (try simp only [hl7_1]); (try simp only [hl7_2]); (try simp only [hl7_4]); (with_reducible repeat (first | apply Kd.R_alloc | apply Kd.R_drewN | apply Kd.R_drew)); exact HO_10.out⟩, ⟨by (try simp only [hl7_1]); (try simp only [hl7_2]); (try simp only [hl7_4]); (with_reducible repeat (first | refine blk_drewN ?_ _ | refine blk_drew ?_ | refine blk_alloc ?_ _)); exact BK367.out⟩, ⟨by repeat (first | (with_reducible first | exact HB.out | apply below_alloc | apply pw_below_drewN | apply below_drew1 | refine below_set ?_ GE367.out) | exact HB.out)⟩⟩
                       ·rw [if_neg c37] at H
                        exact absurd H (by simp)
                      ·rw [if_neg c36] at H
                       exact absurd H (by simp)
                     ·replace c35 := Bool.eq_false_iff.mpr c35
                      subst c35
                      have H1 : (davitref09_comes.l2 k4 a2 x7_4 x8_4 x9_2 t373 (wrap64 (x11_4 + 1)) a0_0 a0_1 l0_2) = some r := by rw [if_neg (show ¬ (false = true) by decide)] at H; exact H
                      clear H
                      have H := H1
                      clear H1
                      have H' := Aside0.mk H
                      clear H
                      obtain ⟨Ao42, co42, eo42⟩ := Kd.R_slice HO_10.out
                      subst eo42
                      have p376 : 0 ≤ (x11_4 : Int) := of_decide_eq_true (by first | (with_reducible assumption) | assumption)
                      have q376 : x11_4 < (t373.length : Int) := of_decide_eq_true (by first | (with_reducible assumption) | assumption)
                      obtain ⟨ad376, e376, hx376_0⟩ := Kd.at_int (Kd.R_reads' HO_10.out).2.2 x11_4 p376 q376
                      cases e376
                      replace p376 := eq_true p376
                      replace q376 := eq_true q376
                      have p377 : 0 ≤ ((rd t373 x11_4) : Int) := of_decide_eq_true (by first | (with_reducible assumption) | assumption)
                      have q377 : (rd t373 x11_4) < (x7_4.length : Int) := of_decide_eq_true (by first | (with_reducible assumption) | assumption)
                      obtain ⟨ad377, e377, hx377_0⟩ := Kd.at_bool (Kd.R_reads' HO_7.out).2.2 (rd t373 x11_4) p377 q377
                      (try rw [← Nbq34.out] at hx377_0)
                      obtain rfl : (⟨go13, 0, none⟩ : Addr) = ad377 := (by injection e377)
                      (first | simp only [add_plain] at hx377_0 | simp only [add_at] at hx377_0 | simp only [Addr.add, Nat.zero_add] at hx377_0 | skip)
                      replace p377 := eq_true p377
                      replace q377 := eq_true q377
                      go_wp2
                      (try simp only [← hl7_4])
                      go_roundg k4
                      case measure => have := HK1.out; have := HK2.out; have := HJ21.out; have := HK4.out; omega
                      case rel => exact ⟨(x7_4), (x8_4), (wrap64 (x11_4 + 1)), (by first | rfl | (simp; done) | (simp [*]; done)), (by first | rfl | (simp; done) | (simp [*]; done)), H', ⟨by have := HK1.out; have := HK2.out; have := HJ21.out; have := HK4.out; omega⟩, ⟨by (try simp only [hl7_1]); (try simp only [hl7_2]); (try simp only [hl7_4]); (with_reducible repeat (first | apply Kd.R_alloc | apply Kd.R_drewN | apply Kd.R_drew)); exact HO_7.out⟩, ⟨by (try simp only [hl7_1]); (try simp only [hl7_2]); (try simp only [hl7_4]); (with_reducible repeat (first | apply Kd.R_alloc | apply Kd.R_drewN | apply Kd.R_drew)); exact HO_10.out⟩, ⟨by (try simp only [hl7_1]); (try simp only [hl7_2]); (try simp only [hl7_4]); (with_reducible repeat (first | refine blk_drewN ?_ _ | refine blk_drew ?_ | refine blk_alloc ?_ _)); exact BK367.out⟩, ⟨by repeat (first | (with_reducible first | exact HB.out | apply below_alloc | apply pw_below_drewN | apply below_drew1 | refine below_set ?_ GE367.out) | exact HB.out)⟩⟩
                    ·rw [if_neg c33] at H
                     exact absurd H (by simp)
                   ·rw [if_neg c32] at H
                    exact absurd H (by simp)
                  ·rw [if_neg c31] at H
                   exact absurd H (by simp)
                 ·rw [if_neg c30] at H
                  have c30b0 : decide (x11_4 < (t373.length : Int)) = false := decide_eq_false c30
                  clear c30
                  have H' := Aside0.mk H
                  clear H
                  obtain ⟨Ao43, co43, eo43⟩ := Kd.R_slice HO_10.out
                  subst eo43
                  go_wp2
                  (try simp only [← hl7_2, ← hl7_4])
                  go_roundg k4
                  case measure => have := HK1.out; have := HK2.out; have := HJ21.out; have := HK4.out; omega
                  case rel => exact ⟨(x7_4), (x8_4), (wrap64 (x9_2 + 1)), (by first | rfl | (simp; done) | (simp [*]; done)), (by first | rfl | (simp; done) | (simp [*]; done)), H', ⟨by have := HK1.out; have := HK2.out; have := HJ21.out; have := HK4.out; omega⟩, ⟨by (try simp only [hl7_1]); (try simp only [hl7_2]); (try simp only [hl7_4]); (with_reducible repeat (first | apply Kd.R_alloc | apply Kd.R_drewN | apply Kd.R_drew)); exact HO_7.out⟩, ⟨by (try simp only [hl7_1]); (try simp only [hl7_2]); (try simp only [hl7_4]); (with_reducible repeat (first | refine blk_drewN ?_ _ | refine blk_drew ?_ | refine blk_alloc ?_ _)); exact BK367.out⟩, ⟨by repeat (first | (with_reducible first | exact HB.out | apply below_alloc | apply pw_below_drewN | apply below_drew1 | refine below_set ?_ GE367.out) | exact HB.out)⟩⟩
           ·rw [if_neg c21] at H
            have c21b0 : decide (x9_2 < (x7_2.length : Int)) = false := decide_eq_false c21
            clear c21
            have H' := Aside0.mk H
            clear H
            go_wp2
            (try simp only [← hl7_1, ← hl7_2])
            go_roundg k2
            case measure => have := HK1.out; have := HK2.out; omega
            case rel => exact ⟨(x7_2), (x8_2), (by first | rfl | (simp; done) | (simp [*]; done)), H', ⟨by have := HK1.out; have := HK2.out; omega⟩, ⟨by (try simp only [hl7_1]); (try simp only [hl7_2]); (with_reducible repeat (first | apply Kd.R_alloc | apply Kd.R_drewN | apply Kd.R_drew)); exact HO_7.out⟩, ⟨by (try simp only [hl7_1]); (try simp only [hl7_2]); (with_reducible repeat (first | refine blk_drewN ?_ _ | refine blk_drew ?_ | refine blk_alloc ?_ _)); exact BK367.out⟩, ⟨by repeat (first | (with_reducible first | exact HB.out | apply below_alloc | apply pw_below_drewN | apply below_drew1 | refine below_set ?_ GE367.out) | exact HB.out)⟩⟩
        ·replace c20 := Bool.eq_false_iff.mpr c20
         subst c20
         have H1 : (some x7_1) = some r := by rw [if_neg (show ¬ (false = true) by decide)] at H; exact H
         clear H
         have H := H1
         clear H1
         obtain rfl := Option.some.inj H
         go_wp2
         go_ret
         exact ⟨_, by first | rfl | (simp [errW_none, errW_some] <;> rfl) | (simp [*, errW_none, errW_some] <;> rfl), by (with_reducible repeat (first | apply Kd.R_alloc | apply Kd.R_drewN | apply Kd.R_drew)); exact HO_7.out, by repeat (first | (with_reducible first | exact HB.out | apply below_alloc | apply pw_below_drewN | apply below_drew1 | refine below_set ?_ GE367.out) | exact HB.out)⟩
     ·rw [if_neg c12] at H
      exact absurd H (by simp)
    ·rw [if_neg c11] at H
     exact absurd H (by simp)
  ·rw [if_neg c5] at H
   exact absurd H (by simp)
 ·rw [if_neg c4] at H
  exact absurd H (by simp)
end
end Go.Proofs.Ytilopoegoddggaa.X
