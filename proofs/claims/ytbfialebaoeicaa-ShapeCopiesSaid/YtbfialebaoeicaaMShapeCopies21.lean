/- Part 22 of the proof of the statement ShapeCopies: the words of the walks, the walks through the functions that it reaches, and the plain laws of what they compute. -/
import Derived.Test.YtbfialebaoeicaaMShapeCopies20
import Derived.RegionTactic
import Derived.ChangeAlike
import Derived.Deep.QuietTactic
import Derived.BigQuiet
import Derived.StillTailTactics
import Derived.Deep.MidRow
namespace Go.Proofs.Ytbfialebaoeicaa.X
open Go.RowKit Go.Proofs.YtbfialebaoeicaaW.PrintWords Go.Proofs.YtbfialebaoeicaaW.PrintLast Go.Proofs.YtbfialebaoeicaaW.PrintMore
attribute [local go_sem] max2_int min2_int max_two min_two max_three min_three max_four min_four
set_option linter.all false
noncomputable section
mutual
def davitref02_Short.l0 : Nat → Int → Int → List (S27) → Option (Bool)
 | 0, _, _, _ => none
 | k + 1, x3, x4, x138000 => if x4 < (x138000.length : Int) then (if 0 ≤ x4 then (if (((rd_T27 x138000 x4).f2).length : Int) > 70 then (some false) else (davitref02_Short.l1 k x3 x4 0 x138000)) else (none)) else (some (decide (x3 ≤ 2000)))
def davitref02_Short.l1 : Nat → Int → Int → Int → List (S27) → Option (Bool)
 | 0, _, _, _, _ => none
 | k + 1, x3, x4, x5, x138000 => if 0 ≤ x4 then (if x4 < (x138000.length : Int) then (if x5 < (((rd_T27 x138000 x4).f2).length : Int) then (if 0 ≤ x5 then (if (((rd_T41 ((rd_T27 x138000 x4).f2) x5).f2).length : Int) > 70 then (davitref02_Short.j2 k x3 x4 x5 true x138000 ((rd_T41 ((rd_T27 x138000 x4).f2) x5).f0) ((rd_T41 ((rd_T27 x138000 x4).f2) x5).f1.f0) ((rd_T41 ((rd_T27 x138000 x4).f2) x5).f1.f1) ((rd_T41 ((rd_T27 x138000 x4).f2) x5).f1.f2) ((rd_T41 ((rd_T27 x138000 x4).f2) x5).f1.f3) ((rd_T41 ((rd_T27 x138000 x4).f2) x5).f2) ((rd_T41 ((rd_T27 x138000 x4).f2) x5).f3.f0) ((rd_T41 ((rd_T27 x138000 x4).f2) x5).f3.f1) ((rd_T41 ((rd_T27 x138000 x4).f2) x5).f3.f2) ((rd_T41 ((rd_T27 x138000 x4).f2) x5).f3.f3) ((rd_T41 ((rd_T27 x138000 x4).f2) x5).f3.f4) ((rd_T41 ((rd_T27 x138000 x4).f2) x5).f3.f5) ((rd_T41 ((rd_T27 x138000 x4).f2) x5).f3.f6) ((rd_T41 ((rd_T27 x138000 x4).f2) x5).f3.f7)) else (if (((rd_T41 ((rd_T27 x138000 x4).f2) x5).f1.f1).length : Int) > 20 then (davitref02_Short.j2 k x3 x4 x5 true x138000 ((rd_T41 ((rd_T27 x138000 x4).f2) x5).f0) ((rd_T41 ((rd_T27 x138000 x4).f2) x5).f1.f0) ((rd_T41 ((rd_T27 x138000 x4).f2) x5).f1.f1) ((rd_T41 ((rd_T27 x138000 x4).f2) x5).f1.f2) ((rd_T41 ((rd_T27 x138000 x4).f2) x5).f1.f3) ((rd_T41 ((rd_T27 x138000 x4).f2) x5).f2) ((rd_T41 ((rd_T27 x138000 x4).f2) x5).f3.f0) ((rd_T41 ((rd_T27 x138000 x4).f2) x5).f3.f1) ((rd_T41 ((rd_T27 x138000 x4).f2) x5).f3.f2) ((rd_T41 ((rd_T27 x138000 x4).f2) x5).f3.f3) ((rd_T41 ((rd_T27 x138000 x4).f2) x5).f3.f4) ((rd_T41 ((rd_T27 x138000 x4).f2) x5).f3.f5) ((rd_T41 ((rd_T27 x138000 x4).f2) x5).f3.f6) ((rd_T41 ((rd_T27 x138000 x4).f2) x5).f3.f7)) else (davitref02_Short.j2 k x3 x4 x5 (decide ((((rd_T41 ((rd_T27 x138000 x4).f2) x5).f3.f4).length : Int) > 20)) x138000 ((rd_T41 ((rd_T27 x138000 x4).f2) x5).f0) ((rd_T41 ((rd_T27 x138000 x4).f2) x5).f1.f0) ((rd_T41 ((rd_T27 x138000 x4).f2) x5).f1.f1) ((rd_T41 ((rd_T27 x138000 x4).f2) x5).f1.f2) ((rd_T41 ((rd_T27 x138000 x4).f2) x5).f1.f3) ((rd_T41 ((rd_T27 x138000 x4).f2) x5).f2) ((rd_T41 ((rd_T27 x138000 x4).f2) x5).f3.f0) ((rd_T41 ((rd_T27 x138000 x4).f2) x5).f3.f1) ((rd_T41 ((rd_T27 x138000 x4).f2) x5).f3.f2) ((rd_T41 ((rd_T27 x138000 x4).f2) x5).f3.f3) ((rd_T41 ((rd_T27 x138000 x4).f2) x5).f3.f4) ((rd_T41 ((rd_T27 x138000 x4).f2) x5).f3.f5) ((rd_T41 ((rd_T27 x138000 x4).f2) x5).f3.f6) ((rd_T41 ((rd_T27 x138000 x4).f2) x5).f3.f7)))) else (none)) else (davitref02_Short.l0 k x3 (wrap64 (x4 + 1)) x138000)) else (none)) else (none)
def davitref02_Short.j2 : Nat → Int → Int → Int → Bool → List (S27) → Bool → Int → List Int → Bool → Bool → List (S49) → Int → Int → Int → Int → List Int → Int → Int → Int → Option (Bool)
 | 0, _, _, _, _, _, _, _, _, _, _, _, _, _, _, _, _, _, _, _ => none
 | k + 1, x3, x4, x5, x64, x138000, x143000, x143001, x143002, x143003, x143004, x143005, x143006, x143007, x143008, x143009, x143010, x143011, x143012, x143013 => if x64 = true then (some false) else (davitref02_Short.l2 k (wrap64 (x3 + (x143005.length : Int))) x4 x5 0 x138000 x143000 x143001 x143002 x143003 x143004 x143005 x143006 x143007 x143008 x143009 x143010 x143011 x143012 x143013)
def davitref02_Short.l2 : Nat → Int → Int → Int → Int → List (S27) → Bool → Int → List Int → Bool → Bool → List (S49) → Int → Int → Int → Int → List Int → Int → Int → Int → Option (Bool)
 | 0, _, _, _, _, _, _, _, _, _, _, _, _, _, _, _, _, _, _, _ => none
 | k + 1, x3, x4, x5, x7, x138000, x143000, x143001, x143002, x143003, x143004, x143005, x143006, x143007, x143008, x143009, x143010, x143011, x143012, x143013 => if x7 < (x143005.length : Int) then (if 0 ≤ x7 then (if (((rd_T49 x143005 x7).f6).length : Int) > 20 then (some false) else (davitref02_Short.l2 k x3 x4 x5 (wrap64 (x7 + 1)) x138000 x143000 x143001 x143002 x143003 x143004 x143005 x143006 x143007 x143008 x143009 x143010 x143011 x143012 x143013)) else (none)) else (davitref02_Short.l1 k x3 x4 (wrap64 (x5 + 1)) x138000)
end
def davitref02_Short.f (k : Nat) (l0_0 : List (S27)) : Option (Bool) := if (l0_0.length : Int) > 20 then (some false) else (davitref02_Short.l0 k 0 0 l0_0)
theorem davitref02_Short.mono_l : ∀ k, (∀ y0 y1 y2, LeO (davitref02_Short.l0 k y0 y1 y2) (davitref02_Short.l0 (k + 1) y0 y1 y2)) ∧ (∀ y0 y1 y2 y3, LeO (davitref02_Short.l1 k y0 y1 y2 y3) (davitref02_Short.l1 (k + 1) y0 y1 y2 y3)) ∧ (∀ y0 y1 y2 y3 y4 y5 y6 y7 y8 y9 y10 y11 y12 y13 y14 y15 y16 y17 y18, LeO (davitref02_Short.j2 k y0 y1 y2 y3 y4 y5 y6 y7 y8 y9 y10 y11 y12 y13 y14 y15 y16 y17 y18) (davitref02_Short.j2 (k + 1) y0 y1 y2 y3 y4 y5 y6 y7 y8 y9 y10 y11 y12 y13 y14 y15 y16 y17 y18)) ∧ (∀ y0 y1 y2 y3 y4 y5 y6 y7 y8 y9 y10 y11 y12 y13 y14 y15 y16 y17 y18, LeO (davitref02_Short.l2 k y0 y1 y2 y3 y4 y5 y6 y7 y8 y9 y10 y11 y12 y13 y14 y15 y16 y17 y18) (davitref02_Short.l2 (k + 1) y0 y1 y2 y3 y4 y5 y6 y7 y8 y9 y10 y11 y12 y13 y14 y15 y16 y17 y18))
 | 0 => ⟨fun _ _ _ r h => by simp [davitref02_Short.l0] at h, fun _ _ _ _ r h => by simp [davitref02_Short.l1] at h, fun _ _ _ _ _ _ _ _ _ _ _ _ _ _ _ _ _ _ _ r h => by simp [davitref02_Short.j2] at h, fun _ _ _ _ _ _ _ _ _ _ _ _ _ _ _ _ _ _ _ r h => by simp [davitref02_Short.l2] at h⟩
 | k + 1 => by
  obtain ⟨ih0, ih1, ih2, ih3⟩ := davitref02_Short.mono_l k
  refine ⟨?_, ?_, ?_, ?_⟩
  ·intro y0 y1 y2
   unfold davitref02_Short.l0
   repeat' first
   | (with_reducible exact ih0 _ _ _)
   | (with_reducible exact ih1 _ _ _ _)
   | (with_reducible exact ih2 _ _ _ _ _ _ _ _ _ _ _ _ _ _ _ _ _ _ _)
   | (with_reducible exact ih3 _ _ _ _ _ _ _ _ _ _ _ _ _ _ _ _ _ _ _)
   | (with_reducible exact LeO.refl _)
   | (with_reducible exact LeO.none _)
   | (with_reducible refine LeO.ite ?_ ?_)
   | (with_reducible refine LeO.bind ?_ (fun _ => ?_))
   | exact ih0 _ _ _
   | exact ih1 _ _ _ _
   | exact ih2 _ _ _ _ _ _ _ _ _ _ _ _ _ _ _ _ _ _ _
   | exact ih3 _ _ _ _ _ _ _ _ _ _ _ _ _ _ _ _ _ _ _
   | exact LeO.none _
   | refine LeO.ite ?_ ?_
   | refine LeO.bind ?_ (fun _ => ?_)
  ·intro y0 y1 y2 y3
   unfold davitref02_Short.l1
   repeat' first
   | (with_reducible exact ih0 _ _ _)
   | (with_reducible exact ih1 _ _ _ _)
   | (with_reducible exact ih2 _ _ _ _ _ _ _ _ _ _ _ _ _ _ _ _ _ _ _)
   | (with_reducible exact ih3 _ _ _ _ _ _ _ _ _ _ _ _ _ _ _ _ _ _ _)
   | (with_reducible exact LeO.refl _)
   | (with_reducible exact LeO.none _)
   | (with_reducible refine LeO.ite ?_ ?_)
   | (with_reducible refine LeO.bind ?_ (fun _ => ?_))
   | exact ih0 _ _ _
   | exact ih1 _ _ _ _
   | exact ih2 _ _ _ _ _ _ _ _ _ _ _ _ _ _ _ _ _ _ _
   | exact ih3 _ _ _ _ _ _ _ _ _ _ _ _ _ _ _ _ _ _ _
   | exact LeO.none _
   | refine LeO.ite ?_ ?_
   | refine LeO.bind ?_ (fun _ => ?_)
  ·intro y0 y1 y2 y3 y4 y5 y6 y7 y8 y9 y10 y11 y12 y13 y14 y15 y16 y17 y18
   unfold davitref02_Short.j2
   repeat' first
   | (with_reducible exact ih0 _ _ _)
   | (with_reducible exact ih1 _ _ _ _)
   | (with_reducible exact ih2 _ _ _ _ _ _ _ _ _ _ _ _ _ _ _ _ _ _ _)
   | (with_reducible exact ih3 _ _ _ _ _ _ _ _ _ _ _ _ _ _ _ _ _ _ _)
   | (with_reducible exact LeO.refl _)
   | (with_reducible exact LeO.none _)
   | (with_reducible refine LeO.ite ?_ ?_)
   | (with_reducible refine LeO.bind ?_ (fun _ => ?_))
   | exact ih0 _ _ _
   | exact ih1 _ _ _ _
   | exact ih2 _ _ _ _ _ _ _ _ _ _ _ _ _ _ _ _ _ _ _
   | exact ih3 _ _ _ _ _ _ _ _ _ _ _ _ _ _ _ _ _ _ _
   | exact LeO.none _
   | refine LeO.ite ?_ ?_
   | refine LeO.bind ?_ (fun _ => ?_)
  ·intro y0 y1 y2 y3 y4 y5 y6 y7 y8 y9 y10 y11 y12 y13 y14 y15 y16 y17 y18
   unfold davitref02_Short.l2
   repeat' first
   | (with_reducible exact ih0 _ _ _)
   | (with_reducible exact ih1 _ _ _ _)
   | (with_reducible exact ih2 _ _ _ _ _ _ _ _ _ _ _ _ _ _ _ _ _ _ _)
   | (with_reducible exact ih3 _ _ _ _ _ _ _ _ _ _ _ _ _ _ _ _ _ _ _)
   | (with_reducible exact LeO.refl _)
   | (with_reducible exact LeO.none _)
   | (with_reducible refine LeO.ite ?_ ?_)
   | (with_reducible refine LeO.bind ?_ (fun _ => ?_))
   | exact ih0 _ _ _
   | exact ih1 _ _ _ _
   | exact ih2 _ _ _ _ _ _ _ _ _ _ _ _ _ _ _ _ _ _ _
   | exact ih3 _ _ _ _ _ _ _ _ _ _ _ _ _ _ _ _ _ _ _
   | exact LeO.none _
   | refine LeO.ite ?_ ?_
   | refine LeO.bind ?_ (fun _ => ?_)
theorem davitref02_Short.mono : ∀ a0 k, LeO (davitref02_Short.f k a0) (davitref02_Short.f (k + 1) a0) := by
 intro a0 k
 obtain ⟨ih0, ih1, ih2, ih3⟩ := davitref02_Short.mono_l k
 unfold davitref02_Short.f
 repeat' first
   | (with_reducible exact ih0 _ _ _)
   | (with_reducible exact ih1 _ _ _ _)
   | (with_reducible exact ih2 _ _ _ _ _ _ _ _ _ _ _ _ _ _ _ _ _ _ _)
   | (with_reducible exact ih3 _ _ _ _ _ _ _ _ _ _ _ _ _ _ _ _ _ _ _)
   | (with_reducible exact LeO.refl _)
   | (with_reducible exact LeO.none _)
   | (with_reducible refine LeO.ite ?_ ?_)
   | (with_reducible refine LeO.bind ?_ (fun _ => ?_))
   | exact ih0 _ _ _
   | exact ih1 _ _ _ _
   | exact ih2 _ _ _ _ _ _ _ _ _ _ _ _ _ _ _ _ _ _ _
   | exact ih3 _ _ _ _ _ _ _ _ _ _ _ _ _ _ _ _ _ _ _
   | exact LeO.none _
   | refine LeO.ite ?_ ?_
   | refine LeO.bind ?_ (fun _ => ?_)
set_option maxHeartbeats 8000000 in
set_option maxRecDepth 100000 in
theorem davitref02_Short.calls (k : Nat) (A0_0 : Option Addr) (c0_0 : Nat) (l0_0 : List (S27)) (r : Bool) (w : World) (hr0_0 : Kd.C k27 w A0_0 l0_0.length l0_0) (hc0_0 : l0_0.length ≤ c0_0) (h : davitref02_Short.f k l0_0 = some r) :
  Calls Try.prog 15 #[.agg #[.slice A0_0 l0_0.length c0_0]] w fun e w' => e = .returned (.bool r) ∧ Below w.heap.size w w' := by
 have hu24 := Try.underlying24
 have hu41 := Try.underlying41
 have HR0_0 := Aside0.mk hr0_0
 have HC0_0 := Aside0.mk hc0_0
 clear hr0_0 hc0_0
 have HB := Aside0.mk (Below.refl w.heap.size w)
 have H : (if (l0_0.length : Int) > 20 then (some false) else (davitref02_Short.l0 k 0 0 l0_0)) = some r := h
 clear h
 by_cases c2 : (l0_0.length : Int) > 20
 ·rw [if_pos c2] at H
  have c2b0 : decide (20 < (l0_0.length : Int)) = true := decide_eq_true c2
  have c2b1 : decide (20 < l0_0.length) = true := decide_eq_true (by omega)
  clear c2
  obtain rfl := Option.some.inj H
  go_enter Try.func15, Try.ntmps15
  go_wp2_with (first | ((with_reducible refine gate_dst (N := 1) rfl ?_); (try (refine gate_guard (by rfl) ?_; dsimp only)); refine box_event ?hg (N := 1) ?hd (cs := #[.slice A0_0 l0_0.length c0_0]) (t := 24) ?hr ?_; (case hd => rfl); (case hg => rfl); (case hr => first | (go_simp; done) | (go_simp; rfl)); intro gb137 hg w3 hbox hb; have n0_ := Aside0.mk (below_step (by repeat (first | (with_reducible first | exact HB.out | apply below_alloc | apply pw_below_drewN | apply below_drew1) | exact HB.out)) hb); have n1_ := Aside0.mk (hbox); have n2_ := Aside0.mk ((by rw [hg]; exact (below_size (by repeat (first | (with_reducible first | exact HB.out | apply below_alloc | apply pw_below_drewN | apply below_drew1) | exact HB.out))) : w.heap.size ≤ gb137)); have n3_ := Aside0.mk ((by rw [hg]; exact (below_size (by repeat (first | (with_reducible first | exact HB.out | apply below_alloc | apply pw_below_drewN | apply below_drew1) | exact HB.out))) : w.heap.size ≤ gb137)); clear HB; have HB := n0_; have BK137 := n1_; have GW137 := n2_; have GE137 := n3_; clear n0_ n1_ n2_ n3_; clear hb hbox hg; have hcz4_0 : w3.cell? ⟨gb137, 0, none⟩ = some (.slice A0_0 l0_0.length c0_0) := (blk_cell BK137.out 0).trans rfl; have hfz4_0 := blk_frozen BK137.out 0))
  go_ret
  exact ⟨by first | rfl | (simp [errW_none, errW_some] <;> rfl) | (simp [*, errW_none, errW_some] <;> rfl), by repeat (first | (with_reducible first | exact HB.out | apply below_alloc | apply pw_below_drewN | apply below_drew1 | refine below_set ?_ GE137.out) | exact HB.out)⟩
 ·rw [if_neg c2] at H
  have c2b0 : decide (20 < (l0_0.length : Int)) = false := decide_eq_false c2
  have c2b1 : decide (20 < l0_0.length) = false := decide_eq_false (by omega)
  clear c2
  have H' := Aside0.mk H
  clear H
  go_enter Try.func15, Try.ntmps15
  go_wp2_with (first | ((with_reducible refine gate_dst (N := 1) rfl ?_); (try (refine gate_guard (by rfl) ?_; dsimp only)); refine box_event ?hg (N := 1) ?hd (cs := #[.slice A0_0 l0_0.length c0_0]) (t := 24) ?hr ?_; (case hd => rfl); (case hg => rfl); (case hr => first | (go_simp; done) | (go_simp; rfl)); intro gb137 hg w5 hbox hb; have n0_ := Aside0.mk (below_step (by repeat (first | (with_reducible first | exact HB.out | apply below_alloc | apply pw_below_drewN | apply below_drew1) | exact HB.out)) hb); have n1_ := Aside0.mk (hbox); have n2_ := Aside0.mk ((by rw [hg]; exact (below_size (by repeat (first | (with_reducible first | exact HB.out | apply below_alloc | apply pw_below_drewN | apply below_drew1) | exact HB.out))) : w.heap.size ≤ gb137)); have n3_ := Aside0.mk ((by rw [hg]; exact (below_size (by repeat (first | (with_reducible first | exact HB.out | apply below_alloc | apply pw_below_drewN | apply below_drew1) | exact HB.out))) : w.heap.size ≤ gb137)); clear HB; have HB := n0_; have BK137 := n1_; have GW137 := n2_; have GE137 := n3_; clear n0_ n1_ n2_ n3_; clear hb hbox hg; have hcz6_0 : w5.cell? ⟨gb137, 0, none⟩ = some (.slice A0_0 l0_0.length c0_0) := (blk_cell BK137.out 0).trans rfl; have hfz6_0 := blk_frozen BK137.out 0))
  go_loopg [3, 4] k (fun kq v3 v4 w' => ∃ (x3_1 : Int) (x4_1 : Int), v3 = .int .i64 x3_1 ∧ v4 = .int .i64 x4_1 ∧ Aside0 (davitref02_Short.l0 kq x3_1 x4_1 l0_0 = some r) ∧ Aside0 (kq ≤ k) ∧ Aside0 (w'.heap[gb137]? = some (.cells #[(.slice A0_0 l0_0.length c0_0)] 24 (0, 0))) ∧ Aside0 (Below w.heap.size w w'))
  case atStart => exact ⟨(0), (0), (by first | rfl | (simp; done) | (simp [*]; done)), (by first | rfl | (simp; done) | (simp [*]; done)), H', ⟨Nat.le_refl _⟩, ⟨by (with_reducible repeat (first | refine blk_drewN ?_ _ | refine blk_drew ?_ | refine blk_alloc ?_ _)); exact BK137.out⟩, ⟨by repeat (first | (with_reducible first | exact HB.out | apply below_alloc | apply pw_below_drewN | apply below_drew1 | refine below_set ?_ GE137.out) | exact HB.out)⟩⟩
  case round =>
   clear H'
   try clear c1
   try clear c2
   try clear c2b0
   try clear c2b1
   try clear p2
   try clear hcz4_0
   try clear hcz6_0
   try clear hfz4_0
   try clear hfz6_0
   obtain ⟨x3_1, x4_1, rfl, rfl, HA, HK1, BK137, HB⟩ := hrel
   cases gk with
   | zero => exact absurd HA.out (by simp [davitref02_Short.l0])
   | succ k1 =>
    have H := HA.out
    clear HA
    simp only [davitref02_Short.l0] at H
    by_cases c7 : x4_1 < (l0_0.length : Int)
    ·rw [if_pos c7] at H
     have c7b0 : decide (x4_1 < (l0_0.length : Int)) = true := decide_eq_true c7
     clear c7
     by_cases c8 : 0 ≤ x4_1
     ·rw [if_pos c8] at H
      have c8b0 : decide (0 ≤ x4_1) = true := decide_eq_true c8
      clear c8
      by_cases c9 : (((rd_T27 l0_0 x4_1).f2).length : Int) > 70
      ·rw [if_pos c9] at H
       have c9b0 : decide (70 < (((rd_T27 l0_0 x4_1).f2).length : Int)) = true := decide_eq_true c9
       have c9b1 : decide (70 < ((rd_T27 l0_0 x4_1).f2).length) = true := decide_eq_true (by omega)
       clear c9
       obtain rfl := Option.some.inj H
       have hcz10_0 : wr.cell? ⟨gb137, 0, none⟩ = some (.slice A0_0 l0_0.length c0_0) := (blk_cell BK137.out 0).trans rfl
       have hfz10_0 := blk_frozen BK137.out 0
       have p138 : 0 ≤ (x4_1 : Int) := of_decide_eq_true (by first | (with_reducible assumption) | assumption)
       have q138 : x4_1 < (l0_0.length : Int) := of_decide_eq_true (by first | (with_reducible assumption) | assumption)
       obtain ⟨ad138, A138_2, c138_2, e138, hx138_0, hx138_1, hx138_2, hl138_2, hi138_2⟩ := at_T27 HR0_0.out x4_1 p138 q138
       cases e138
       replace hx138_0 := (HB.out.cell (World.block_lt_of_cell? w _ hx138_0)).trans hx138_0
       replace hx138_1 := (HB.out.cell (World.block_lt_of_cell? w _ hx138_1)).trans hx138_1
       replace hx138_2 := (HB.out.cell (World.block_lt_of_cell? w _ hx138_2)).trans hx138_2
       have HR138_2 := Aside0.mk hi138_2
       have HC138_2 := Aside0.mk hl138_2
       clear hi138_2 hl138_2
       replace p138 := eq_true p138
       replace q138 := eq_true q138
       go_wp2
       go_ret
       exact ⟨by first | rfl | (simp [errW_none, errW_some] <;> rfl) | (simp [*, errW_none, errW_some] <;> rfl), by repeat (first | (with_reducible first | exact HB.out | apply below_alloc | apply pw_below_drewN | apply below_drew1 | refine below_set ?_ GE137.out) | exact HB.out)⟩
      ·rw [if_neg c9] at H
       have c9b0 : decide (70 < (((rd_T27 l0_0 x4_1).f2).length : Int)) = false := decide_eq_false c9
       have c9b1 : decide (70 < ((rd_T27 l0_0 x4_1).f2).length) = false := decide_eq_false (by omega)
       clear c9
       have H' := Aside0.mk H
       clear H
       have hcz11_0 : wr.cell? ⟨gb137, 0, none⟩ = some (.slice A0_0 l0_0.length c0_0) := (blk_cell BK137.out 0).trans rfl
       have hfz11_0 := blk_frozen BK137.out 0
       have p138 : 0 ≤ (x4_1 : Int) := of_decide_eq_true (by first | (with_reducible assumption) | assumption)
       have q138 : x4_1 < (l0_0.length : Int) := of_decide_eq_true (by first | (with_reducible assumption) | assumption)
       obtain ⟨ad138, A138_2, c138_2, e138, hx138_0, hx138_1, hx138_2, hl138_2, hi138_2⟩ := at_T27 HR0_0.out x4_1 p138 q138
       cases e138
       replace hx138_0 := (HB.out.cell (World.block_lt_of_cell? w _ hx138_0)).trans hx138_0
       replace hx138_1 := (HB.out.cell (World.block_lt_of_cell? w _ hx138_1)).trans hx138_1
       replace hx138_2 := (HB.out.cell (World.block_lt_of_cell? w _ hx138_2)).trans hx138_2
       have HR138_2 := Aside0.mk hi138_2
       have HC138_2 := Aside0.mk hl138_2
       clear hi138_2 hl138_2
       replace p138 := eq_true p138
       replace q138 := eq_true q138
       go_wp2
       go_loopg [3, 5] k1 (fun kq v3 v5 w' => ∃ (x3_2 : Int) (x5_2 : Int), v3 = .int .i64 x3_2 ∧ v5 = .int .i64 x5_2 ∧ Aside0 (davitref02_Short.l1 kq x3_2 x4_1 x5_2 l0_0 = some r) ∧ Aside0 (kq ≤ k1) ∧ Aside0 (w'.heap[gb137]? = some (.cells #[(.slice (some ad138) l0_0.length c0_0)] 24 (0, 0))) ∧ Aside0 (Below w.heap.size w w'))
       case atStart => exact ⟨(x3_1), (0), (by first | rfl | (simp; done) | (simp [*]; done)), (by first | rfl | (simp; done) | (simp [*]; done)), H', ⟨Nat.le_refl _⟩, ⟨by (with_reducible repeat (first | refine blk_drewN ?_ _ | refine blk_drew ?_ | refine blk_alloc ?_ _)); exact BK137.out⟩, ⟨by repeat (first | (with_reducible first | exact HB.out | apply below_alloc | apply pw_below_drewN | apply below_drew1 | refine below_set ?_ GE137.out) | exact HB.out)⟩⟩
       case round =>
        clear H'
        try clear c1
        try clear p1
        try clear q1
        try clear hx1
        try clear c2
        try clear c2b0
        try clear c2b1
        try clear p2
        try clear c7
        try clear c7b0
        try clear c8
        try clear c8b0
        try clear c9
        try clear c9b0
        try clear c9b1
        try clear hcz10_0
        try clear hcz11_0
        try clear hcz4_0
        try clear hcz6_0
        try clear hfz10_0
        try clear hfz11_0
        try clear hfz4_0
        try clear hfz6_0
        try clear hx138_0
        try clear hx138_1
        try clear hx138_2
        try clear p138
        try clear p2
        try clear q138
        obtain ⟨x3_2, x5_2, rfl, rfl, HA, HK2, BK137, HB⟩ := hrel
        cases gk with
        | zero => exact absurd HA.out (by simp [davitref02_Short.l1])
        | succ k2 =>
         have H := HA.out
         clear HA
         simp only [davitref02_Short.l1] at H
         by_cases c12 : 0 ≤ x4_1
         ·rw [if_pos c12] at H
          have c12b0 : decide (0 ≤ x4_1) = true := decide_eq_true c12
          clear c12
          by_cases c13 : x4_1 < (l0_0.length : Int)
          ·rw [if_pos c13] at H
           have c13b0 : decide (x4_1 < (l0_0.length : Int)) = true := decide_eq_true c13
           clear c13
           by_cases c14 : x5_2 < (((rd_T27 l0_0 x4_1).f2).length : Int)
           ·rw [if_pos c14] at H
            have c14b0 : decide (x5_2 < (((rd_T27 l0_0 x4_1).f2).length : Int)) = true := decide_eq_true c14
            clear c14
            by_cases c15 : 0 ≤ x5_2
            ·rw [if_pos c15] at H
             have c15b0 : decide (0 ≤ x5_2) = true := decide_eq_true c15
             clear c15
             have HC16 := Aside0.mk H
             clear H
             have hcz17_0 : wr.cell? ⟨gb137, 0, none⟩ = some (.slice (some ad138) l0_0.length c0_0) := (blk_cell BK137.out 0).trans rfl
             have hfz17_0 := blk_frozen BK137.out 0
             have p139 : 0 ≤ (x4_1 : Int) := of_decide_eq_true (by first | (with_reducible assumption) | assumption)
             have q139 : x4_1 < (l0_0.length : Int) := of_decide_eq_true (by first | (with_reducible assumption) | assumption)
             obtain ⟨ad139, A139_2, c139_2, e139, hx139_0, hx139_1, hx139_2, hl139_2, hi139_2⟩ := at_T27 HR0_0.out x4_1 p139 q139
             obtain rfl : ad138 = ad139 := (by injection e139)
             replace hx139_0 := (HB.out.cell (World.block_lt_of_cell? w _ hx139_0)).trans hx139_0
             replace hx139_1 := (HB.out.cell (World.block_lt_of_cell? w _ hx139_1)).trans hx139_1
             replace hx139_2 := (HB.out.cell (World.block_lt_of_cell? w _ hx139_2)).trans hx139_2
             have HR139_2 := Aside0.mk hi139_2
             have HC139_2 := Aside0.mk hl139_2
             clear hi139_2 hl139_2
             replace p139 := eq_true p139
             replace q139 := eq_true q139
             have p140 : 0 ≤ (x4_1 : Int) := of_decide_eq_true (by first | (with_reducible assumption) | assumption)
             have q140 : x4_1 < (l0_0.length : Int) := of_decide_eq_true (by first | (with_reducible assumption) | assumption)
             obtain ⟨ad140, A140_2, c140_2, e140, hx140_0, hx140_1, hx140_2, hl140_2, hi140_2⟩ := at_T27 HR0_0.out x4_1 p140 q140
             obtain rfl : ad138 = ad140 := (by injection e140)
             replace hx140_0 := (HB.out.cell (World.block_lt_of_cell? w _ hx140_0)).trans hx140_0
             replace hx140_1 := (HB.out.cell (World.block_lt_of_cell? w _ hx140_1)).trans hx140_1
             replace hx140_2 := (HB.out.cell (World.block_lt_of_cell? w _ hx140_2)).trans hx140_2
             have HR140_2 := Aside0.mk hi140_2
             have HC140_2 := Aside0.mk hl140_2
             clear hi140_2 hl140_2
             replace p140 := eq_true p140
             replace q140 := eq_true q140
             have ea_ := Option.some.inj (hx139_2.symm.trans hx140_2)
             injection ea_ with ea_ en_ ec_
             subst ea_
             subst ec_
             clear en_
             have p141 : 0 ≤ (x5_2 : Int) := of_decide_eq_true (by first | (with_reducible assumption) | assumption)
             have q141 : x5_2 < (((rd_T27 l0_0 x4_1).f2).length : Int) := of_decide_eq_true (by first | (with_reducible assumption) | assumption)
             obtain ⟨ad141, A141_2, c141_2, A141_5, c141_5, A141_10, c141_10, e141, hx141_0, hx141_1, hx141_2, hx141_3, hx141_4, hx141_5, hx141_6, hx141_7, hx141_8, hx141_9, hx141_10, hx141_11, hx141_12, hx141_13, hl141_2, hi141_2, hl141_5, hi141_5, hl141_10, hi141_10⟩ := at_T41 HR140_2.out x5_2 p141 q141
             cases e141
             replace hx141_0 := (HB.out.cell (World.block_lt_of_cell? w _ hx141_0)).trans hx141_0
             replace hx141_1 := (HB.out.cell (World.block_lt_of_cell? w _ hx141_1)).trans hx141_1
             replace hx141_2 := (HB.out.cell (World.block_lt_of_cell? w _ hx141_2)).trans hx141_2
             replace hx141_3 := (HB.out.cell (World.block_lt_of_cell? w _ hx141_3)).trans hx141_3
             replace hx141_4 := (HB.out.cell (World.block_lt_of_cell? w _ hx141_4)).trans hx141_4
             replace hx141_5 := (HB.out.cell (World.block_lt_of_cell? w _ hx141_5)).trans hx141_5
             replace hx141_6 := (HB.out.cell (World.block_lt_of_cell? w _ hx141_6)).trans hx141_6
             replace hx141_7 := (HB.out.cell (World.block_lt_of_cell? w _ hx141_7)).trans hx141_7
             replace hx141_8 := (HB.out.cell (World.block_lt_of_cell? w _ hx141_8)).trans hx141_8
             replace hx141_9 := (HB.out.cell (World.block_lt_of_cell? w _ hx141_9)).trans hx141_9
             replace hx141_10 := (HB.out.cell (World.block_lt_of_cell? w _ hx141_10)).trans hx141_10
             replace hx141_11 := (HB.out.cell (World.block_lt_of_cell? w _ hx141_11)).trans hx141_11
             replace hx141_12 := (HB.out.cell (World.block_lt_of_cell? w _ hx141_12)).trans hx141_12
             replace hx141_13 := (HB.out.cell (World.block_lt_of_cell? w _ hx141_13)).trans hx141_13
             have HR141_2 := Aside0.mk hi141_2
             have HC141_2 := Aside0.mk hl141_2
             clear hi141_2 hl141_2
             have HR141_5 := Aside0.mk hi141_5
             have HC141_5 := Aside0.mk hl141_5
             clear hi141_5 hl141_5
             have HR141_10 := Aside0.mk hi141_10
             have HC141_10 := Aside0.mk hl141_10
             clear hi141_10 hl141_10
             replace p141 := eq_true p141
             replace q141 := eq_true q141
             go_upto_region 13 with (first | ((with_reducible refine gate_dst (N := 6) rfl ?_); (try (refine gate_guard (by rfl) ?_; dsimp only)); refine box_event ?hg (N := 6) ?hd (cs := #[.bool false, .int .i64 0, .slice none 0 0, .bool false, .bool false, .slice none 0 0, .int .i64 0, .int .i64 0, .int .i64 0, .int .i64 0, .slice none 0 0, .int .i64 0, .int .i64 0, .int .i64 0]) (t := 41) ?hr ?_; (case hd => rfl); (case hg => rfl); (case hr => first | (go_simp; done) | (go_simp; rfl)); intro gb142 hg w18 hbox hb; have n0_ := Aside0.mk (blk_below (g := gb137) (o := .cells #[.slice (some ad138) l0_0.length c0_0] 24 (0, 0)) (by (with_reducible repeat (first | refine blk_drewN ?_ _ | refine blk_drew ?_ | refine blk_alloc ?_ _)); exact BK137.out) hb); have n1_ := Aside0.mk (below_step (by repeat (first | (with_reducible first | exact HB.out | apply below_alloc | apply pw_below_drewN | apply below_drew1 | refine below_set ?_ GE137.out) | exact HB.out)) hb); have n2_ := Aside0.mk (hbox); have n3_ := Aside0.mk ((by rw [hg]; exact (below_size (by repeat (first | (with_reducible first | exact HB.out | apply below_alloc | apply pw_below_drewN | apply below_drew1 | refine below_set ?_ GE137.out) | exact HB.out))) : w.heap.size ≤ gb142)); have n4_ := Aside0.mk ((by rw [hg]; exact (below_size (by repeat (first | (with_reducible first | exact HB.out | apply below_alloc | apply pw_below_drewN | apply below_drew1 | refine below_set ?_ GE137.out) | exact HB.out))) : w.heap.size ≤ gb142)); have n5_ := Aside0.mk ((by rw [hg]; exact Nat.ne_of_lt (blk_lt (g := gb137) (o := .cells #[.slice (some ad138) l0_0.length c0_0] 24 (0, 0)) (by (with_reducible repeat (first | refine blk_drewN ?_ _ | refine blk_drew ?_ | refine blk_alloc ?_ _)); exact BK137.out)) : gb137 ≠ gb142)); have n6_ := Aside0.mk ((by rw [hg]; exact Nat.ne_of_gt (blk_lt (g := gb137) (o := .cells #[.slice (some ad138) l0_0.length c0_0] 24 (0, 0)) (by (with_reducible repeat (first | refine blk_drewN ?_ _ | refine blk_drew ?_ | refine blk_alloc ?_ _)); exact BK137.out)) : gb142 ≠ gb137)); clear BK137; clear HB; have BK137 := n0_; have HB := n1_; have BK142 := n2_; have GW142 := n3_; have GE142 := n4_; have NB137_142 := n5_; have NB142_137 := n6_; clear n0_ n1_ n2_ n3_ n4_ n5_ n6_; clear hb hbox hg; have hnb19 := NB142_137.out; have hnc19 := NB137_142.out; have hcz20_0 : w18.cell? ⟨gb142, 0, none⟩ = some (.bool false) := (blk_cell BK142.out 0).trans rfl; have hcz20_1 : w18.cell? ⟨gb142, 1, none⟩ = some (.int .i64 0) := (blk_cell BK142.out 1).trans rfl; have hcz20_2 : w18.cell? ⟨gb142, 2, none⟩ = some (.slice none 0 0) := (blk_cell BK142.out 2).trans rfl; have hcz20_3 : w18.cell? ⟨gb142, 3, none⟩ = some (.bool false) := (blk_cell BK142.out 3).trans rfl; have hcz20_4 : w18.cell? ⟨gb142, 4, none⟩ = some (.bool false) := (blk_cell BK142.out 4).trans rfl; have hcz20_5 : w18.cell? ⟨gb142, 5, none⟩ = some (.slice none 0 0) := (blk_cell BK142.out 5).trans rfl; have hcz20_6 : w18.cell? ⟨gb142, 6, none⟩ = some (.int .i64 0) := (blk_cell BK142.out 6).trans rfl; have hcz20_7 : w18.cell? ⟨gb142, 7, none⟩ = some (.int .i64 0) := (blk_cell BK142.out 7).trans rfl; have hcz20_8 : w18.cell? ⟨gb142, 8, none⟩ = some (.int .i64 0) := (blk_cell BK142.out 8).trans rfl; have hcz20_9 : w18.cell? ⟨gb142, 9, none⟩ = some (.int .i64 0) := (blk_cell BK142.out 9).trans rfl; have hcz20_10 : w18.cell? ⟨gb142, 10, none⟩ = some (.slice none 0 0) := (blk_cell BK142.out 10).trans rfl; have hcz20_11 : w18.cell? ⟨gb142, 11, none⟩ = some (.int .i64 0) := (blk_cell BK142.out 11).trans rfl; have hcz20_12 : w18.cell? ⟨gb142, 12, none⟩ = some (.int .i64 0) := (blk_cell BK142.out 12).trans rfl; have hcz20_13 : w18.cell? ⟨gb142, 13, none⟩ = some (.int .i64 0) := (blk_cell BK142.out 13).trans rfl; obtain ⟨hfz20_0, hfz20_1, hfz20_2, hfz20_3, hfz20_4, hfz20_5, hfz20_6, hfz20_7, hfz20_8, hfz20_9, hfz20_10, hfz20_11, hfz20_12, hfz20_13⟩ := fz14 BK142.out))
             (try simp only [Act.put, sA_, sZ_, sS_])
             go_cut [64] (fun v64 wc => ∃ (kq : Nat) (x64_15 : Bool), v64 = .bool x64_15 ∧ Aside0 (davitref02_Short.j2 kq x3_2 x4_1 x5_2 x64_15 l0_0 ((rd_T41 ((rd_T27 l0_0 x4_1).f2) x5_2).f0) ((rd_T41 ((rd_T27 l0_0 x4_1).f2) x5_2).f1.f0) ((rd_T41 ((rd_T27 l0_0 x4_1).f2) x5_2).f1.f1) ((rd_T41 ((rd_T27 l0_0 x4_1).f2) x5_2).f1.f2) ((rd_T41 ((rd_T27 l0_0 x4_1).f2) x5_2).f1.f3) ((rd_T41 ((rd_T27 l0_0 x4_1).f2) x5_2).f2) ((rd_T41 ((rd_T27 l0_0 x4_1).f2) x5_2).f3.f0) ((rd_T41 ((rd_T27 l0_0 x4_1).f2) x5_2).f3.f1) ((rd_T41 ((rd_T27 l0_0 x4_1).f2) x5_2).f3.f2) ((rd_T41 ((rd_T27 l0_0 x4_1).f2) x5_2).f3.f3) ((rd_T41 ((rd_T27 l0_0 x4_1).f2) x5_2).f3.f4) ((rd_T41 ((rd_T27 l0_0 x4_1).f2) x5_2).f3.f5) ((rd_T41 ((rd_T27 l0_0 x4_1).f2) x5_2).f3.f6) ((rd_T41 ((rd_T27 l0_0 x4_1).f2) x5_2).f3.f7) = some r) ∧ Aside0 (kq ≤ k2) ∧ Aside0 (wc.heap[gb137]? = some (.cells #[(.slice (some ad138) l0_0.length c0_0)] 24 (0, 0))) ∧ Aside0 (wc.heap[gb142]? = some (.cells #[.bool ((rd_T41 ((rd_T27 l0_0 x4_1).f2) x5_2).f0), .int .i64 ((rd_T41 ((rd_T27 l0_0 x4_1).f2) x5_2).f1.f0), (.slice A141_2 ((rd_T41 ((rd_T27 l0_0 x4_1).f2) x5_2).f1.f1).length c141_2), .bool ((rd_T41 ((rd_T27 l0_0 x4_1).f2) x5_2).f1.f2), .bool ((rd_T41 ((rd_T27 l0_0 x4_1).f2) x5_2).f1.f3), (.slice A141_5 ((rd_T41 ((rd_T27 l0_0 x4_1).f2) x5_2).f2).length c141_5), .int .i64 ((rd_T41 ((rd_T27 l0_0 x4_1).f2) x5_2).f3.f0), .int .i64 ((rd_T41 ((rd_T27 l0_0 x4_1).f2) x5_2).f3.f1), .int .i64 ((rd_T41 ((rd_T27 l0_0 x4_1).f2) x5_2).f3.f2), .int .i64 ((rd_T41 ((rd_T27 l0_0 x4_1).f2) x5_2).f3.f3), (.slice A141_10 ((rd_T41 ((rd_T27 l0_0 x4_1).f2) x5_2).f3.f4).length c141_10), .int .i64 ((rd_T41 ((rd_T27 l0_0 x4_1).f2) x5_2).f3.f5), .int .i64 ((rd_T41 ((rd_T27 l0_0 x4_1).f2) x5_2).f3.f6), .int .i64 ((rd_T41 ((rd_T27 l0_0 x4_1).f2) x5_2).f3.f7)] 41 (0, 0))) ∧ Aside0 (Below w.heap.size w wc))
             case first =>
              have H := HC16.out
              clear HC16
              by_cases c21 : (((rd_T41 ((rd_T27 l0_0 x4_1).f2) x5_2).f2).length : Int) > 70
              ·rw [if_pos c21] at H
               have c21b0 : decide (70 < (((rd_T41 ((rd_T27 l0_0 x4_1).f2) x5_2).f2).length : Int)) = true := decide_eq_true c21
               have c21b1 : decide (70 < ((rd_T41 ((rd_T27 l0_0 x4_1).f2) x5_2).f2).length) = true := decide_eq_true (by omega)
               clear c21
               (first | rw [c21b0] | (simp only [i64_w, i32_w]; rw [c21b0]) | skip)
               have H' := Aside0.mk H
               clear H
               have hnb22 := NB142_137.out
               have hnc22 := NB137_142.out
               have hcz23_0 : w18.cell? ⟨gb142, 0, none⟩ = some (.bool false) := (blk_cell BK142.out 0).trans rfl
               have hcz23_1 : w18.cell? ⟨gb142, 1, none⟩ = some (.int .i64 0) := (blk_cell BK142.out 1).trans rfl
               have hcz23_2 : w18.cell? ⟨gb142, 2, none⟩ = some (.slice none 0 0) := (blk_cell BK142.out 2).trans rfl
               have hcz23_3 : w18.cell? ⟨gb142, 3, none⟩ = some (.bool false) := (blk_cell BK142.out 3).trans rfl
               have hcz23_4 : w18.cell? ⟨gb142, 4, none⟩ = some (.bool false) := (blk_cell BK142.out 4).trans rfl
               have hcz23_5 : w18.cell? ⟨gb142, 5, none⟩ = some (.slice none 0 0) := (blk_cell BK142.out 5).trans rfl
               have hcz23_6 : w18.cell? ⟨gb142, 6, none⟩ = some (.int .i64 0) := (blk_cell BK142.out 6).trans rfl
               have hcz23_7 : w18.cell? ⟨gb142, 7, none⟩ = some (.int .i64 0) := (blk_cell BK142.out 7).trans rfl
               have hcz23_8 : w18.cell? ⟨gb142, 8, none⟩ = some (.int .i64 0) := (blk_cell BK142.out 8).trans rfl
               have hcz23_9 : w18.cell? ⟨gb142, 9, none⟩ = some (.int .i64 0) := (blk_cell BK142.out 9).trans rfl
               have hcz23_10 : w18.cell? ⟨gb142, 10, none⟩ = some (.slice none 0 0) := (blk_cell BK142.out 10).trans rfl
               have hcz23_11 : w18.cell? ⟨gb142, 11, none⟩ = some (.int .i64 0) := (blk_cell BK142.out 11).trans rfl
               have hcz23_12 : w18.cell? ⟨gb142, 12, none⟩ = some (.int .i64 0) := (blk_cell BK142.out 12).trans rfl
               have hcz23_13 : w18.cell? ⟨gb142, 13, none⟩ = some (.int .i64 0) := (blk_cell BK142.out 13).trans rfl
               obtain ⟨hfz23_0, hfz23_1, hfz23_2, hfz23_3, hfz23_4, hfz23_5, hfz23_6, hfz23_7, hfz23_8, hfz23_9, hfz23_10, hfz23_11, hfz23_12, hfz23_13⟩ := fz14 BK142.out
               go_wp2
               go_meet
               case rel => exact ⟨_, (true), (by first | rfl | (simp; done) | (simp [*]; done)), H', ⟨by have := HK1.out; have := HK2.out; first | omega | exact Nat.le_refl _⟩, ⟨by (with_reducible repeat (first | refine blk_drewN ?_ _ | refine blk_drew ?_ | refine blk_alloc ?_ _)); refine blk_far ?_ NB137_142.out _; (with_reducible repeat (first | refine blk_drewN ?_ _ | refine blk_drew ?_ | refine blk_alloc ?_ _)); refine blk_far ?_ NB137_142.out _; (with_reducible repeat (first | refine blk_drewN ?_ _ | refine blk_drew ?_ | refine blk_alloc ?_ _)); refine blk_far ?_ NB137_142.out _; (with_reducible repeat (first | refine blk_drewN ?_ _ | refine blk_drew ?_ | refine blk_alloc ?_ _)); refine blk_far ?_ NB137_142.out _; (with_reducible repeat (first | refine blk_drewN ?_ _ | refine blk_drew ?_ | refine blk_alloc ?_ _)); refine blk_far ?_ NB137_142.out _; (with_reducible repeat (first | refine blk_drewN ?_ _ | refine blk_drew ?_ | refine blk_alloc ?_ _)); refine blk_far ?_ NB137_142.out _; (with_reducible repeat (first | refine blk_drewN ?_ _ | refine blk_drew ?_ | refine blk_alloc ?_ _)); refine blk_far ?_ NB137_142.out _; (with_reducible repeat (first | refine blk_drewN ?_ _ | refine blk_drew ?_ | refine blk_alloc ?_ _)); refine blk_far ?_ NB137_142.out _; (with_reducible repeat (first | refine blk_drewN ?_ _ | refine blk_drew ?_ | refine blk_alloc ?_ _)); refine blk_far ?_ NB137_142.out _; (with_reducible repeat (first | refine blk_drewN ?_ _ | refine blk_drew ?_ | refine blk_alloc ?_ _)); refine blk_far ?_ NB137_142.out _; (with_reducible repeat (first | refine blk_drewN ?_ _ | refine blk_drew ?_ | refine blk_alloc ?_ _)); refine blk_far ?_ NB137_142.out _; (with_reducible repeat (first | refine blk_drewN ?_ _ | refine blk_drew ?_ | refine blk_alloc ?_ _)); refine blk_far ?_ NB137_142.out _; (with_reducible repeat (first | refine blk_drewN ?_ _ | refine blk_drew ?_ | refine blk_alloc ?_ _)); refine blk_far ?_ NB137_142.out _; (with_reducible repeat (first | refine blk_drewN ?_ _ | refine blk_drew ?_ | refine blk_alloc ?_ _)); refine blk_far ?_ NB137_142.out _; (with_reducible repeat (first | refine blk_drewN ?_ _ | refine blk_drew ?_ | refine blk_alloc ?_ _)); exact BK137.out⟩, ⟨by (with_reducible repeat (first | refine blk_drewN ?_ _ | refine blk_drew ?_ | refine blk_alloc ?_ _)); refine blk_put (cs := #[.bool ((rd_T41 ((rd_T27 l0_0 x4_1).f2) x5_2).f0), .int .i64 ((rd_T41 ((rd_T27 l0_0 x4_1).f2) x5_2).f1.f0), .slice A141_2 ((rd_T41 ((rd_T27 l0_0 x4_1).f2) x5_2).f1.f1).length c141_2, .bool ((rd_T41 ((rd_T27 l0_0 x4_1).f2) x5_2).f1.f2), .bool ((rd_T41 ((rd_T27 l0_0 x4_1).f2) x5_2).f1.f3), .slice A141_5 ((rd_T41 ((rd_T27 l0_0 x4_1).f2) x5_2).f2).length c141_5, .int .i64 ((rd_T41 ((rd_T27 l0_0 x4_1).f2) x5_2).f3.f0), .int .i64 ((rd_T41 ((rd_T27 l0_0 x4_1).f2) x5_2).f3.f1), .int .i64 ((rd_T41 ((rd_T27 l0_0 x4_1).f2) x5_2).f3.f2), .int .i64 ((rd_T41 ((rd_T27 l0_0 x4_1).f2) x5_2).f3.f3), .slice A141_10 ((rd_T41 ((rd_T27 l0_0 x4_1).f2) x5_2).f3.f4).length c141_10, .int .i64 ((rd_T41 ((rd_T27 l0_0 x4_1).f2) x5_2).f3.f5), .int .i64 ((rd_T41 ((rd_T27 l0_0 x4_1).f2) x5_2).f3.f6), .int .i64 0]) ?_ 13 _ rfl; (with_reducible repeat (first | refine blk_drewN ?_ _ | refine blk_drew ?_ | refine blk_alloc ?_ _)); refine blk_put (cs := #[.bool ((rd_T41 ((rd_T27 l0_0 x4_1).f2) x5_2).f0), .int .i64 ((rd_T41 ((rd_T27 l0_0 x4_1).f2) x5_2).f1.f0), .slice A141_2 ((rd_T41 ((rd_T27 l0_0 x4_1).f2) x5_2).f1.f1).length c141_2, .bool ((rd_T41 ((rd_T27 l0_0 x4_1).f2) x5_2).f1.f2), .bool ((rd_T41 ((rd_T27 l0_0 x4_1).f2) x5_2).f1.f3), .slice A141_5 ((rd_T41 ((rd_T27 l0_0 x4_1).f2) x5_2).f2).length c141_5, .int .i64 ((rd_T41 ((rd_T27 l0_0 x4_1).f2) x5_2).f3.f0), .int .i64 ((rd_T41 ((rd_T27 l0_0 x4_1).f2) x5_2).f3.f1), .int .i64 ((rd_T41 ((rd_T27 l0_0 x4_1).f2) x5_2).f3.f2), .int .i64 ((rd_T41 ((rd_T27 l0_0 x4_1).f2) x5_2).f3.f3), .slice A141_10 ((rd_T41 ((rd_T27 l0_0 x4_1).f2) x5_2).f3.f4).length c141_10, .int .i64 ((rd_T41 ((rd_T27 l0_0 x4_1).f2) x5_2).f3.f5), .int .i64 0, .int .i64 0]) ?_ 12 _ rfl; (with_reducible repeat (first | refine blk_drewN ?_ _ | refine blk_drew ?_ | refine blk_alloc ?_ _)); refine blk_put (cs := #[.bool ((rd_T41 ((rd_T27 l0_0 x4_1).f2) x5_2).f0), .int .i64 ((rd_T41 ((rd_T27 l0_0 x4_1).f2) x5_2).f1.f0), .slice A141_2 ((rd_T41 ((rd_T27 l0_0 x4_1).f2) x5_2).f1.f1).length c141_2, .bool ((rd_T41 ((rd_T27 l0_0 x4_1).f2) x5_2).f1.f2), .bool ((rd_T41 ((rd_T27 l0_0 x4_1).f2) x5_2).f1.f3), .slice A141_5 ((rd_T41 ((rd_T27 l0_0 x4_1).f2) x5_2).f2).length c141_5, .int .i64 ((rd_T41 ((rd_T27 l0_0 x4_1).f2) x5_2).f3.f0), .int .i64 ((rd_T41 ((rd_T27 l0_0 x4_1).f2) x5_2).f3.f1), .int .i64 ((rd_T41 ((rd_T27 l0_0 x4_1).f2) x5_2).f3.f2), .int .i64 ((rd_T41 ((rd_T27 l0_0 x4_1).f2) x5_2).f3.f3), .slice A141_10 ((rd_T41 ((rd_T27 l0_0 x4_1).f2) x5_2).f3.f4).length c141_10, .int .i64 0, .int .i64 0, .int .i64 0]) ?_ 11 _ rfl; (with_reducible repeat (first | refine blk_drewN ?_ _ | refine blk_drew ?_ | refine blk_alloc ?_ _)); refine blk_put (cs := #[.bool ((rd_T41 ((rd_T27 l0_0 x4_1).f2) x5_2).f0), .int .i64 ((rd_T41 ((rd_T27 l0_0 x4_1).f2) x5_2).f1.f0), .slice A141_2 ((rd_T41 ((rd_T27 l0_0 x4_1).f2) x5_2).f1.f1).length c141_2, .bool ((rd_T41 ((rd_T27 l0_0 x4_1).f2) x5_2).f1.f2), .bool ((rd_T41 ((rd_T27 l0_0 x4_1).f2) x5_2).f1.f3), .slice A141_5 ((rd_T41 ((rd_T27 l0_0 x4_1).f2) x5_2).f2).length c141_5, .int .i64 ((rd_T41 ((rd_T27 l0_0 x4_1).f2) x5_2).f3.f0), .int .i64 ((rd_T41 ((rd_T27 l0_0 x4_1).f2) x5_2).f3.f1), .int .i64 ((rd_T41 ((rd_T27 l0_0 x4_1).f2) x5_2).f3.f2), .int .i64 ((rd_T41 ((rd_T27 l0_0 x4_1).f2) x5_2).f3.f3), .slice none 0 0, .int .i64 0, .int .i64 0, .int .i64 0]) ?_ 10 _ rfl; (with_reducible repeat (first | refine blk_drewN ?_ _ | refine blk_drew ?_ | refine blk_alloc ?_ _)); refine blk_put (cs := #[.bool ((rd_T41 ((rd_T27 l0_0 x4_1).f2) x5_2).f0), .int .i64 ((rd_T41 ((rd_T27 l0_0 x4_1).f2) x5_2).f1.f0), .slice A141_2 ((rd_T41 ((rd_T27 l0_0 x4_1).f2) x5_2).f1.f1).length c141_2, .bool ((rd_T41 ((rd_T27 l0_0 x4_1).f2) x5_2).f1.f2), .bool ((rd_T41 ((rd_T27 l0_0 x4_1).f2) x5_2).f1.f3), .slice A141_5 ((rd_T41 ((rd_T27 l0_0 x4_1).f2) x5_2).f2).length c141_5, .int .i64 ((rd_T41 ((rd_T27 l0_0 x4_1).f2) x5_2).f3.f0), .int .i64 ((rd_T41 ((rd_T27 l0_0 x4_1).f2) x5_2).f3.f1), .int .i64 ((rd_T41 ((rd_T27 l0_0 x4_1).f2) x5_2).f3.f2), .int .i64 0, .slice none 0 0, .int .i64 0, .int .i64 0, .int .i64 0]) ?_ 9 _ rfl; (with_reducible repeat (first | refine blk_drewN ?_ _ | refine blk_drew ?_ | refine blk_alloc ?_ _)); refine blk_put (cs := #[.bool ((rd_T41 ((rd_T27 l0_0 x4_1).f2) x5_2).f0), .int .i64 ((rd_T41 ((rd_T27 l0_0 x4_1).f2) x5_2).f1.f0), .slice A141_2 ((rd_T41 ((rd_T27 l0_0 x4_1).f2) x5_2).f1.f1).length c141_2, .bool ((rd_T41 ((rd_T27 l0_0 x4_1).f2) x5_2).f1.f2), .bool ((rd_T41 ((rd_T27 l0_0 x4_1).f2) x5_2).f1.f3), .slice A141_5 ((rd_T41 ((rd_T27 l0_0 x4_1).f2) x5_2).f2).length c141_5, .int .i64 ((rd_T41 ((rd_T27 l0_0 x4_1).f2) x5_2).f3.f0), .int .i64 ((rd_T41 ((rd_T27 l0_0 x4_1).f2) x5_2).f3.f1), .int .i64 0, .int .i64 0, .slice none 0 0, .int .i64 0, .int .i64 0, .int .i64 0]) ?_ 8 _ rfl; (with_reducible repeat (first | refine blk_drewN ?_ _ | refine blk_drew ?_ | refine blk_alloc ?_ _)); refine blk_put (cs := #[.bool ((rd_T41 ((rd_T27 l0_0 x4_1).f2) x5_2).f0), .int .i64 ((rd_T41 ((rd_T27 l0_0 x4_1).f2) x5_2).f1.f0), .slice A141_2 ((rd_T41 ((rd_T27 l0_0 x4_1).f2) x5_2).f1.f1).length c141_2, .bool ((rd_T41 ((rd_T27 l0_0 x4_1).f2) x5_2).f1.f2), .bool ((rd_T41 ((rd_T27 l0_0 x4_1).f2) x5_2).f1.f3), .slice A141_5 ((rd_T41 ((rd_T27 l0_0 x4_1).f2) x5_2).f2).length c141_5, .int .i64 ((rd_T41 ((rd_T27 l0_0 x4_1).f2) x5_2).f3.f0), .int .i64 0, .int .i64 0, .int .i64 0, .slice none 0 0, .int .i64 0, .int .i64 0, .int .i64 0]) ?_ 7 _ rfl; (with_reducible repeat (first | refine blk_drewN ?_ _ | refine blk_drew ?_ | refine blk_alloc ?_ _)); refine blk_put (cs := #[.bool ((rd_T41 ((rd_T27 l0_0 x4_1).f2) x5_2).f0), .int .i64 ((rd_T41 ((rd_T27 l0_0 x4_1).f2) x5_2).f1.f0), .slice A141_2 ((rd_T41 ((rd_T27 l0_0 x4_1).f2) x5_2).f1.f1).length c141_2, .bool ((rd_T41 ((rd_T27 l0_0 x4_1).f2) x5_2).f1.f2), .bool ((rd_T41 ((rd_T27 l0_0 x4_1).f2) x5_2).f1.f3), .slice A141_5 ((rd_T41 ((rd_T27 l0_0 x4_1).f2) x5_2).f2).length c141_5, .int .i64 0, .int .i64 0, .int .i64 0, .int .i64 0, .slice none 0 0, .int .i64 0, .int .i64 0, .int .i64 0]) ?_ 6 _ rfl; (with_reducible repeat (first | refine blk_drewN ?_ _ | refine blk_drew ?_ | refine blk_alloc ?_ _)); refine blk_put (cs := #[.bool ((rd_T41 ((rd_T27 l0_0 x4_1).f2) x5_2).f0), .int .i64 ((rd_T41 ((rd_T27 l0_0 x4_1).f2) x5_2).f1.f0), .slice A141_2 ((rd_T41 ((rd_T27 l0_0 x4_1).f2) x5_2).f1.f1).length c141_2, .bool ((rd_T41 ((rd_T27 l0_0 x4_1).f2) x5_2).f1.f2), .bool ((rd_T41 ((rd_T27 l0_0 x4_1).f2) x5_2).f1.f3), .slice none 0 0, .int .i64 0, .int .i64 0, .int .i64 0, .int .i64 0, .slice none 0 0, .int .i64 0, .int .i64 0, .int .i64 0]) ?_ 5 _ rfl; (with_reducible repeat (first | refine blk_drewN ?_ _ | refine blk_drew ?_ | refine blk_alloc ?_ _)); refine blk_put (cs := #[.bool ((rd_T41 ((rd_T27 l0_0 x4_1).f2) x5_2).f0), .int .i64 ((rd_T41 ((rd_T27 l0_0 x4_1).f2) x5_2).f1.f0), .slice A141_2 ((rd_T41 ((rd_T27 l0_0 x4_1).f2) x5_2).f1.f1).length c141_2, .bool ((rd_T41 ((rd_T27 l0_0 x4_1).f2) x5_2).f1.f2), .bool false, .slice none 0 0, .int .i64 0, .int .i64 0, .int .i64 0, .int .i64 0, .slice none 0 0, .int .i64 0, .int .i64 0, .int .i64 0]) ?_ 4 _ rfl; (with_reducible repeat (first | refine blk_drewN ?_ _ | refine blk_drew ?_ | refine blk_alloc ?_ _)); refine blk_put (cs := #[.bool ((rd_T41 ((rd_T27 l0_0 x4_1).f2) x5_2).f0), .int .i64 ((rd_T41 ((rd_T27 l0_0 x4_1).f2) x5_2).f1.f0), .slice A141_2 ((rd_T41 ((rd_T27 l0_0 x4_1).f2) x5_2).f1.f1).length c141_2, .bool false, .bool false, .slice none 0 0, .int .i64 0, .int .i64 0, .int .i64 0, .int .i64 0, .slice none 0 0, .int .i64 0, .int .i64 0, .int .i64 0]) ?_ 3 _ rfl; (with_reducible repeat (first | refine blk_drewN ?_ _ | refine blk_drew ?_ | refine blk_alloc ?_ _)); refine blk_put (cs := #[.bool ((rd_T41 ((rd_T27 l0_0 x4_1).f2) x5_2).f0), .int .i64 ((rd_T41 ((rd_T27 l0_0 x4_1).f2) x5_2).f1.f0), .slice none 0 0, .bool false, .bool false, .slice none 0 0, .int .i64 0, .int .i64 0, .int .i64 0, .int .i64 0, .slice none 0 0, .int .i64 0, .int .i64 0, .int .i64 0]) ?_ 2 _ rfl; (with_reducible repeat (first | refine blk_drewN ?_ _ | refine blk_drew ?_ | refine blk_alloc ?_ _)); refine blk_put (cs := #[.bool ((rd_T41 ((rd_T27 l0_0 x4_1).f2) x5_2).f0), .int .i64 0, .slice none 0 0, .bool false, .bool false, .slice none 0 0, .int .i64 0, .int .i64 0, .int .i64 0, .int .i64 0, .slice none 0 0, .int .i64 0, .int .i64 0, .int .i64 0]) ?_ 1 _ rfl; (with_reducible repeat (first | refine blk_drewN ?_ _ | refine blk_drew ?_ | refine blk_alloc ?_ _)); refine blk_put (cs := #[.bool false, .int .i64 0, .slice none 0 0, .bool false, .bool false, .slice none 0 0, .int .i64 0, .int .i64 0, .int .i64 0, .int .i64 0, .slice none 0 0, .int .i64 0, .int .i64 0, .int .i64 0]) ?_ 0 _ rfl; (with_reducible repeat (first | refine blk_drewN ?_ _ | refine blk_drew ?_ | refine blk_alloc ?_ _)); exact BK142.out⟩, ⟨by repeat (first | (with_reducible first | exact HB.out | apply below_alloc | apply pw_below_drewN | apply below_drew1 | refine below_set ?_ GE137.out | refine below_set ?_ GE142.out) | exact HB.out)⟩⟩
              ·rw [if_neg c21] at H
               have c21b0 : decide (70 < (((rd_T41 ((rd_T27 l0_0 x4_1).f2) x5_2).f2).length : Int)) = false := decide_eq_false c21
               have c21b1 : decide (70 < ((rd_T41 ((rd_T27 l0_0 x4_1).f2) x5_2).f2).length) = false := decide_eq_false (by omega)
               clear c21
               (first | rw [c21b0] | (simp only [i64_w, i32_w]; rw [c21b0]) | skip)
               by_cases c24 : (((rd_T41 ((rd_T27 l0_0 x4_1).f2) x5_2).f1.f1).length : Int) > 20
               ·rw [if_pos c24] at H
                have c24b0 : decide (20 < (((rd_T41 ((rd_T27 l0_0 x4_1).f2) x5_2).f1.f1).length : Int)) = true := decide_eq_true c24
                have c24b1 : decide (20 < ((rd_T41 ((rd_T27 l0_0 x4_1).f2) x5_2).f1.f1).length) = true := decide_eq_true (by omega)
                clear c24
                have H' := Aside0.mk H
                clear H
                have hnb25 := NB142_137.out
                have hnc25 := NB137_142.out
                have hcz26_0 : w18.cell? ⟨gb142, 0, none⟩ = some (.bool false) := (blk_cell BK142.out 0).trans rfl
                have hcz26_1 : w18.cell? ⟨gb142, 1, none⟩ = some (.int .i64 0) := (blk_cell BK142.out 1).trans rfl
                have hcz26_2 : w18.cell? ⟨gb142, 2, none⟩ = some (.slice none 0 0) := (blk_cell BK142.out 2).trans rfl
                have hcz26_3 : w18.cell? ⟨gb142, 3, none⟩ = some (.bool false) := (blk_cell BK142.out 3).trans rfl
                have hcz26_4 : w18.cell? ⟨gb142, 4, none⟩ = some (.bool false) := (blk_cell BK142.out 4).trans rfl
                have hcz26_5 : w18.cell? ⟨gb142, 5, none⟩ = some (.slice none 0 0) := (blk_cell BK142.out 5).trans rfl
                have hcz26_6 : w18.cell? ⟨gb142, 6, none⟩ = some (.int .i64 0) := (blk_cell BK142.out 6).trans rfl
                have hcz26_7 : w18.cell? ⟨gb142, 7, none⟩ = some (.int .i64 0) := (blk_cell BK142.out 7).trans rfl
                have hcz26_8 : w18.cell? ⟨gb142, 8, none⟩ = some (.int .i64 0) := (blk_cell BK142.out 8).trans rfl
                have hcz26_9 : w18.cell? ⟨gb142, 9, none⟩ = some (.int .i64 0) := (blk_cell BK142.out 9).trans rfl
                have hcz26_10 : w18.cell? ⟨gb142, 10, none⟩ = some (.slice none 0 0) := (blk_cell BK142.out 10).trans rfl
                have hcz26_11 : w18.cell? ⟨gb142, 11, none⟩ = some (.int .i64 0) := (blk_cell BK142.out 11).trans rfl
                have hcz26_12 : w18.cell? ⟨gb142, 12, none⟩ = some (.int .i64 0) := (blk_cell BK142.out 12).trans rfl
                have hcz26_13 : w18.cell? ⟨gb142, 13, none⟩ = some (.int .i64 0) := (blk_cell BK142.out 13).trans rfl
                obtain ⟨hfz26_0, hfz26_1, hfz26_2, hfz26_3, hfz26_4, hfz26_5, hfz26_6, hfz26_7, hfz26_8, hfz26_9, hfz26_10, hfz26_11, hfz26_12, hfz26_13⟩ := fz14 BK142.out
                go_wp2
                go_meet
                case rel => exact ⟨_, (true), (by first | rfl | (simp; done) | (simp [*]; done)), H', ⟨by have := HK1.out; have := HK2.out; first | omega | exact Nat.le_refl _⟩, ⟨by (with_reducible repeat (first | refine blk_drewN ?_ _ | refine blk_drew ?_ | refine blk_alloc ?_ _)); refine blk_far ?_ NB137_142.out _; (with_reducible repeat (first | refine blk_drewN ?_ _ | refine blk_drew ?_ | refine blk_alloc ?_ _)); refine blk_far ?_ NB137_142.out _; (with_reducible repeat (first | refine blk_drewN ?_ _ | refine blk_drew ?_ | refine blk_alloc ?_ _)); refine blk_far ?_ NB137_142.out _; (with_reducible repeat (first | refine blk_drewN ?_ _ | refine blk_drew ?_ | refine blk_alloc ?_ _)); refine blk_far ?_ NB137_142.out _; (with_reducible repeat (first | refine blk_drewN ?_ _ | refine blk_drew ?_ | refine blk_alloc ?_ _)); refine blk_far ?_ NB137_142.out _; (with_reducible repeat (first | refine blk_drewN ?_ _ | refine blk_drew ?_ | refine blk_alloc ?_ _)); refine blk_far ?_ NB137_142.out _; (with_reducible repeat (first | refine blk_drewN ?_ _ | refine blk_drew ?_ | refine blk_alloc ?_ _)); refine blk_far ?_ NB137_142.out _; (with_reducible repeat (first | refine blk_drewN ?_ _ | refine blk_drew ?_ | refine blk_alloc ?_ _)); refine blk_far ?_ NB137_142.out _; (with_reducible repeat (first | refine blk_drewN ?_ _ | refine blk_drew ?_ | refine blk_alloc ?_ _)); refine blk_far ?_ NB137_142.out _; (with_reducible repeat (first | refine blk_drewN ?_ _ | refine blk_drew ?_ | refine blk_alloc ?_ _)); refine blk_far ?_ NB137_142.out _; (with_reducible repeat (first | refine blk_drewN ?_ _ | refine blk_drew ?_ | refine blk_alloc ?_ _)); refine blk_far ?_ NB137_142.out _; (with_reducible repeat (first | refine blk_drewN ?_ _ | refine blk_drew ?_ | refine blk_alloc ?_ _)); refine blk_far ?_ NB137_142.out _; (with_reducible repeat (first | refine blk_drewN ?_ _ | refine blk_drew ?_ | refine blk_alloc ?_ _)); refine blk_far ?_ NB137_142.out _; (with_reducible repeat (first | refine blk_drewN ?_ _ | refine blk_drew ?_ | refine blk_alloc ?_ _)); refine blk_far ?_ NB137_142.out _; (with_reducible repeat (first | refine blk_drewN ?_ _ | refine blk_drew ?_ | refine blk_alloc ?_ _)); exact BK137.out⟩, ⟨by (with_reducible repeat (first | refine blk_drewN ?_ _ | refine blk_drew ?_ | refine blk_alloc ?_ _)); refine blk_put (cs := #[.bool ((rd_T41 ((rd_T27 l0_0 x4_1).f2) x5_2).f0), .int .i64 ((rd_T41 ((rd_T27 l0_0 x4_1).f2) x5_2).f1.f0), .slice A141_2 ((rd_T41 ((rd_T27 l0_0 x4_1).f2) x5_2).f1.f1).length c141_2, .bool ((rd_T41 ((rd_T27 l0_0 x4_1).f2) x5_2).f1.f2), .bool ((rd_T41 ((rd_T27 l0_0 x4_1).f2) x5_2).f1.f3), .slice A141_5 ((rd_T41 ((rd_T27 l0_0 x4_1).f2) x5_2).f2).length c141_5, .int .i64 ((rd_T41 ((rd_T27 l0_0 x4_1).f2) x5_2).f3.f0), .int .i64 ((rd_T41 ((rd_T27 l0_0 x4_1).f2) x5_2).f3.f1), .int .i64 ((rd_T41 ((rd_T27 l0_0 x4_1).f2) x5_2).f3.f2), .int .i64 ((rd_T41 ((rd_T27 l0_0 x4_1).f2) x5_2).f3.f3), .slice A141_10 ((rd_T41 ((rd_T27 l0_0 x4_1).f2) x5_2).f3.f4).length c141_10, .int .i64 ((rd_T41 ((rd_T27 l0_0 x4_1).f2) x5_2).f3.f5), .int .i64 ((rd_T41 ((rd_T27 l0_0 x4_1).f2) x5_2).f3.f6), .int .i64 0]) ?_ 13 _ rfl; (with_reducible repeat (first | refine blk_drewN ?_ _ | refine blk_drew ?_ | refine blk_alloc ?_ _)); refine blk_put (cs := #[.bool ((rd_T41 ((rd_T27 l0_0 x4_1).f2) x5_2).f0), .int .i64 ((rd_T41 ((rd_T27 l0_0 x4_1).f2) x5_2).f1.f0), .slice A141_2 ((rd_T41 ((rd_T27 l0_0 x4_1).f2) x5_2).f1.f1).length c141_2, .bool ((rd_T41 ((rd_T27 l0_0 x4_1).f2) x5_2).f1.f2), .bool ((rd_T41 ((rd_T27 l0_0 x4_1).f2) x5_2).f1.f3), .slice A141_5 ((rd_T41 ((rd_T27 l0_0 x4_1).f2) x5_2).f2).length c141_5, .int .i64 ((rd_T41 ((rd_T27 l0_0 x4_1).f2) x5_2).f3.f0), .int .i64 ((rd_T41 ((rd_T27 l0_0 x4_1).f2) x5_2).f3.f1), .int .i64 ((rd_T41 ((rd_T27 l0_0 x4_1).f2) x5_2).f3.f2), .int .i64 ((rd_T41 ((rd_T27 l0_0 x4_1).f2) x5_2).f3.f3), .slice A141_10 ((rd_T41 ((rd_T27 l0_0 x4_1).f2) x5_2).f3.f4).length c141_10, .int .i64 ((rd_T41 ((rd_T27 l0_0 x4_1).f2) x5_2).f3.f5), .int .i64 0, .int .i64 0]) ?_ 12 _ rfl; (with_reducible repeat (first | refine blk_drewN ?_ _ | refine blk_drew ?_ | refine blk_alloc ?_ _)); refine blk_put (cs := #[.bool ((rd_T41 ((rd_T27 l0_0 x4_1).f2) x5_2).f0), .int .i64 ((rd_T41 ((rd_T27 l0_0 x4_1).f2) x5_2).f1.f0), .slice A141_2 ((rd_T41 ((rd_T27 l0_0 x4_1).f2) x5_2).f1.f1).length c141_2, .bool ((rd_T41 ((rd_T27 l0_0 x4_1).f2) x5_2).f1.f2), .bool ((rd_T41 ((rd_T27 l0_0 x4_1).f2) x5_2).f1.f3), .slice A141_5 ((rd_T41 ((rd_T27 l0_0 x4_1).f2) x5_2).f2).length c141_5, .int .i64 ((rd_T41 ((rd_T27 l0_0 x4_1).f2) x5_2).f3.f0), .int .i64 ((rd_T41 ((rd_T27 l0_0 x4_1).f2) x5_2).f3.f1), .int .i64 ((rd_T41 ((rd_T27 l0_0 x4_1).f2) x5_2).f3.f2), .int .i64 ((rd_T41 ((rd_T27 l0_0 x4_1).f2) x5_2).f3.f3), .slice A141_10 ((rd_T41 ((rd_T27 l0_0 x4_1).f2) x5_2).f3.f4).length c141_10, .int .i64 0, .int .i64 0, .int .i64 0]) ?_ 11 _ rfl; (with_reducible repeat (first | refine blk_drewN ?_ _ | refine blk_drew ?_ | refine blk_alloc ?_ _)); refine blk_put (cs := #[.bool ((rd_T41 ((rd_T27 l0_0 x4_1).f2) x5_2).f0), .int .i64 ((rd_T41 ((rd_T27 l0_0 x4_1).f2) x5_2).f1.f0), .slice A141_2 ((rd_T41 ((rd_T27 l0_0 x4_1).f2) x5_2).f1.f1).length c141_2, .bool ((rd_T41 ((rd_T27 l0_0 x4_1).f2) x5_2).f1.f2), .bool ((rd_T41 ((rd_T27 l0_0 x4_1).f2) x5_2).f1.f3), .slice A141_5 ((rd_T41 ((rd_T27 l0_0 x4_1).f2) x5_2).f2).length c141_5, .int .i64 ((rd_T41 ((rd_T27 l0_0 x4_1).f2) x5_2).f3.f0), .int .i64 ((rd_T41 ((rd_T27 l0_0 x4_1).f2) x5_2).f3.f1), .int .i64 ((rd_T41 ((rd_T27 l0_0 x4_1).f2) x5_2).f3.f2), .int .i64 ((rd_T41 ((rd_T27 l0_0 x4_1).f2) x5_2).f3.f3), .slice none 0 0, .int .i64 0, .int .i64 0, .int .i64 0]) ?_ 10 _ rfl; (with_reducible repeat (first | refine blk_drewN ?_ _ | refine blk_drew ?_ | refine blk_alloc ?_ _)); refine blk_put (cs := #[.bool ((rd_T41 ((rd_T27 l0_0 x4_1).f2) x5_2).f0), .int .i64 ((rd_T41 ((rd_T27 l0_0 x4_1).f2) x5_2).f1.f0), .slice A141_2 ((rd_T41 ((rd_T27 l0_0 x4_1).f2) x5_2).f1.f1).length c141_2, .bool ((rd_T41 ((rd_T27 l0_0 x4_1).f2) x5_2).f1.f2), .bool ((rd_T41 ((rd_T27 l0_0 x4_1).f2) x5_2).f1.f3), .slice A141_5 ((rd_T41 ((rd_T27 l0_0 x4_1).f2) x5_2).f2).length c141_5, .int .i64 ((rd_T41 ((rd_T27 l0_0 x4_1).f2) x5_2).f3.f0), .int .i64 ((rd_T41 ((rd_T27 l0_0 x4_1).f2) x5_2).f3.f1), .int .i64 ((rd_T41 ((rd_T27 l0_0 x4_1).f2) x5_2).f3.f2), .int .i64 0, .slice none 0 0, .int .i64 0, .int .i64 0, .int .i64 0]) ?_ 9 _ rfl; (with_reducible repeat (first | refine blk_drewN ?_ _ | refine blk_drew ?_ | refine blk_alloc ?_ _)); refine blk_put (cs := #[.bool ((rd_T41 ((rd_T27 l0_0 x4_1).f2) x5_2).f0), .int .i64 ((rd_T41 ((rd_T27 l0_0 x4_1).f2) x5_2).f1.f0), .slice A141_2 ((rd_T41 ((rd_T27 l0_0 x4_1).f2) x5_2).f1.f1).length c141_2, .bool ((rd_T41 ((rd_T27 l0_0 x4_1).f2) x5_2).f1.f2), .bool ((rd_T41 ((rd_T27 l0_0 x4_1).f2) x5_2).f1.f3), .slice A141_5 ((rd_T41 ((rd_T27 l0_0 x4_1).f2) x5_2).f2).length c141_5, .int .i64 ((rd_T41 ((rd_T27 l0_0 x4_1).f2) x5_2).f3.f0), .int .i64 ((rd_T41 ((rd_T27 l0_0 x4_1).f2) x5_2).f3.f1), .int .i64 0, .int .i64 0, .slice none 0 0, .int .i64 0, .int .i64 0, .int .i64 0]) ?_ 8 _ rfl; (with_reducible repeat (first | refine blk_drewN ?_ _ | refine blk_drew ?_ | refine blk_alloc ?_ _)); refine blk_put (cs := #[.bool ((rd_T41 ((rd_T27 l0_0 x4_1).f2) x5_2).f0), .int .i64 ((rd_T41 ((rd_T27 l0_0 x4_1).f2) x5_2).f1.f0), .slice A141_2 ((rd_T41 ((rd_T27 l0_0 x4_1).f2) x5_2).f1.f1).length c141_2, .bool ((rd_T41 ((rd_T27 l0_0 x4_1).f2) x5_2).f1.f2), .bool ((rd_T41 ((rd_T27 l0_0 x4_1).f2) x5_2).f1.f3), .slice A141_5 ((rd_T41 ((rd_T27 l0_0 x4_1).f2) x5_2).f2).length c141_5, .int .i64 ((rd_T41 ((rd_T27 l0_0 x4_1).f2) x5_2).f3.f0), .int .i64 0, .int .i64 0, .int .i64 0, .slice none 0 0, .int .i64 0, .int .i64 0, .int .i64 0]) ?_ 7 _ rfl; (with_reducible repeat (first | refine blk_drewN ?_ _ | refine blk_drew ?_ | refine blk_alloc ?_ _)); refine blk_put (cs := #[.bool ((rd_T41 ((rd_T27 l0_0 x4_1).f2) x5_2).f0), .int .i64 ((rd_T41 ((rd_T27 l0_0 x4_1).f2) x5_2).f1.f0), .slice A141_2 ((rd_T41 ((rd_T27 l0_0 x4_1).f2) x5_2).f1.f1).length c141_2, .bool ((rd_T41 ((rd_T27 l0_0 x4_1).f2) x5_2).f1.f2), .bool ((rd_T41 ((rd_T27 l0_0 x4_1).f2) x5_2).f1.f3), .slice A141_5 ((rd_T41 ((rd_T27 l0_0 x4_1).f2) x5_2).f2).length c141_5, .int .i64 0, .int .i64 0, .int .i64 0, .int .i64 0, .slice none 0 0, .int .i64 0, .int .i64 0, .int .i64 0]) ?_ 6 _ rfl; (with_reducible repeat (first | refine blk_drewN ?_ _ | refine blk_drew ?_ | refine blk_alloc ?_ _)); refine blk_put (cs := #[.bool ((rd_T41 ((rd_T27 l0_0 x4_1).f2) x5_2).f0), .int .i64 ((rd_T41 ((rd_T27 l0_0 x4_1).f2) x5_2).f1.f0), .slice A141_2 ((rd_T41 ((rd_T27 l0_0 x4_1).f2) x5_2).f1.f1).length c141_2, .bool ((rd_T41 ((rd_T27 l0_0 x4_1).f2) x5_2).f1.f2), .bool ((rd_T41 ((rd_T27 l0_0 x4_1).f2) x5_2).f1.f3), .slice none 0 0, .int .i64 0, .int .i64 0, .int .i64 0, .int .i64 0, .slice none 0 0, .int .i64 0, .int .i64 0, .int .i64 0]) ?_ 5 _ rfl; (with_reducible repeat (first | refine blk_drewN ?_ _ | refine blk_drew ?_ | refine blk_alloc ?_ _)); refine blk_put (cs := #[.bool ((rd_T41 ((rd_T27 l0_0 x4_1).f2) x5_2).f0), .int .i64 ((rd_T41 ((rd_T27 l0_0 x4_1).f2) x5_2).f1.f0), .slice A141_2 ((rd_T41 ((rd_T27 l0_0 x4_1).f2) x5_2).f1.f1).length c141_2, .bool ((rd_T41 ((rd_T27 l0_0 x4_1).f2) x5_2).f1.f2), .bool false, .slice none 0 0, .int .i64 0, .int .i64 0, .int .i64 0, .int .i64 0, .slice none 0 0, .int .i64 0, .int .i64 0, .int .i64 0]) ?_ 4 _ rfl; (with_reducible repeat (first | refine blk_drewN ?_ _ | refine blk_drew ?_ | refine blk_alloc ?_ _)); refine blk_put (cs := #[.bool ((rd_T41 ((rd_T27 l0_0 x4_1).f2) x5_2).f0), .int .i64 ((rd_T41 ((rd_T27 l0_0 x4_1).f2) x5_2).f1.f0), .slice A141_2 ((rd_T41 ((rd_T27 l0_0 x4_1).f2) x5_2).f1.f1).length c141_2, .bool false, .bool false, .slice none 0 0, .int .i64 0, .int .i64 0, .int .i64 0, .int .i64 0, .slice none 0 0, .int .i64 0, .int .i64 0, .int .i64 0]) ?_ 3 _ rfl; (with_reducible repeat (first | refine blk_drewN ?_ _ | refine blk_drew ?_ | refine blk_alloc ?_ _)); refine blk_put (cs := #[.bool ((rd_T41 ((rd_T27 l0_0 x4_1).f2) x5_2).f0), .int .i64 ((rd_T41 ((rd_T27 l0_0 x4_1).f2) x5_2).f1.f0), .slice none 0 0, .bool false, .bool false, .slice none 0 0, .int .i64 0, .int .i64 0, .int .i64 0, .int .i64 0, .slice none 0 0, .int .i64 0, .int .i64 0, .int .i64 0]) ?_ 2 _ rfl; (with_reducible repeat (first | refine blk_drewN ?_ _ | refine blk_drew ?_ | refine blk_alloc ?_ _)); refine blk_put (cs := #[.bool ((rd_T41 ((rd_T27 l0_0 x4_1).f2) x5_2).f0), .int .i64 0, .slice none 0 0, .bool false, .bool false, .slice none 0 0, .int .i64 0, .int .i64 0, .int .i64 0, .int .i64 0, .slice none 0 0, .int .i64 0, .int .i64 0, .int .i64 0]) ?_ 1 _ rfl; (with_reducible repeat (first | refine blk_drewN ?_ _ | refine blk_drew ?_ | refine blk_alloc ?_ _)); refine blk_put (cs := #[.bool false, .int .i64 0, .slice none 0 0, .bool false, .bool false, .slice none 0 0, .int .i64 0, .int .i64 0, .int .i64 0, .int .i64 0, .slice none 0 0, .int .i64 0, .int .i64 0, .int .i64 0]) ?_ 0 _ rfl; (with_reducible repeat (first | refine blk_drewN ?_ _ | refine blk_drew ?_ | refine blk_alloc ?_ _)); exact BK142.out⟩, ⟨by repeat (first | (with_reducible first | exact HB.out | apply below_alloc | apply pw_below_drewN | apply below_drew1 | refine below_set ?_ GE137.out | refine below_set ?_ GE142.out) | exact HB.out)⟩⟩
               ·rw [if_neg c24] at H
                have c24b0 : decide (20 < (((rd_T41 ((rd_T27 l0_0 x4_1).f2) x5_2).f1.f1).length : Int)) = false := decide_eq_false c24
                have c24b1 : decide (20 < ((rd_T41 ((rd_T27 l0_0 x4_1).f2) x5_2).f1.f1).length) = false := decide_eq_false (by omega)
                clear c24
                have H' := Aside0.mk H
                clear H
                have hnb27 := NB142_137.out
                have hnc27 := NB137_142.out
                have hcz28_0 : w18.cell? ⟨gb142, 0, none⟩ = some (.bool false) := (blk_cell BK142.out 0).trans rfl
                have hcz28_1 : w18.cell? ⟨gb142, 1, none⟩ = some (.int .i64 0) := (blk_cell BK142.out 1).trans rfl
                have hcz28_2 : w18.cell? ⟨gb142, 2, none⟩ = some (.slice none 0 0) := (blk_cell BK142.out 2).trans rfl
                have hcz28_3 : w18.cell? ⟨gb142, 3, none⟩ = some (.bool false) := (blk_cell BK142.out 3).trans rfl
                have hcz28_4 : w18.cell? ⟨gb142, 4, none⟩ = some (.bool false) := (blk_cell BK142.out 4).trans rfl
                have hcz28_5 : w18.cell? ⟨gb142, 5, none⟩ = some (.slice none 0 0) := (blk_cell BK142.out 5).trans rfl
                have hcz28_6 : w18.cell? ⟨gb142, 6, none⟩ = some (.int .i64 0) := (blk_cell BK142.out 6).trans rfl
                have hcz28_7 : w18.cell? ⟨gb142, 7, none⟩ = some (.int .i64 0) := (blk_cell BK142.out 7).trans rfl
                have hcz28_8 : w18.cell? ⟨gb142, 8, none⟩ = some (.int .i64 0) := (blk_cell BK142.out 8).trans rfl
                have hcz28_9 : w18.cell? ⟨gb142, 9, none⟩ = some (.int .i64 0) := (blk_cell BK142.out 9).trans rfl
                have hcz28_10 : w18.cell? ⟨gb142, 10, none⟩ = some (.slice none 0 0) := (blk_cell BK142.out 10).trans rfl
                have hcz28_11 : w18.cell? ⟨gb142, 11, none⟩ = some (.int .i64 0) := (blk_cell BK142.out 11).trans rfl
                have hcz28_12 : w18.cell? ⟨gb142, 12, none⟩ = some (.int .i64 0) := (blk_cell BK142.out 12).trans rfl
                have hcz28_13 : w18.cell? ⟨gb142, 13, none⟩ = some (.int .i64 0) := (blk_cell BK142.out 13).trans rfl
                obtain ⟨hfz28_0, hfz28_1, hfz28_2, hfz28_3, hfz28_4, hfz28_5, hfz28_6, hfz28_7, hfz28_8, hfz28_9, hfz28_10, hfz28_11, hfz28_12, hfz28_13⟩ := fz14 BK142.out
                go_wp2
                go_meet
                case rel => exact ⟨_, (decide ((((rd_T41 ((rd_T27 l0_0 x4_1).f2) x5_2).f3.f4).length : Int) > 20)), (by first | rfl | (simp; done) | (simp [*]; done)), H', ⟨by have := HK1.out; have := HK2.out; first | omega | exact Nat.le_refl _⟩, ⟨by (with_reducible repeat (first | refine blk_drewN ?_ _ | refine blk_drew ?_ | refine blk_alloc ?_ _)); refine blk_far ?_ NB137_142.out _; (with_reducible repeat (first | refine blk_drewN ?_ _ | refine blk_drew ?_ | refine blk_alloc ?_ _)); refine blk_far ?_ NB137_142.out _; (with_reducible repeat (first | refine blk_drewN ?_ _ | refine blk_drew ?_ | refine blk_alloc ?_ _)); refine blk_far ?_ NB137_142.out _; (with_reducible repeat (first | refine blk_drewN ?_ _ | refine blk_drew ?_ | refine blk_alloc ?_ _)); refine blk_far ?_ NB137_142.out _; (with_reducible repeat (first | refine blk_drewN ?_ _ | refine blk_drew ?_ | refine blk_alloc ?_ _)); refine blk_far ?_ NB137_142.out _; (with_reducible repeat (first | refine blk_drewN ?_ _ | refine blk_drew ?_ | refine blk_alloc ?_ _)); refine blk_far ?_ NB137_142.out _; (with_reducible repeat (first | refine blk_drewN ?_ _ | refine blk_drew ?_ | refine blk_alloc ?_ _)); refine blk_far ?_ NB137_142.out _; (with_reducible repeat (first | refine blk_drewN ?_ _ | refine blk_drew ?_ | refine blk_alloc ?_ _)); refine blk_far ?_ NB137_142.out _; (with_reducible repeat (first | refine blk_drewN ?_ _ | refine blk_drew ?_ | refine blk_alloc ?_ _)); refine blk_far ?_ NB137_142.out _; (with_reducible repeat (first | refine blk_drewN ?_ _ | refine blk_drew ?_ | refine blk_alloc ?_ _)); refine blk_far ?_ NB137_142.out _; (with_reducible repeat (first | refine blk_drewN ?_ _ | refine blk_drew ?_ | refine blk_alloc ?_ _)); refine blk_far ?_ NB137_142.out _; (with_reducible repeat (first | refine blk_drewN ?_ _ | refine blk_drew ?_ | refine blk_alloc ?_ _)); refine blk_far ?_ NB137_142.out _; (with_reducible repeat (first | refine blk_drewN ?_ _ | refine blk_drew ?_ | refine blk_alloc ?_ _)); refine blk_far ?_ NB137_142.out _; (with_reducible repeat (first | refine blk_drewN ?_ _ | refine blk_drew ?_ | refine blk_alloc ?_ _)); refine blk_far ?_ NB137_142.out _; (with_reducible repeat (first | refine blk_drewN ?_ _ | refine blk_drew ?_ | refine blk_alloc ?_ _)); exact BK137.out⟩, ⟨by (with_reducible repeat (first | refine blk_drewN ?_ _ | refine blk_drew ?_ | refine blk_alloc ?_ _)); refine blk_put (cs := #[.bool ((rd_T41 ((rd_T27 l0_0 x4_1).f2) x5_2).f0), .int .i64 ((rd_T41 ((rd_T27 l0_0 x4_1).f2) x5_2).f1.f0), .slice A141_2 ((rd_T41 ((rd_T27 l0_0 x4_1).f2) x5_2).f1.f1).length c141_2, .bool ((rd_T41 ((rd_T27 l0_0 x4_1).f2) x5_2).f1.f2), .bool ((rd_T41 ((rd_T27 l0_0 x4_1).f2) x5_2).f1.f3), .slice A141_5 ((rd_T41 ((rd_T27 l0_0 x4_1).f2) x5_2).f2).length c141_5, .int .i64 ((rd_T41 ((rd_T27 l0_0 x4_1).f2) x5_2).f3.f0), .int .i64 ((rd_T41 ((rd_T27 l0_0 x4_1).f2) x5_2).f3.f1), .int .i64 ((rd_T41 ((rd_T27 l0_0 x4_1).f2) x5_2).f3.f2), .int .i64 ((rd_T41 ((rd_T27 l0_0 x4_1).f2) x5_2).f3.f3), .slice A141_10 ((rd_T41 ((rd_T27 l0_0 x4_1).f2) x5_2).f3.f4).length c141_10, .int .i64 ((rd_T41 ((rd_T27 l0_0 x4_1).f2) x5_2).f3.f5), .int .i64 ((rd_T41 ((rd_T27 l0_0 x4_1).f2) x5_2).f3.f6), .int .i64 0]) ?_ 13 _ rfl; (with_reducible repeat (first | refine blk_drewN ?_ _ | refine blk_drew ?_ | refine blk_alloc ?_ _)); refine blk_put (cs := #[.bool ((rd_T41 ((rd_T27 l0_0 x4_1).f2) x5_2).f0), .int .i64 ((rd_T41 ((rd_T27 l0_0 x4_1).f2) x5_2).f1.f0), .slice A141_2 ((rd_T41 ((rd_T27 l0_0 x4_1).f2) x5_2).f1.f1).length c141_2, .bool ((rd_T41 ((rd_T27 l0_0 x4_1).f2) x5_2).f1.f2), .bool ((rd_T41 ((rd_T27 l0_0 x4_1).f2) x5_2).f1.f3), .slice A141_5 ((rd_T41 ((rd_T27 l0_0 x4_1).f2) x5_2).f2).length c141_5, .int .i64 ((rd_T41 ((rd_T27 l0_0 x4_1).f2) x5_2).f3.f0), .int .i64 ((rd_T41 ((rd_T27 l0_0 x4_1).f2) x5_2).f3.f1), .int .i64 ((rd_T41 ((rd_T27 l0_0 x4_1).f2) x5_2).f3.f2), .int .i64 ((rd_T41 ((rd_T27 l0_0 x4_1).f2) x5_2).f3.f3), .slice A141_10 ((rd_T41 ((rd_T27 l0_0 x4_1).f2) x5_2).f3.f4).length c141_10, .int .i64 ((rd_T41 ((rd_T27 l0_0 x4_1).f2) x5_2).f3.f5), .int .i64 0, .int .i64 0]) ?_ 12 _ rfl; (with_reducible repeat (first | refine blk_drewN ?_ _ | refine blk_drew ?_ | refine blk_alloc ?_ _)); refine blk_put (cs := #[.bool ((rd_T41 ((rd_T27 l0_0 x4_1).f2) x5_2).f0), .int .i64 ((rd_T41 ((rd_T27 l0_0 x4_1).f2) x5_2).f1.f0), .slice A141_2 ((rd_T41 ((rd_T27 l0_0 x4_1).f2) x5_2).f1.f1).length c141_2, .bool ((rd_T41 ((rd_T27 l0_0 x4_1).f2) x5_2).f1.f2), .bool ((rd_T41 ((rd_T27 l0_0 x4_1).f2) x5_2).f1.f3), .slice A141_5 ((rd_T41 ((rd_T27 l0_0 x4_1).f2) x5_2).f2).length c141_5, .int .i64 ((rd_T41 ((rd_T27 l0_0 x4_1).f2) x5_2).f3.f0), .int .i64 ((rd_T41 ((rd_T27 l0_0 x4_1).f2) x5_2).f3.f1), .int .i64 ((rd_T41 ((rd_T27 l0_0 x4_1).f2) x5_2).f3.f2), .int .i64 ((rd_T41 ((rd_T27 l0_0 x4_1).f2) x5_2).f3.f3), .slice A141_10 ((rd_T41 ((rd_T27 l0_0 x4_1).f2) x5_2).f3.f4).length c141_10, .int .i64 0, .int .i64 0, .int .i64 0]) ?_ 11 _ rfl; (with_reducible repeat (first | refine blk_drewN ?_ _ | refine blk_drew ?_ | refine blk_alloc ?_ _)); refine blk_put (cs := #[.bool ((rd_T41 ((rd_T27 l0_0 x4_1).f2) x5_2).f0), .int .i64 ((rd_T41 ((rd_T27 l0_0 x4_1).f2) x5_2).f1.f0), .slice A141_2 ((rd_T41 ((rd_T27 l0_0 x4_1).f2) x5_2).f1.f1).length c141_2, .bool ((rd_T41 ((rd_T27 l0_0 x4_1).f2) x5_2).f1.f2), .bool ((rd_T41 ((rd_T27 l0_0 x4_1).f2) x5_2).f1.f3), .slice A141_5 ((rd_T41 ((rd_T27 l0_0 x4_1).f2) x5_2).f2).length c141_5, .int .i64 ((rd_T41 ((rd_T27 l0_0 x4_1).f2) x5_2).f3.f0), .int .i64 ((rd_T41 ((rd_T27 l0_0 x4_1).f2) x5_2).f3.f1), .int .i64 ((rd_T41 ((rd_T27 l0_0 x4_1).f2) x5_2).f3.f2), .int .i64 ((rd_T41 ((rd_T27 l0_0 x4_1).f2) x5_2).f3.f3), .slice none 0 0, .int .i64 0, .int .i64 0, .int .i64 0]) ?_ 10 _ rfl; (with_reducible repeat (first | refine blk_drewN ?_ _ | refine blk_drew ?_ | refine blk_alloc ?_ _)); refine blk_put (cs := #[.bool ((rd_T41 ((rd_T27 l0_0 x4_1).f2) x5_2).f0), .int .i64 ((rd_T41 ((rd_T27 l0_0 x4_1).f2) x5_2).f1.f0), .slice A141_2 ((rd_T41 ((rd_T27 l0_0 x4_1).f2) x5_2).f1.f1).length c141_2, .bool ((rd_T41 ((rd_T27 l0_0 x4_1).f2) x5_2).f1.f2), .bool ((rd_T41 ((rd_T27 l0_0 x4_1).f2) x5_2).f1.f3), .slice A141_5 ((rd_T41 ((rd_T27 l0_0 x4_1).f2) x5_2).f2).length c141_5, .int .i64 ((rd_T41 ((rd_T27 l0_0 x4_1).f2) x5_2).f3.f0), .int .i64 ((rd_T41 ((rd_T27 l0_0 x4_1).f2) x5_2).f3.f1), .int .i64 ((rd_T41 ((rd_T27 l0_0 x4_1).f2) x5_2).f3.f2), .int .i64 0, .slice none 0 0, .int .i64 0, .int .i64 0, .int .i64 0]) ?_ 9 _ rfl; (with_reducible repeat (first | refine blk_drewN ?_ _ | refine blk_drew ?_ | refine blk_alloc ?_ _)); refine blk_put (cs := #[.bool ((rd_T41 ((rd_T27 l0_0 x4_1).f2) x5_2).f0), .int .i64 ((rd_T41 ((rd_T27 l0_0 x4_1).f2) x5_2).f1.f0), .slice A141_2 ((rd_T41 ((rd_T27 l0_0 x4_1).f2) x5_2).f1.f1).length c141_2, .bool ((rd_T41 ((rd_T27 l0_0 x4_1).f2) x5_2).f1.f2), .bool ((rd_T41 ((rd_T27 l0_0 x4_1).f2) x5_2).f1.f3), .slice A141_5 ((rd_T41 ((rd_T27 l0_0 x4_1).f2) x5_2).f2).length c141_5, .int .i64 ((rd_T41 ((rd_T27 l0_0 x4_1).f2) x5_2).f3.f0), .int .i64 ((rd_T41 ((rd_T27 l0_0 x4_1).f2) x5_2).f3.f1), .int .i64 0, .int .i64 0, .slice none 0 0, .int .i64 0, .int .i64 0, .int .i64 0]) ?_ 8 _ rfl; (with_reducible repeat (first | refine blk_drewN ?_ _ | refine blk_drew ?_ | refine blk_alloc ?_ _)); refine blk_put (cs := #[.bool ((rd_T41 ((rd_T27 l0_0 x4_1).f2) x5_2).f0), .int .i64 ((rd_T41 ((rd_T27 l0_0 x4_1).f2) x5_2).f1.f0), .slice A141_2 ((rd_T41 ((rd_T27 l0_0 x4_1).f2) x5_2).f1.f1).length c141_2, .bool ((rd_T41 ((rd_T27 l0_0 x4_1).f2) x5_2).f1.f2), .bool ((rd_T41 ((rd_T27 l0_0 x4_1).f2) x5_2).f1.f3), .slice A141_5 ((rd_T41 ((rd_T27 l0_0 x4_1).f2) x5_2).f2).length c141_5, .int .i64 ((rd_T41 ((rd_T27 l0_0 x4_1).f2) x5_2).f3.f0), .int .i64 0, .int .i64 0, .int .i64 0, .slice none 0 0, .int .i64 0, .int .i64 0, .int .i64 0]) ?_ 7 _ rfl; (with_reducible repeat (first | refine blk_drewN ?_ _ | refine blk_drew ?_ | refine blk_alloc ?_ _)); refine blk_put (cs := #[.bool ((rd_T41 ((rd_T27 l0_0 x4_1).f2) x5_2).f0), .int .i64 ((rd_T41 ((rd_T27 l0_0 x4_1).f2) x5_2).f1.f0), .slice A141_2 ((rd_T41 ((rd_T27 l0_0 x4_1).f2) x5_2).f1.f1).length c141_2, .bool ((rd_T41 ((rd_T27 l0_0 x4_1).f2) x5_2).f1.f2), .bool ((rd_T41 ((rd_T27 l0_0 x4_1).f2) x5_2).f1.f3), .slice A141_5 ((rd_T41 ((rd_T27 l0_0 x4_1).f2) x5_2).f2).length c141_5, .int .i64 0, .int .i64 0, .int .i64 0, .int .i64 0, .slice none 0 0, .int .i64 0, .int .i64 0, .int .i64 0]) ?_ 6 _ rfl; (with_reducible repeat (first | refine blk_drewN ?_ _ | refine blk_drew ?_ | refine blk_alloc ?_ _)); refine blk_put (cs := #[.bool ((rd_T41 ((rd_T27 l0_0 x4_1).f2) x5_2).f0), .int .i64 ((rd_T41 ((rd_T27 l0_0 x4_1).f2) x5_2).f1.f0), .slice A141_2 ((rd_T41 ((rd_T27 l0_0 x4_1).f2) x5_2).f1.f1).length c141_2, .bool ((rd_T41 ((rd_T27 l0_0 x4_1).f2) x5_2).f1.f2), .bool ((rd_T41 ((rd_T27 l0_0 x4_1).f2) x5_2).f1.f3), .slice none 0 0, .int .i64 0, .int .i64 0, .int .i64 0, .int .i64 0, .slice none 0 0, .int .i64 0, .int .i64 0, .int .i64 0]) ?_ 5 _ rfl; (with_reducible repeat (first | refine blk_drewN ?_ _ | refine blk_drew ?_ | refine blk_alloc ?_ _)); refine blk_put (cs := #[.bool ((rd_T41 ((rd_T27 l0_0 x4_1).f2) x5_2).f0), .int .i64 ((rd_T41 ((rd_T27 l0_0 x4_1).f2) x5_2).f1.f0), .slice A141_2 ((rd_T41 ((rd_T27 l0_0 x4_1).f2) x5_2).f1.f1).length c141_2, .bool ((rd_T41 ((rd_T27 l0_0 x4_1).f2) x5_2).f1.f2), .bool false, .slice none 0 0, .int .i64 0, .int .i64 0, .int .i64 0, .int .i64 0, .slice none 0 0, .int .i64 0, .int .i64 0, .int .i64 0]) ?_ 4 _ rfl; (with_reducible repeat (first | refine blk_drewN ?_ _ | refine blk_drew ?_ | refine blk_alloc ?_ _)); refine blk_put (cs := #[.bool ((rd_T41 ((rd_T27 l0_0 x4_1).f2) x5_2).f0), .int .i64 ((rd_T41 ((rd_T27 l0_0 x4_1).f2) x5_2).f1.f0), .slice A141_2 ((rd_T41 ((rd_T27 l0_0 x4_1).f2) x5_2).f1.f1).length c141_2, .bool false, .bool false, .slice none 0 0, .int .i64 0, .int .i64 0, .int .i64 0, .int .i64 0, .slice none 0 0, .int .i64 0, .int .i64 0, .int .i64 0]) ?_ 3 _ rfl; (with_reducible repeat (first | refine blk_drewN ?_ _ | refine blk_drew ?_ | refine blk_alloc ?_ _)); refine blk_put (cs := #[.bool ((rd_T41 ((rd_T27 l0_0 x4_1).f2) x5_2).f0), .int .i64 ((rd_T41 ((rd_T27 l0_0 x4_1).f2) x5_2).f1.f0), .slice none 0 0, .bool false, .bool false, .slice none 0 0, .int .i64 0, .int .i64 0, .int .i64 0, .int .i64 0, .slice none 0 0, .int .i64 0, .int .i64 0, .int .i64 0]) ?_ 2 _ rfl; (with_reducible repeat (first | refine blk_drewN ?_ _ | refine blk_drew ?_ | refine blk_alloc ?_ _)); refine blk_put (cs := #[.bool ((rd_T41 ((rd_T27 l0_0 x4_1).f2) x5_2).f0), .int .i64 0, .slice none 0 0, .bool false, .bool false, .slice none 0 0, .int .i64 0, .int .i64 0, .int .i64 0, .int .i64 0, .slice none 0 0, .int .i64 0, .int .i64 0, .int .i64 0]) ?_ 1 _ rfl; (with_reducible repeat (first | refine blk_drewN ?_ _ | refine blk_drew ?_ | refine blk_alloc ?_ _)); refine blk_put (cs := #[.bool false, .int .i64 0, .slice none 0 0, .bool false, .bool false, .slice none 0 0, .int .i64 0, .int .i64 0, .int .i64 0, .int .i64 0, .slice none 0 0, .int .i64 0, .int .i64 0, .int .i64 0]) ?_ 0 _ rfl; (with_reducible repeat (first | refine blk_drewN ?_ _ | refine blk_drew ?_ | refine blk_alloc ?_ _)); exact BK142.out⟩, ⟨by repeat (first | (with_reducible first | exact HB.out | apply below_alloc | apply pw_below_drewN | apply below_drew1 | refine below_set ?_ GE137.out | refine below_set ?_ GE142.out) | exact HB.out)⟩⟩
             case rest =>
              clear HC16
              try clear c1
              try clear p1
              try clear q1
              try clear hx1
              try clear c2
              try clear c2b0
              try clear c2b1
              try clear p2
              try clear c7
              try clear c7b0
              try clear c8
              try clear c8b0
              try clear c9
              try clear c9b0
              try clear c9b1
              try clear c12
              try clear c12b0
              try clear c13
              try clear c13b0
              try clear p13
              try clear q13
              try clear hx13
              try clear c14
              try clear c14b0
              try clear p14
              try clear q14
              try clear hx14
              try clear c15
              try clear c15b0
              try clear c19
              try clear c21
              try clear c21b0
              try clear c21b1
              try clear c22
              try clear c24
              try clear c24b0
              try clear c24b1
              try clear c25
              try clear c27
              try clear hcz10_0
              try clear hcz11_0
              try clear hcz17_0
              try clear hcz20_0
              try clear hcz20_1
              try clear hcz20_10
              try clear hcz20_11
              try clear hcz20_12
              try clear hcz20_13
              try clear hcz20_2
              try clear hcz20_3
              try clear hcz20_4
              try clear hcz20_5
              try clear hcz20_6
              try clear hcz20_7
              try clear hcz20_8
              try clear hcz20_9
              try clear hcz23_0
              try clear hcz23_1
              try clear hcz23_10
              try clear hcz23_11
              try clear hcz23_12
              try clear hcz23_13
              try clear hcz23_2
              try clear hcz23_3
              try clear hcz23_4
              try clear hcz23_5
              try clear hcz23_6
              try clear hcz23_7
              try clear hcz23_8
              try clear hcz23_9
              try clear hcz26_0
              try clear hcz26_1
              try clear hcz26_10
              try clear hcz26_11
              try clear hcz26_12
              try clear hcz26_13
              try clear hcz26_2
              try clear hcz26_3
              try clear hcz26_4
              try clear hcz26_5
              try clear hcz26_6
              try clear hcz26_7
              try clear hcz26_8
              try clear hcz26_9
              try clear hcz28_0
              try clear hcz28_1
              try clear hcz28_10
              try clear hcz28_11
              try clear hcz28_12
              try clear hcz28_13
              try clear hcz28_2
              try clear hcz28_3
              try clear hcz28_4
              try clear hcz28_5
              try clear hcz28_6
              try clear hcz28_7
              try clear hcz28_8
              try clear hcz28_9
              try clear hcz4_0
              try clear hcz6_0
              try clear hfz10_0
              try clear hfz11_0
              try clear hfz17_0
              try clear hfz20_0
              try clear hfz20_1
              try clear hfz20_10
              try clear hfz20_11
              try clear hfz20_12
              try clear hfz20_13
              try clear hfz20_2
              try clear hfz20_3
              try clear hfz20_4
              try clear hfz20_5
              try clear hfz20_6
              try clear hfz20_7
              try clear hfz20_8
              try clear hfz20_9
              try clear hfz23_0
              try clear hfz23_1
              try clear hfz23_10
              try clear hfz23_11
              try clear hfz23_12
              try clear hfz23_13
              try clear hfz23_2
              try clear hfz23_3
              try clear hfz23_4
              try clear hfz23_5
              try clear hfz23_6
              try clear hfz23_7
              try clear hfz23_8
              try clear hfz23_9
              try clear hfz26_0
              try clear hfz26_1
              try clear hfz26_10
              try clear hfz26_11
              try clear hfz26_12
              try clear hfz26_13
              try clear hfz26_2
              try clear hfz26_3
              try clear hfz26_4
              try clear hfz26_5
              try clear hfz26_6
              try clear hfz26_7
              try clear hfz26_8
              try clear hfz26_9
              try clear hfz28_0
              try clear hfz28_1
              try clear hfz28_10
              try clear hfz28_11
              try clear hfz28_12
              try clear hfz28_13
              try clear hfz28_2
              try clear hfz28_3
              try clear hfz28_4
              try clear hfz28_5
              try clear hfz28_6
              try clear hfz28_7
              try clear hfz28_8
              try clear hfz28_9
              try clear hfz4_0
              try clear hfz6_0
              try clear hx138_0
              try clear hx138_1
              try clear hx138_2
              try clear hx139_0
              try clear hx139_1
              try clear hx139_2
              try clear hx140_0
              try clear hx140_1
              try clear hx140_2
              try clear hx141_0
              try clear hx141_1
              try clear hx141_10
              try clear hx141_11
              try clear hx141_12
              try clear hx141_13
              try clear hx141_2
              try clear hx141_3
              try clear hx141_4
              try clear hx141_5
              try clear hx141_6
              try clear hx141_7
              try clear hx141_8
              try clear hx141_9
              try clear p1
              try clear p138
              try clear p139
              try clear p140
              try clear p141
              try clear p2
              try clear q1
              try clear q138
              try clear q139
              try clear q140
              try clear q141
              obtain ⟨kq, x64_15, rfl, HA, HJ15, BK137, BK142, HB⟩ := hcut
              cases kq with
              | zero => exact absurd HA.out (by simp [davitref02_Short.j2])
              | succ kj15 =>
               have H := HA.out
               clear HA
               simp only [davitref02_Short.j2] at H
               by_cases c29 : x64_15 = true
               ·subst c29
                have H1 : (some false) = some r := by rw [if_pos rfl] at H; exact H
                clear H
                have H := H1
                clear H1
                obtain rfl := Option.some.inj H
                go_wp2
                go_ret
                exact ⟨by first | rfl | (simp [errW_none, errW_some] <;> rfl) | (simp [*, errW_none, errW_some] <;> rfl), by repeat (first | (with_reducible first | exact HB.out | apply below_alloc | apply pw_below_drewN | apply below_drew1 | refine below_set ?_ GE137.out | refine below_set ?_ GE142.out) | exact HB.out)⟩
               ·replace c29 := Bool.eq_false_iff.mpr c29
                subst c29
                have H1 : (davitref02_Short.l2 kj15 (wrap64 (x3_2 + (((rd_T41 ((rd_T27 l0_0 x4_1).f2) x5_2).f2).length : Int))) x4_1 x5_2 0 l0_0 ((rd_T41 ((rd_T27 l0_0 x4_1).f2) x5_2).f0) ((rd_T41 ((rd_T27 l0_0 x4_1).f2) x5_2).f1.f0) ((rd_T41 ((rd_T27 l0_0 x4_1).f2) x5_2).f1.f1) ((rd_T41 ((rd_T27 l0_0 x4_1).f2) x5_2).f1.f2) ((rd_T41 ((rd_T27 l0_0 x4_1).f2) x5_2).f1.f3) ((rd_T41 ((rd_T27 l0_0 x4_1).f2) x5_2).f2) ((rd_T41 ((rd_T27 l0_0 x4_1).f2) x5_2).f3.f0) ((rd_T41 ((rd_T27 l0_0 x4_1).f2) x5_2).f3.f1) ((rd_T41 ((rd_T27 l0_0 x4_1).f2) x5_2).f3.f2) ((rd_T41 ((rd_T27 l0_0 x4_1).f2) x5_2).f3.f3) ((rd_T41 ((rd_T27 l0_0 x4_1).f2) x5_2).f3.f4) ((rd_T41 ((rd_T27 l0_0 x4_1).f2) x5_2).f3.f5) ((rd_T41 ((rd_T27 l0_0 x4_1).f2) x5_2).f3.f6) ((rd_T41 ((rd_T27 l0_0 x4_1).f2) x5_2).f3.f7)) = some r := by rw [if_neg (show ¬ (false = true) by decide)] at H; exact H
                clear H
                have H := H1
                clear H1
                have H' := Aside0.mk H
                clear H
                have hnb30 := NB142_137.out
                have hnc30 := NB137_142.out
                have hcz31_0 : wc.cell? ⟨gb142, 0, none⟩ = some (.bool ((rd_T41 ((rd_T27 l0_0 x4_1).f2) x5_2).f0)) := (blk_cell BK142.out 0).trans rfl
                have hcz31_1 : wc.cell? ⟨gb142, 1, none⟩ = some (.int .i64 ((rd_T41 ((rd_T27 l0_0 x4_1).f2) x5_2).f1.f0)) := (blk_cell BK142.out 1).trans rfl
                have hcz31_2 : wc.cell? ⟨gb142, 2, none⟩ = some (.slice A141_2 ((rd_T41 ((rd_T27 l0_0 x4_1).f2) x5_2).f1.f1).length c141_2) := (blk_cell BK142.out 2).trans rfl
                have hcz31_3 : wc.cell? ⟨gb142, 3, none⟩ = some (.bool ((rd_T41 ((rd_T27 l0_0 x4_1).f2) x5_2).f1.f2)) := (blk_cell BK142.out 3).trans rfl
                have hcz31_4 : wc.cell? ⟨gb142, 4, none⟩ = some (.bool ((rd_T41 ((rd_T27 l0_0 x4_1).f2) x5_2).f1.f3)) := (blk_cell BK142.out 4).trans rfl
                have hcz31_5 : wc.cell? ⟨gb142, 5, none⟩ = some (.slice A141_5 ((rd_T41 ((rd_T27 l0_0 x4_1).f2) x5_2).f2).length c141_5) := (blk_cell BK142.out 5).trans rfl
                have hcz31_6 : wc.cell? ⟨gb142, 6, none⟩ = some (.int .i64 ((rd_T41 ((rd_T27 l0_0 x4_1).f2) x5_2).f3.f0)) := (blk_cell BK142.out 6).trans rfl
                have hcz31_7 : wc.cell? ⟨gb142, 7, none⟩ = some (.int .i64 ((rd_T41 ((rd_T27 l0_0 x4_1).f2) x5_2).f3.f1)) := (blk_cell BK142.out 7).trans rfl
                have hcz31_8 : wc.cell? ⟨gb142, 8, none⟩ = some (.int .i64 ((rd_T41 ((rd_T27 l0_0 x4_1).f2) x5_2).f3.f2)) := (blk_cell BK142.out 8).trans rfl
                have hcz31_9 : wc.cell? ⟨gb142, 9, none⟩ = some (.int .i64 ((rd_T41 ((rd_T27 l0_0 x4_1).f2) x5_2).f3.f3)) := (blk_cell BK142.out 9).trans rfl
                have hcz31_10 : wc.cell? ⟨gb142, 10, none⟩ = some (.slice A141_10 ((rd_T41 ((rd_T27 l0_0 x4_1).f2) x5_2).f3.f4).length c141_10) := (blk_cell BK142.out 10).trans rfl
                have hcz31_11 : wc.cell? ⟨gb142, 11, none⟩ = some (.int .i64 ((rd_T41 ((rd_T27 l0_0 x4_1).f2) x5_2).f3.f5)) := (blk_cell BK142.out 11).trans rfl
                have hcz31_12 : wc.cell? ⟨gb142, 12, none⟩ = some (.int .i64 ((rd_T41 ((rd_T27 l0_0 x4_1).f2) x5_2).f3.f6)) := (blk_cell BK142.out 12).trans rfl
                have hcz31_13 : wc.cell? ⟨gb142, 13, none⟩ = some (.int .i64 ((rd_T41 ((rd_T27 l0_0 x4_1).f2) x5_2).f3.f7)) := (blk_cell BK142.out 13).trans rfl
                obtain ⟨hfz31_0, hfz31_1, hfz31_2, hfz31_3, hfz31_4, hfz31_5, hfz31_6, hfz31_7, hfz31_8, hfz31_9, hfz31_10, hfz31_11, hfz31_12, hfz31_13⟩ := fz14 BK142.out
                go_wp2
                go_loopg [7] kj15 (fun kq v7 w' => ∃ (x7_4 : Int), v7 = .int .i64 x7_4 ∧ Aside0 (davitref02_Short.l2 kq (wrap64 (x3_2 + (((rd_T41 ((rd_T27 l0_0 x4_1).f2) x5_2).f2).length : Int))) x4_1 x5_2 x7_4 l0_0 ((rd_T41 ((rd_T27 l0_0 x4_1).f2) x5_2).f0) ((rd_T41 ((rd_T27 l0_0 x4_1).f2) x5_2).f1.f0) ((rd_T41 ((rd_T27 l0_0 x4_1).f2) x5_2).f1.f1) ((rd_T41 ((rd_T27 l0_0 x4_1).f2) x5_2).f1.f2) ((rd_T41 ((rd_T27 l0_0 x4_1).f2) x5_2).f1.f3) ((rd_T41 ((rd_T27 l0_0 x4_1).f2) x5_2).f2) ((rd_T41 ((rd_T27 l0_0 x4_1).f2) x5_2).f3.f0) ((rd_T41 ((rd_T27 l0_0 x4_1).f2) x5_2).f3.f1) ((rd_T41 ((rd_T27 l0_0 x4_1).f2) x5_2).f3.f2) ((rd_T41 ((rd_T27 l0_0 x4_1).f2) x5_2).f3.f3) ((rd_T41 ((rd_T27 l0_0 x4_1).f2) x5_2).f3.f4) ((rd_T41 ((rd_T27 l0_0 x4_1).f2) x5_2).f3.f5) ((rd_T41 ((rd_T27 l0_0 x4_1).f2) x5_2).f3.f6) ((rd_T41 ((rd_T27 l0_0 x4_1).f2) x5_2).f3.f7) = some r) ∧ Aside0 (kq ≤ kj15) ∧ Aside0 (w'.heap[gb137]? = some (.cells #[(.slice (some ad138) l0_0.length c0_0)] 24 (0, 0))) ∧ Aside0 (w'.heap[gb142]? = some (.cells #[.bool ((rd_T41 ((rd_T27 l0_0 x4_1).f2) x5_2).f0), .int .i64 ((rd_T41 ((rd_T27 l0_0 x4_1).f2) x5_2).f1.f0), (.slice A141_2 ((rd_T41 ((rd_T27 l0_0 x4_1).f2) x5_2).f1.f1).length c141_2), .bool ((rd_T41 ((rd_T27 l0_0 x4_1).f2) x5_2).f1.f2), .bool ((rd_T41 ((rd_T27 l0_0 x4_1).f2) x5_2).f1.f3), (.slice A141_5 ((rd_T41 ((rd_T27 l0_0 x4_1).f2) x5_2).f2).length c141_5), .int .i64 ((rd_T41 ((rd_T27 l0_0 x4_1).f2) x5_2).f3.f0), .int .i64 ((rd_T41 ((rd_T27 l0_0 x4_1).f2) x5_2).f3.f1), .int .i64 ((rd_T41 ((rd_T27 l0_0 x4_1).f2) x5_2).f3.f2), .int .i64 ((rd_T41 ((rd_T27 l0_0 x4_1).f2) x5_2).f3.f3), (.slice A141_10 ((rd_T41 ((rd_T27 l0_0 x4_1).f2) x5_2).f3.f4).length c141_10), .int .i64 ((rd_T41 ((rd_T27 l0_0 x4_1).f2) x5_2).f3.f5), .int .i64 ((rd_T41 ((rd_T27 l0_0 x4_1).f2) x5_2).f3.f6), .int .i64 ((rd_T41 ((rd_T27 l0_0 x4_1).f2) x5_2).f3.f7)] 41 (0, 0))) ∧ Aside0 (Below w.heap.size w w'))
                case atStart => exact ⟨(0), (by first | rfl | (simp; done) | (simp [*]; done)), H', ⟨Nat.le_refl _⟩, ⟨by (with_reducible repeat (first | refine blk_drewN ?_ _ | refine blk_drew ?_ | refine blk_alloc ?_ _)); exact BK137.out⟩, ⟨by (with_reducible repeat (first | refine blk_drewN ?_ _ | refine blk_drew ?_ | refine blk_alloc ?_ _)); exact BK142.out⟩, ⟨by repeat (first | (with_reducible first | exact HB.out | apply below_alloc | apply pw_below_drewN | apply below_drew1 | refine below_set ?_ GE137.out | refine below_set ?_ GE142.out) | exact HB.out)⟩⟩
                case round =>
                 clear H'
                 try clear c1
                 try clear p1
                 try clear q1
                 try clear hx1
                 try clear c2
                 try clear c2b0
                 try clear c2b1
                 try clear p2
                 try clear c3
                 try clear p6
                 try clear c7
                 try clear c7b0
                 try clear c8
                 try clear c8b0
                 try clear c9
                 try clear c9b0
                 try clear c9b1
                 try clear c12
                 try clear c12b0
                 try clear c13
                 try clear c13b0
                 try clear p13
                 try clear q13
                 try clear hx13
                 try clear c14
                 try clear c14b0
                 try clear p14
                 try clear q14
                 try clear hx14
                 try clear c15
                 try clear c15b0
                 try clear c19
                 try clear c21
                 try clear c21b0
                 try clear c21b1
                 try clear c22
                 try clear c24
                 try clear c24b0
                 try clear c24b1
                 try clear c25
                 try clear c27
                 try clear c29
                 try clear c30
                 try clear hcz10_0
                 try clear hcz11_0
                 try clear hcz17_0
                 try clear hcz20_0
                 try clear hcz20_1
                 try clear hcz20_10
                 try clear hcz20_11
                 try clear hcz20_12
                 try clear hcz20_13
                 try clear hcz20_2
                 try clear hcz20_3
                 try clear hcz20_4
                 try clear hcz20_5
                 try clear hcz20_6
                 try clear hcz20_7
                 try clear hcz20_8
                 try clear hcz20_9
                 try clear hcz23_0
                 try clear hcz23_1
                 try clear hcz23_10
                 try clear hcz23_11
                 try clear hcz23_12
                 try clear hcz23_13
                 try clear hcz23_2
                 try clear hcz23_3
                 try clear hcz23_4
                 try clear hcz23_5
                 try clear hcz23_6
                 try clear hcz23_7
                 try clear hcz23_8
                 try clear hcz23_9
                 try clear hcz26_0
                 try clear hcz26_1
                 try clear hcz26_10
                 try clear hcz26_11
                 try clear hcz26_12
                 try clear hcz26_13
                 try clear hcz26_2
                 try clear hcz26_3
                 try clear hcz26_4
                 try clear hcz26_5
                 try clear hcz26_6
                 try clear hcz26_7
                 try clear hcz26_8
                 try clear hcz26_9
                 try clear hcz28_0
                 try clear hcz28_1
                 try clear hcz28_10
                 try clear hcz28_11
                 try clear hcz28_12
                 try clear hcz28_13
                 try clear hcz28_2
                 try clear hcz28_3
                 try clear hcz28_4
                 try clear hcz28_5
                 try clear hcz28_6
                 try clear hcz28_7
                 try clear hcz28_8
                 try clear hcz28_9
                 try clear hcz31_0
                 try clear hcz31_1
                 try clear hcz31_10
                 try clear hcz31_11
                 try clear hcz31_12
                 try clear hcz31_13
                 try clear hcz31_2
                 try clear hcz31_3
                 try clear hcz31_4
                 try clear hcz31_5
                 try clear hcz31_6
                 try clear hcz31_7
                 try clear hcz31_8
                 try clear hcz31_9
                 try clear hcz4_0
                 try clear hcz6_0
                 try clear hfz10_0
                 try clear hfz11_0
                 try clear hfz17_0
                 try clear hfz20_0
                 try clear hfz20_1
                 try clear hfz20_10
                 try clear hfz20_11
                 try clear hfz20_12
                 try clear hfz20_13
                 try clear hfz20_2
                 try clear hfz20_3
                 try clear hfz20_4
                 try clear hfz20_5
                 try clear hfz20_6
                 try clear hfz20_7
                 try clear hfz20_8
                 try clear hfz20_9
                 try clear hfz23_0
                 try clear hfz23_1
                 try clear hfz23_10
                 try clear hfz23_11
                 try clear hfz23_12
                 try clear hfz23_13
                 try clear hfz23_2
                 try clear hfz23_3
                 try clear hfz23_4
                 try clear hfz23_5
                 try clear hfz23_6
                 try clear hfz23_7
                 try clear hfz23_8
                 try clear hfz23_9
                 try clear hfz26_0
                 try clear hfz26_1
                 try clear hfz26_10
                 try clear hfz26_11
                 try clear hfz26_12
                 try clear hfz26_13
                 try clear hfz26_2
                 try clear hfz26_3
                 try clear hfz26_4
                 try clear hfz26_5
                 try clear hfz26_6
                 try clear hfz26_7
                 try clear hfz26_8
                 try clear hfz26_9
                 try clear hfz28_0
                 try clear hfz28_1
                 try clear hfz28_10
                 try clear hfz28_11
                 try clear hfz28_12
                 try clear hfz28_13
                 try clear hfz28_2
                 try clear hfz28_3
                 try clear hfz28_4
                 try clear hfz28_5
                 try clear hfz28_6
                 try clear hfz28_7
                 try clear hfz28_8
                 try clear hfz28_9
                 try clear hfz31_0
                 try clear hfz31_1
                 try clear hfz31_10
                 try clear hfz31_11
                 try clear hfz31_12
                 try clear hfz31_13
                 try clear hfz31_2
                 try clear hfz31_3
                 try clear hfz31_4
                 try clear hfz31_5
                 try clear hfz31_6
                 try clear hfz31_7
                 try clear hfz31_8
                 try clear hfz31_9
                 try clear hfz4_0
                 try clear hfz6_0
                 try clear hx138_0
                 try clear hx138_1
                 try clear hx138_2
                 try clear hx139_0
                 try clear hx139_1
                 try clear hx139_2
                 try clear hx140_0
                 try clear hx140_1
                 try clear hx140_2
                 try clear hx141_0
                 try clear hx141_1
                 try clear hx141_10
                 try clear hx141_11
                 try clear hx141_12
                 try clear hx141_13
                 try clear hx141_2
                 try clear hx141_3
                 try clear hx141_4
                 try clear hx141_5
                 try clear hx141_6
                 try clear hx141_7
                 try clear hx141_8
                 try clear hx141_9
                 try clear p1
                 try clear p13
                 try clear p138
                 try clear p139
                 try clear p14
                 try clear p140
                 try clear p141
                 try clear p2
                 try clear q1
                 try clear q13
                 try clear q138
                 try clear q139
                 try clear q14
                 try clear q140
                 try clear q141
                 obtain ⟨x7_4, rfl, HA, HK4, BK137, BK142, HB⟩ := hrel
                 cases gk with
                 | zero => exact absurd HA.out (by simp [davitref02_Short.l2])
                 | succ k4 =>
                  have H := HA.out
                  clear HA
                  simp only [davitref02_Short.l2] at H
                  by_cases c32 : x7_4 < (((rd_T41 ((rd_T27 l0_0 x4_1).f2) x5_2).f2).length : Int)
                  ·rw [if_pos c32] at H
                   have c32b0 : decide (x7_4 < (((rd_T41 ((rd_T27 l0_0 x4_1).f2) x5_2).f2).length : Int)) = true := decide_eq_true c32
                   clear c32
                   by_cases c33 : 0 ≤ x7_4
                   ·rw [if_pos c33] at H
                    have c33b0 : decide (0 ≤ x7_4) = true := decide_eq_true c33
                    clear c33
                    by_cases c34 : (((rd_T49 ((rd_T41 ((rd_T27 l0_0 x4_1).f2) x5_2).f2) x7_4).f6).length : Int) > 20
                    ·rw [if_pos c34] at H
                     have c34b0 : decide (20 < (((rd_T49 ((rd_T41 ((rd_T27 l0_0 x4_1).f2) x5_2).f2) x7_4).f6).length : Int)) = true := decide_eq_true c34
                     have c34b1 : decide (20 < ((rd_T49 ((rd_T41 ((rd_T27 l0_0 x4_1).f2) x5_2).f2) x7_4).f6).length) = true := decide_eq_true (by omega)
                     clear c34
                     obtain rfl := Option.some.inj H
                     have hnb35 := NB142_137.out
                     have hnc35 := NB137_142.out
                     have hcz36_0 : wr.cell? ⟨gb142, 0, none⟩ = some (.bool ((rd_T41 ((rd_T27 l0_0 x4_1).f2) x5_2).f0)) := (blk_cell BK142.out 0).trans rfl
                     have hcz36_1 : wr.cell? ⟨gb142, 1, none⟩ = some (.int .i64 ((rd_T41 ((rd_T27 l0_0 x4_1).f2) x5_2).f1.f0)) := (blk_cell BK142.out 1).trans rfl
                     have hcz36_2 : wr.cell? ⟨gb142, 2, none⟩ = some (.slice A141_2 ((rd_T41 ((rd_T27 l0_0 x4_1).f2) x5_2).f1.f1).length c141_2) := (blk_cell BK142.out 2).trans rfl
                     have hcz36_3 : wr.cell? ⟨gb142, 3, none⟩ = some (.bool ((rd_T41 ((rd_T27 l0_0 x4_1).f2) x5_2).f1.f2)) := (blk_cell BK142.out 3).trans rfl
                     have hcz36_4 : wr.cell? ⟨gb142, 4, none⟩ = some (.bool ((rd_T41 ((rd_T27 l0_0 x4_1).f2) x5_2).f1.f3)) := (blk_cell BK142.out 4).trans rfl
                     have hcz36_5 : wr.cell? ⟨gb142, 5, none⟩ = some (.slice A141_5 ((rd_T41 ((rd_T27 l0_0 x4_1).f2) x5_2).f2).length c141_5) := (blk_cell BK142.out 5).trans rfl
                     have hcz36_6 : wr.cell? ⟨gb142, 6, none⟩ = some (.int .i64 ((rd_T41 ((rd_T27 l0_0 x4_1).f2) x5_2).f3.f0)) := (blk_cell BK142.out 6).trans rfl
                     have hcz36_7 : wr.cell? ⟨gb142, 7, none⟩ = some (.int .i64 ((rd_T41 ((rd_T27 l0_0 x4_1).f2) x5_2).f3.f1)) := (blk_cell BK142.out 7).trans rfl
                     have hcz36_8 : wr.cell? ⟨gb142, 8, none⟩ = some (.int .i64 ((rd_T41 ((rd_T27 l0_0 x4_1).f2) x5_2).f3.f2)) := (blk_cell BK142.out 8).trans rfl
                     have hcz36_9 : wr.cell? ⟨gb142, 9, none⟩ = some (.int .i64 ((rd_T41 ((rd_T27 l0_0 x4_1).f2) x5_2).f3.f3)) := (blk_cell BK142.out 9).trans rfl
                     have hcz36_10 : wr.cell? ⟨gb142, 10, none⟩ = some (.slice A141_10 ((rd_T41 ((rd_T27 l0_0 x4_1).f2) x5_2).f3.f4).length c141_10) := (blk_cell BK142.out 10).trans rfl
                     have hcz36_11 : wr.cell? ⟨gb142, 11, none⟩ = some (.int .i64 ((rd_T41 ((rd_T27 l0_0 x4_1).f2) x5_2).f3.f5)) := (blk_cell BK142.out 11).trans rfl
                     have hcz36_12 : wr.cell? ⟨gb142, 12, none⟩ = some (.int .i64 ((rd_T41 ((rd_T27 l0_0 x4_1).f2) x5_2).f3.f6)) := (blk_cell BK142.out 12).trans rfl
                     have hcz36_13 : wr.cell? ⟨gb142, 13, none⟩ = some (.int .i64 ((rd_T41 ((rd_T27 l0_0 x4_1).f2) x5_2).f3.f7)) := (blk_cell BK142.out 13).trans rfl
                     obtain ⟨hfz36_0, hfz36_1, hfz36_2, hfz36_3, hfz36_4, hfz36_5, hfz36_6, hfz36_7, hfz36_8, hfz36_9, hfz36_10, hfz36_11, hfz36_12, hfz36_13⟩ := fz14 BK142.out
                     have p143 : 0 ≤ (x7_4 : Int) := of_decide_eq_true (by first | (with_reducible assumption) | assumption)
                     have q143 : x7_4 < (((rd_T41 ((rd_T27 l0_0 x4_1).f2) x5_2).f2).length : Int) := of_decide_eq_true (by first | (with_reducible assumption) | assumption)
                     obtain ⟨ad143, A143_6, c143_6, e143, hx143_0, hx143_1, hx143_2, hx143_3, hx143_4, hx143_5, hx143_6, hl143_6, hi143_6⟩ := at_T49 HR141_5.out x7_4 p143 q143
                     cases e143
                     replace hx143_0 := (HB.out.cell (World.block_lt_of_cell? w _ hx143_0)).trans hx143_0
                     replace hx143_1 := (HB.out.cell (World.block_lt_of_cell? w _ hx143_1)).trans hx143_1
                     replace hx143_2 := (HB.out.cell (World.block_lt_of_cell? w _ hx143_2)).trans hx143_2
                     replace hx143_3 := (HB.out.cell (World.block_lt_of_cell? w _ hx143_3)).trans hx143_3
                     replace hx143_4 := (HB.out.cell (World.block_lt_of_cell? w _ hx143_4)).trans hx143_4
                     replace hx143_5 := (HB.out.cell (World.block_lt_of_cell? w _ hx143_5)).trans hx143_5
                     replace hx143_6 := (HB.out.cell (World.block_lt_of_cell? w _ hx143_6)).trans hx143_6
                     have HR143_6 := Aside0.mk hi143_6
                     have HC143_6 := Aside0.mk hl143_6
                     clear hi143_6 hl143_6
                     replace p143 := eq_true p143
                     replace q143 := eq_true q143
                     go_wp2
                     go_ret
                     exact ⟨by first | rfl | (simp [errW_none, errW_some] <;> rfl) | (simp [*, errW_none, errW_some] <;> rfl), by repeat (first | (with_reducible first | exact HB.out | apply below_alloc | apply pw_below_drewN | apply below_drew1 | refine below_set ?_ GE137.out | refine below_set ?_ GE142.out) | exact HB.out)⟩
                    ·rw [if_neg c34] at H
                     have c34b0 : decide (20 < (((rd_T49 ((rd_T41 ((rd_T27 l0_0 x4_1).f2) x5_2).f2) x7_4).f6).length : Int)) = false := decide_eq_false c34
                     have c34b1 : decide (20 < ((rd_T49 ((rd_T41 ((rd_T27 l0_0 x4_1).f2) x5_2).f2) x7_4).f6).length) = false := decide_eq_false (by omega)
                     clear c34
                     have H' := Aside0.mk H
                     clear H
                     have hnb37 := NB142_137.out
                     have hnc37 := NB137_142.out
                     have hcz38_0 : wr.cell? ⟨gb142, 0, none⟩ = some (.bool ((rd_T41 ((rd_T27 l0_0 x4_1).f2) x5_2).f0)) := (blk_cell BK142.out 0).trans rfl
                     have hcz38_1 : wr.cell? ⟨gb142, 1, none⟩ = some (.int .i64 ((rd_T41 ((rd_T27 l0_0 x4_1).f2) x5_2).f1.f0)) := (blk_cell BK142.out 1).trans rfl
                     have hcz38_2 : wr.cell? ⟨gb142, 2, none⟩ = some (.slice A141_2 ((rd_T41 ((rd_T27 l0_0 x4_1).f2) x5_2).f1.f1).length c141_2) := (blk_cell BK142.out 2).trans rfl
                     have hcz38_3 : wr.cell? ⟨gb142, 3, none⟩ = some (.bool ((rd_T41 ((rd_T27 l0_0 x4_1).f2) x5_2).f1.f2)) := (blk_cell BK142.out 3).trans rfl
                     have hcz38_4 : wr.cell? ⟨gb142, 4, none⟩ = some (.bool ((rd_T41 ((rd_T27 l0_0 x4_1).f2) x5_2).f1.f3)) := (blk_cell BK142.out 4).trans rfl
                     have hcz38_5 : wr.cell? ⟨gb142, 5, none⟩ = some (.slice A141_5 ((rd_T41 ((rd_T27 l0_0 x4_1).f2) x5_2).f2).length c141_5) := (blk_cell BK142.out 5).trans rfl
                     have hcz38_6 : wr.cell? ⟨gb142, 6, none⟩ = some (.int .i64 ((rd_T41 ((rd_T27 l0_0 x4_1).f2) x5_2).f3.f0)) := (blk_cell BK142.out 6).trans rfl
                     have hcz38_7 : wr.cell? ⟨gb142, 7, none⟩ = some (.int .i64 ((rd_T41 ((rd_T27 l0_0 x4_1).f2) x5_2).f3.f1)) := (blk_cell BK142.out 7).trans rfl
                     have hcz38_8 : wr.cell? ⟨gb142, 8, none⟩ = some (.int .i64 ((rd_T41 ((rd_T27 l0_0 x4_1).f2) x5_2).f3.f2)) := (blk_cell BK142.out 8).trans rfl
                     have hcz38_9 : wr.cell? ⟨gb142, 9, none⟩ = some (.int .i64 ((rd_T41 ((rd_T27 l0_0 x4_1).f2) x5_2).f3.f3)) := (blk_cell BK142.out 9).trans rfl
                     have hcz38_10 : wr.cell? ⟨gb142, 10, none⟩ = some (.slice A141_10 ((rd_T41 ((rd_T27 l0_0 x4_1).f2) x5_2).f3.f4).length c141_10) := (blk_cell BK142.out 10).trans rfl
                     have hcz38_11 : wr.cell? ⟨gb142, 11, none⟩ = some (.int .i64 ((rd_T41 ((rd_T27 l0_0 x4_1).f2) x5_2).f3.f5)) := (blk_cell BK142.out 11).trans rfl
                     have hcz38_12 : wr.cell? ⟨gb142, 12, none⟩ = some (.int .i64 ((rd_T41 ((rd_T27 l0_0 x4_1).f2) x5_2).f3.f6)) := (blk_cell BK142.out 12).trans rfl
                     have hcz38_13 : wr.cell? ⟨gb142, 13, none⟩ = some (.int .i64 ((rd_T41 ((rd_T27 l0_0 x4_1).f2) x5_2).f3.f7)) := (blk_cell BK142.out 13).trans rfl
                     obtain ⟨hfz38_0, hfz38_1, hfz38_2, hfz38_3, hfz38_4, hfz38_5, hfz38_6, hfz38_7, hfz38_8, hfz38_9, hfz38_10, hfz38_11, hfz38_12, hfz38_13⟩ := fz14 BK142.out
                     have p143 : 0 ≤ (x7_4 : Int) := of_decide_eq_true (by first | (with_reducible assumption) | assumption)
                     have q143 : x7_4 < (((rd_T41 ((rd_T27 l0_0 x4_1).f2) x5_2).f2).length : Int) := of_decide_eq_true (by first | (with_reducible assumption) | assumption)
                     obtain ⟨ad143, A143_6, c143_6, e143, hx143_0, hx143_1, hx143_2, hx143_3, hx143_4, hx143_5, hx143_6, hl143_6, hi143_6⟩ := at_T49 HR141_5.out x7_4 p143 q143
                     cases e143
                     replace hx143_0 := (HB.out.cell (World.block_lt_of_cell? w _ hx143_0)).trans hx143_0
                     replace hx143_1 := (HB.out.cell (World.block_lt_of_cell? w _ hx143_1)).trans hx143_1
                     replace hx143_2 := (HB.out.cell (World.block_lt_of_cell? w _ hx143_2)).trans hx143_2
                     replace hx143_3 := (HB.out.cell (World.block_lt_of_cell? w _ hx143_3)).trans hx143_3
                     replace hx143_4 := (HB.out.cell (World.block_lt_of_cell? w _ hx143_4)).trans hx143_4
                     replace hx143_5 := (HB.out.cell (World.block_lt_of_cell? w _ hx143_5)).trans hx143_5
                     replace hx143_6 := (HB.out.cell (World.block_lt_of_cell? w _ hx143_6)).trans hx143_6
                     have HR143_6 := Aside0.mk hi143_6
                     have HC143_6 := Aside0.mk hl143_6
                     clear hi143_6 hl143_6
                     replace p143 := eq_true p143
                     replace q143 := eq_true q143
                     go_wp2
                     go_roundg k4
                     case measure => have := HK1.out; have := HK2.out; have := HJ15.out; have := HK4.out; omega
                     case rel => exact ⟨(wrap64 (x7_4 + 1)), (by first | rfl | (simp; done) | (simp [*]; done)), H', ⟨by have := HK1.out; have := HK2.out; have := HJ15.out; have := HK4.out; omega⟩, ⟨by (with_reducible repeat (first | refine blk_drewN ?_ _ | refine blk_drew ?_ | refine blk_alloc ?_ _)); exact BK137.out⟩, ⟨by (with_reducible repeat (first | refine blk_drewN ?_ _ | refine blk_drew ?_ | refine blk_alloc ?_ _)); exact BK142.out⟩, ⟨by repeat (first | (with_reducible first | exact HB.out | apply below_alloc | apply pw_below_drewN | apply below_drew1 | refine below_set ?_ GE137.out | refine below_set ?_ GE142.out) | exact HB.out)⟩⟩
                   ·rw [if_neg c33] at H
                    exact absurd H (by simp)
                  ·rw [if_neg c32] at H
                   have c32b0 : decide (x7_4 < (((rd_T41 ((rd_T27 l0_0 x4_1).f2) x5_2).f2).length : Int)) = false := decide_eq_false c32
                   clear c32
                   have H' := Aside0.mk H
                   clear H
                   have hnb39 := NB142_137.out
                   have hnc39 := NB137_142.out
                   have hcz40_0 : wr.cell? ⟨gb142, 0, none⟩ = some (.bool ((rd_T41 ((rd_T27 l0_0 x4_1).f2) x5_2).f0)) := (blk_cell BK142.out 0).trans rfl
                   have hcz40_1 : wr.cell? ⟨gb142, 1, none⟩ = some (.int .i64 ((rd_T41 ((rd_T27 l0_0 x4_1).f2) x5_2).f1.f0)) := (blk_cell BK142.out 1).trans rfl
                   have hcz40_2 : wr.cell? ⟨gb142, 2, none⟩ = some (.slice A141_2 ((rd_T41 ((rd_T27 l0_0 x4_1).f2) x5_2).f1.f1).length c141_2) := (blk_cell BK142.out 2).trans rfl
                   have hcz40_3 : wr.cell? ⟨gb142, 3, none⟩ = some (.bool ((rd_T41 ((rd_T27 l0_0 x4_1).f2) x5_2).f1.f2)) := (blk_cell BK142.out 3).trans rfl
                   have hcz40_4 : wr.cell? ⟨gb142, 4, none⟩ = some (.bool ((rd_T41 ((rd_T27 l0_0 x4_1).f2) x5_2).f1.f3)) := (blk_cell BK142.out 4).trans rfl
                   have hcz40_5 : wr.cell? ⟨gb142, 5, none⟩ = some (.slice A141_5 ((rd_T41 ((rd_T27 l0_0 x4_1).f2) x5_2).f2).length c141_5) := (blk_cell BK142.out 5).trans rfl
                   have hcz40_6 : wr.cell? ⟨gb142, 6, none⟩ = some (.int .i64 ((rd_T41 ((rd_T27 l0_0 x4_1).f2) x5_2).f3.f0)) := (blk_cell BK142.out 6).trans rfl
                   have hcz40_7 : wr.cell? ⟨gb142, 7, none⟩ = some (.int .i64 ((rd_T41 ((rd_T27 l0_0 x4_1).f2) x5_2).f3.f1)) := (blk_cell BK142.out 7).trans rfl
                   have hcz40_8 : wr.cell? ⟨gb142, 8, none⟩ = some (.int .i64 ((rd_T41 ((rd_T27 l0_0 x4_1).f2) x5_2).f3.f2)) := (blk_cell BK142.out 8).trans rfl
                   have hcz40_9 : wr.cell? ⟨gb142, 9, none⟩ = some (.int .i64 ((rd_T41 ((rd_T27 l0_0 x4_1).f2) x5_2).f3.f3)) := (blk_cell BK142.out 9).trans rfl
                   have hcz40_10 : wr.cell? ⟨gb142, 10, none⟩ = some (.slice A141_10 ((rd_T41 ((rd_T27 l0_0 x4_1).f2) x5_2).f3.f4).length c141_10) := (blk_cell BK142.out 10).trans rfl
                   have hcz40_11 : wr.cell? ⟨gb142, 11, none⟩ = some (.int .i64 ((rd_T41 ((rd_T27 l0_0 x4_1).f2) x5_2).f3.f5)) := (blk_cell BK142.out 11).trans rfl
                   have hcz40_12 : wr.cell? ⟨gb142, 12, none⟩ = some (.int .i64 ((rd_T41 ((rd_T27 l0_0 x4_1).f2) x5_2).f3.f6)) := (blk_cell BK142.out 12).trans rfl
                   have hcz40_13 : wr.cell? ⟨gb142, 13, none⟩ = some (.int .i64 ((rd_T41 ((rd_T27 l0_0 x4_1).f2) x5_2).f3.f7)) := (blk_cell BK142.out 13).trans rfl
                   obtain ⟨hfz40_0, hfz40_1, hfz40_2, hfz40_3, hfz40_4, hfz40_5, hfz40_6, hfz40_7, hfz40_8, hfz40_9, hfz40_10, hfz40_11, hfz40_12, hfz40_13⟩ := fz14 BK142.out
                   go_wp2
                   go_roundg k4
                   case measure => have := HK1.out; have := HK2.out; have := HJ15.out; have := HK4.out; omega
                   case rel => exact ⟨((wrap64 (x3_2 + (((rd_T41 ((rd_T27 l0_0 x4_1).f2) x5_2).f2).length : Int)))), (wrap64 (x5_2 + 1)), (by first | rfl | (simp; done) | (simp [*]; done)), (by first | rfl | (simp; done) | (simp [*]; done)), H', ⟨by have := HK1.out; have := HK2.out; have := HJ15.out; have := HK4.out; omega⟩, ⟨by (with_reducible repeat (first | refine blk_drewN ?_ _ | refine blk_drew ?_ | refine blk_alloc ?_ _)); exact BK137.out⟩, ⟨by repeat (first | (with_reducible first | exact HB.out | apply below_alloc | apply pw_below_drewN | apply below_drew1 | refine below_set ?_ GE137.out | refine below_set ?_ GE142.out) | exact HB.out)⟩⟩
            ·rw [if_neg c15] at H
             exact absurd H (by simp)
           ·rw [if_neg c14] at H
            have c14b0 : decide (x5_2 < (((rd_T27 l0_0 x4_1).f2).length : Int)) = false := decide_eq_false c14
            clear c14
            have H' := Aside0.mk H
            clear H
            have hcz41_0 : wr.cell? ⟨gb137, 0, none⟩ = some (.slice (some ad138) l0_0.length c0_0) := (blk_cell BK137.out 0).trans rfl
            have hfz41_0 := blk_frozen BK137.out 0
            have p139 : 0 ≤ (x4_1 : Int) := of_decide_eq_true (by first | (with_reducible assumption) | assumption)
            have q139 : x4_1 < (l0_0.length : Int) := of_decide_eq_true (by first | (with_reducible assumption) | assumption)
            obtain ⟨ad139, A139_2, c139_2, e139, hx139_0, hx139_1, hx139_2, hl139_2, hi139_2⟩ := at_T27 HR0_0.out x4_1 p139 q139
            obtain rfl : ad138 = ad139 := (by injection e139)
            replace hx139_0 := (HB.out.cell (World.block_lt_of_cell? w _ hx139_0)).trans hx139_0
            replace hx139_1 := (HB.out.cell (World.block_lt_of_cell? w _ hx139_1)).trans hx139_1
            replace hx139_2 := (HB.out.cell (World.block_lt_of_cell? w _ hx139_2)).trans hx139_2
            have HR139_2 := Aside0.mk hi139_2
            have HC139_2 := Aside0.mk hl139_2
            clear hi139_2 hl139_2
            replace p139 := eq_true p139
            replace q139 := eq_true q139
            go_wp2
            go_roundg k2
            case measure => have := HK1.out; have := HK2.out; omega
            case rel => exact ⟨(x3_2), (wrap64 (x4_1 + 1)), (by first | rfl | (simp; done) | (simp [*]; done)), (by first | rfl | (simp; done) | (simp [*]; done)), H', ⟨by have := HK1.out; have := HK2.out; omega⟩, ⟨by (with_reducible repeat (first | refine blk_drewN ?_ _ | refine blk_drew ?_ | refine blk_alloc ?_ _)); exact BK137.out⟩, ⟨by repeat (first | (with_reducible first | exact HB.out | apply below_alloc | apply pw_below_drewN | apply below_drew1 | refine below_set ?_ GE137.out) | exact HB.out)⟩⟩
          ·rw [if_neg c13] at H
           exact absurd H (by simp)
         ·rw [if_neg c12] at H
          exact absurd H (by simp)
     ·rw [if_neg c8] at H
      exact absurd H (by simp)
    ·rw [if_neg c7] at H
     have c7b0 : decide (x4_1 < (l0_0.length : Int)) = false := decide_eq_false c7
     clear c7
     obtain rfl := Option.some.inj H
     have hcz42_0 : wr.cell? ⟨gb137, 0, none⟩ = some (.slice A0_0 l0_0.length c0_0) := (blk_cell BK137.out 0).trans rfl
     have hfz42_0 := blk_frozen BK137.out 0
     go_wp2
     go_ret
     exact ⟨by first | rfl | (simp [errW_none, errW_some] <;> rfl) | (simp [*, errW_none, errW_some] <;> rfl), by repeat (first | (with_reducible first | exact HB.out | apply below_alloc | apply pw_below_drewN | apply below_drew1 | refine below_set ?_ GE137.out) | exact HB.out)⟩
end
end Go.Proofs.Ytbfialebaoeicaa.X
namespace Go.Proofs.Ytbfialebaoeicaa.G
open Go.Proofs.Ytbfialebaoeicaa.X Go.RowKit Go.Proofs.YtbfialebaoeicaaW.PrintWords
set_option linter.all false
structure GoodB (b : S41) : Prop where
 ins : b.f2.length ≤ 70
 ctc : b.f1.f1.length ≤ 20
 arg : b.f3.f4.length ≤ 20
 xar : ∀ x ∈ b.f2, x.f6.length ≤ 20
structure GoodF (f : S27) : Prop where
 len : f.f2.length ≤ 70
 blk : ∀ b ∈ f.f2, GoodB b
structure Sh (m : List S27) : Prop where
 len : m.length ≤ 20
 fn : ∀ f ∈ m, GoodF f
theorem rdF (l : List S27) (i : Nat) : rd_T27 l (i : Int) = l.getD i z27 := by unfold rd_T27; rw [Int.toNat_natCast]
theorem rdB (l : List S41) (i : Nat) : rd_T41 l (i : Int) = l.getD i z41 := by unfold rd_T41; rw [Int.toNat_natCast]
theorem rdI (l : List S49) (i : Nat) : rd_T49 l (i : Int) = l.getD i z49 := by unfold rd_T49; rw [Int.toNat_natCast]
theorem short_l2 (m : List S27) (n : Int) (i k : Nat) (b : S41) (hk : k < 70) (hb : b.f2.length ≤ 70) (G : Prop)
  (h : ∃ r, Evt (fun f => davitref02_Short.l1 f n (i : Int) ((k : Int) + 1) m) r ∧ (r = true → G)) :
  ∀ (d j : Nat), j + d = b.f2.length → (∀ q, q < j → (b.f2.getD q z49).f6.length ≤ 20) →
   ∃ r, Evt (fun f => davitref02_Short.l2 f n (i : Int) (k : Int) (j : Int) m b.f0 b.f1.f0 b.f1.f1 b.f1.f2 b.f1.f3 b.f2 b.f3.f0 b.f3.f1 b.f3.f2 b.f3.f3 b.f3.f4 b.f3.f5 b.f3.f6 b.f3.f7) r ∧ (r = true → (∀ x ∈ b.f2, x.f6.length ≤ 20) ∧ G) := by
 intro d
 induction d with
 | zero =>
  intro j hj hq
  obtain ⟨r, hr, hG⟩ := h
  refine ⟨r, Evt.succ (Evt.congr hr fun f => ?_), fun e => ⟨fun x hx => ?_, hG e⟩⟩
  ·rw [davitref02_Short.l2, if_neg (by omega), wrap_small _ (by omega) (by omega)]
  ·obtain ⟨q, hq1, rfl⟩ := of_getD hx z49
   exact hq q (by omega)
 | succ d ih =>
  intro j hj hq
  by_cases hx : ((b.f2.getD j z49).f6.length : Int) > 20
  ·refine ⟨false, Evt.succ (Evt.congr (Evt.pure _) fun f => ?_), fun e => by cases e⟩
   rw [davitref02_Short.l2, if_pos (by omega), if_pos (by omega), rdI, if_pos hx]
  ·obtain ⟨r, hr, hG⟩ := ih (j + 1) (by omega) (fun q hq1 => by
    rcases Nat.lt_or_ge q j with h | h
    ·exact hq q h
    ·obtain rfl : q = j := by omega
     omega)
   rw [cast_succ] at hr
   refine ⟨r, Evt.succ (Evt.congr hr fun f => ?_), hG⟩
   rw [davitref02_Short.l2, if_pos (by omega), if_pos (by omega), rdI, if_neg hx, wrap_small _ (by omega) (by omega)]
theorem short_l1 (m : List S27) (i : Nat) (hi : i < m.length) (hm : m.length ≤ 20) (hB : (m.getD i z27).f2.length ≤ 70) (G : Prop)
  (h : ∀ n : Int, 0 ≤ n → n ≤ (i + 1) * 4900 → ∃ r, Evt (fun f => davitref02_Short.l0 f n ((i : Int) + 1) m) r ∧ (r = true → G)) :
  ∀ (d k : Nat) (n : Int), k + d = (m.getD i z27).f2.length → 0 ≤ n → n ≤ i * 4900 + k * 70 → (∀ q, q < k → GoodB ((m.getD i z27).f2.getD q z41)) →
   ∃ r, Evt (fun f => davitref02_Short.l1 f n (i : Int) (k : Int) m) r ∧ (r = true → GoodF (m.getD i z27) ∧ G) := by
 intro d
 induction d with
 | zero =>
  intro k n hk h0 h1 hq
  obtain ⟨r, hr, hG⟩ := h n h0 (by omega)
  refine ⟨r, Evt.succ (Evt.congr hr fun f => ?_), fun e => ⟨⟨hB, fun b hb => ?_⟩, hG e⟩⟩
  ·rw [davitref02_Short.l1, if_pos (by omega), if_pos (by omega), rdF, if_neg (by omega), wrap_small _ (by omega) (by omega)]
  ·obtain ⟨q, hq1, rfl⟩ := of_getD hb z41
   exact hq q (by omega)
 | succ d ih =>
  intro k n hk h0 h1 hq
  obtain ⟨b, hb⟩ : ∃ b, b = (m.getD i z27).f2.getD k z41 := ⟨_, rfl⟩
  have start : ∀ {r : Bool} {x : Bool}, x = decide ((b.f2.length : Int) > 70 ∨ (b.f1.f1.length : Int) > 20 ∨ (b.f3.f4.length : Int) > 20) → Evt (fun f => davitref02_Short.j2 f n (i : Int) (k : Int) x m b.f0 b.f1.f0 b.f1.f1 b.f1.f2 b.f1.f3 b.f2 b.f3.f0 b.f3.f1 b.f3.f2 b.f3.f3 b.f3.f4 b.f3.f5 b.f3.f6 b.f3.f7) r → Evt (fun f => davitref02_Short.l1 f n (i : Int) (k : Int) m) r := by
   intro r x hx hr
   refine Evt.succ (Evt.congr hr fun f => ?_)
   rw [davitref02_Short.l1, if_pos (by omega), if_pos (by omega), rdF, if_pos (by omega), if_pos (by omega), rdB, ← hb, hx]
   by_cases c1 : (b.f2.length : Int) > 70
   ·rw [if_pos c1, decide_eq_true (.inl c1)]
   ·rw [if_neg c1]
    by_cases c2 : (b.f1.f1.length : Int) > 20
    ·rw [if_pos c2, decide_eq_true (.inr (.inl c2))]
    ·rw [if_neg c2]
     congr 1
     exact decide_eq_decide.2 ⟨fun h => .inr (.inr h), fun h => by omega⟩
  by_cases hbad : (b.f2.length : Int) > 70 ∨ (b.f1.f1.length : Int) > 20 ∨ (b.f3.f4.length : Int) > 20
  ·refine ⟨false, start (x := true) (by rw [decide_eq_true hbad]) (Evt.succ (Evt.congr (Evt.pure _) fun f => ?_)), fun e => by cases e⟩
   rw [davitref02_Short.j2, if_pos rfl]
  ·have hk70 : k < 70 := by omega
   have hG : ∃ r, Evt (fun f => davitref02_Short.l2 f (n + (b.f2.length : Int)) (i : Int) (k : Int) ((0 : Nat) : Int) m b.f0 b.f1.f0 b.f1.f1 b.f1.f2 b.f1.f3 b.f2 b.f3.f0 b.f3.f1 b.f3.f2 b.f3.f3 b.f3.f4 b.f3.f5 b.f3.f6 b.f3.f7) r ∧ (r = true → GoodF (m.getD i z27) ∧ G) := by
    by_cases hxa : ∀ x ∈ b.f2, x.f6.length ≤ 20
    ·have gb : GoodB b := ⟨by omega, by omega, by omega, hxa⟩
     obtain ⟨r, hr, hG⟩ := short_l2 m (n + (b.f2.length : Int)) i k b hk70 (by omega) (GoodF (m.getD i z27) ∧ G) (by
      have := ih (k + 1) (n + (b.f2.length : Int)) (by omega) (by omega) (by omega) (fun q hq1 => by
       rcases Nat.lt_or_ge q k with h | h
       ·exact hq q h
       ·obtain rfl : q = k := by omega
        rw [← hb]; exact gb)
      rwa [cast_succ] at this) b.f2.length 0 (by omega) (fun q hq => by omega)
     exact ⟨r, hr, fun e => (hG e).2⟩
    ·
     have key : ∀ (d j : Nat), j + d = b.f2.length → (∃ q, j ≤ q ∧ q < b.f2.length ∧ ¬ (b.f2.getD q z49).f6.length ≤ 20) → Evt (fun f => davitref02_Short.l2 f (n + (b.f2.length : Int)) (i : Int) (k : Int) (j : Int) m b.f0 b.f1.f0 b.f1.f1 b.f1.f2 b.f1.f3 b.f2 b.f3.f0 b.f3.f1 b.f3.f2 b.f3.f3 b.f3.f4 b.f3.f5 b.f3.f6 b.f3.f7) false := by
      intro d
      induction d with
      | zero => rintro j hj ⟨q, h1, h2, _⟩; omega
      | succ d ih2 =>
       rintro j hj ⟨q, h1, h2, h3⟩
       by_cases hx : ((b.f2.getD j z49).f6.length : Int) > 20
       ·refine Evt.succ (Evt.congr (Evt.pure _) fun f => ?_)
        rw [davitref02_Short.l2, if_pos (by omega), if_pos (by omega), rdI, if_pos hx]
       ·have hne : q ≠ j := fun e => by subst e; omega
        have := ih2 (j + 1) (by omega) ⟨q, by omega, h2, h3⟩
        rw [cast_succ] at this
        refine Evt.succ (Evt.congr this fun f => ?_)
        rw [davitref02_Short.l2, if_pos (by omega), if_pos (by omega), rdI, if_neg hx, wrap_small _ (by omega) (by omega)]
     have hex : ∃ q, 0 ≤ q ∧ q < b.f2.length ∧ ¬ (b.f2.getD q z49).f6.length ≤ 20 := by
      apply Classical.byContradiction
      intro hno
      refine hxa fun x hx => ?_
      obtain ⟨q, hq1, rfl⟩ := of_getD hx z49
      apply Classical.byContradiction
      intro h3
      exact hno ⟨q, Nat.zero_le _, hq1, h3⟩
     exact ⟨false, key b.f2.length 0 (by omega) hex, fun e => by cases e⟩
   obtain ⟨r, hr, hG⟩ := hG
   refine ⟨r, start (x := false) (by rw [decide_eq_false hbad]) (Evt.succ (Evt.congr hr fun f => ?_)), hG⟩
   rw [davitref02_Short.j2, if_neg (by simp), wrap_small _ (by omega) (by omega)]
   rfl
theorem short_l0 (m : List S27) (hm : m.length ≤ 20) : ∀ (d i : Nat) (n : Int), i + d = m.length → 0 ≤ n → n ≤ i * 4900 → (∀ q, q < i → GoodF (m.getD q z27)) →
  ∃ r, Evt (fun f => davitref02_Short.l0 f n (i : Int) m) r ∧ (r = true → Sh m) := by
 intro d
 induction d with
 | zero =>
  intro i n hi h0 h1 hq
  refine ⟨_, Evt.succ (Evt.congr (Evt.pure (decide (n ≤ 2000))) fun f => ?_), fun _ => ⟨hm, fun f hf => ?_⟩⟩
  ·rw [davitref02_Short.l0, if_neg (by omega)]
  ·obtain ⟨q, hq1, rfl⟩ := of_getD hf z27
   exact hq q (by omega)
 | succ d ih =>
  intro i n hi h0 h1 hq
  by_cases hB : (((m.getD i z27).f2).length : Int) > 70
  ·refine ⟨false, Evt.succ (Evt.congr (Evt.pure _) fun f => ?_), fun e => by cases e⟩
   rw [davitref02_Short.l0, if_pos (by omega), if_pos (by omega), rdF, if_pos hB]
  ·by_cases hg : GoodF (m.getD i z27)
   ·obtain ⟨r, hr, hG⟩ := short_l1 m i (by omega) hm (by omega) (Sh m) (fun n h0 h1 => by
     have := ih (i + 1) n (by omega) h0 (by omega) (fun q hq1 => by
      rcases Nat.lt_or_ge q i with h | h
      ·exact hq q h
      ·obtain rfl : q = i := by omega
       exact hg)
     rwa [cast_succ] at this) (m.getD i z27).f2.length 0 n (by omega) h0 (by omega) (fun q hq => by omega)
    refine ⟨r, Evt.succ (Evt.congr hr fun f => ?_), fun e => (hG e).2⟩
    rw [davitref02_Short.l0, if_pos (by omega), if_pos (by omega), rdF, if_neg hB]
    rfl
   ·
    have hend : ∀ (d i : Nat) (n : Int), i + d = m.length → 0 ≤ n → n ≤ i * 4900 → ∃ r, Evt (fun f => davitref02_Short.l0 f n (i : Int) m) r ∧ (r = true → True) := by
     intro d
     induction d with
     | zero =>
      intro i n hi h0 h1
      refine ⟨_, Evt.succ (Evt.congr (Evt.pure (decide (n ≤ 2000))) fun f => ?_), fun _ => trivial⟩
      rw [davitref02_Short.l0, if_neg (by omega)]
     | succ d ih2 =>
      intro i n hi h0 h1
      by_cases hB : (((m.getD i z27).f2).length : Int) > 70
      ·refine ⟨false, Evt.succ (Evt.congr (Evt.pure _) fun f => ?_), fun _ => trivial⟩
       rw [davitref02_Short.l0, if_pos (by omega), if_pos (by omega), rdF, if_pos hB]
      ·obtain ⟨r, hr, _⟩ := short_l1 m i (by omega) hm (by omega) True (fun n h0 h1 => by
        have := ih2 (i + 1) n (by omega) h0 (by omega)
        rwa [cast_succ] at this) (m.getD i z27).f2.length 0 n (by omega) h0 (by omega) (fun q hq => by omega)
       refine ⟨r, Evt.succ (Evt.congr hr fun f => ?_), fun _ => trivial⟩
       rw [davitref02_Short.l0, if_pos (by omega), if_pos (by omega), rdF, if_neg hB]
       rfl
    obtain ⟨r, hr, hG⟩ := short_l1 m i (by omega) hm (by omega) True (fun n h0 h1 => by
     have := hend d (i + 1) n (by omega) h0 (by omega)
     rwa [cast_succ] at this) (m.getD i z27).f2.length 0 n (by omega) h0 (by omega) (fun q hq => by omega)
    refine ⟨r, Evt.succ (Evt.congr hr fun f => ?_), fun e => absurd (hG e).1 hg⟩
    rw [davitref02_Short.l0, if_pos (by omega), if_pos (by omega), rdF, if_neg hB]
    rfl
theorem short_ev (m : List S27) : ∃ r, Evt (fun f => davitref02_Short.f f m) r ∧ (r = true → Sh m) := by
 by_cases hm : (m.length : Int) > 20
 ·refine ⟨false, Evt.congr (Evt.pure _) fun f => ?_, fun e => by cases e⟩
  unfold davitref02_Short.f
  rw [if_pos hm]
 ·obtain ⟨r, hr, hG⟩ := short_l0 m (by omega) m.length 0 0 (by omega) (by omega) (by omega) (fun q hq => by omega)
  refine ⟨r, Evt.congr hr fun f => ?_, hG⟩
  unfold davitref02_Short.f
  rw [if_neg hm]
  rfl
end Go.Proofs.Ytbfialebaoeicaa.G
namespace Go.Proofs.Ytbfialebaoeicaa.X
open Go.RowKit Go.Proofs.YtbfialebaoeicaaW.PrintWords Go.Proofs.YtbfialebaoeicaaW.PrintLast Go.Proofs.YtbfialebaoeicaaW.PrintMore
set_option linter.all false
open Go.Proofs.Ytbfialebaoeicaa.G
theorem Sh.bnd {m : List S27} (h : Sh m) : Bnd m := ⟨by have := h.len; omega, fun f hf => by
 have h1 := h.fn f hf
 exact ⟨by have := h1.len; omega, fun b hb => by have := (h1.blk b hb).ins; omega, fun b hb => (h1.blk b hb).ctc, fun b hb => by have := (h1.blk b hb).arg; omega, fun b hb x hx => by have := (h1.blk b hb).xar x hx; omega⟩⟩
theorem short_c (m : List S27) : ∃ r, (r = true → Sh m) ∧ ∀ (A : Option Addr) (c : Nat) (w : World), Kd.C k27 w A m.length m → m.length ≤ c →
  Calls Try.prog 15 #[.agg #[.slice A m.length c]] w fun e w' => e = .returned (.bool r) ∧ Below w.heap.size w w' := by
 obtain ⟨r, ⟨k0, hr⟩, hs⟩ := short_ev m
 exact ⟨r, hs, fun A c w h hc => davitref02_Short.calls k0 A c m r w h hc (hr k0 (Nat.le_refl _))⟩
end Go.Proofs.Ytbfialebaoeicaa.X
namespace Go.Proofs.Ytbfialebaoeicaa.X
open Go.RowKit Go.Proofs.YtbfialebaoeicaaW.PrintWords Go.Proofs.YtbfialebaoeicaaW.PrintLast Go.Proofs.YtbfialebaoeicaaW.PrintMore
set_option linter.all false
open Go.Proofs.Ytbfialebaoeicaa.G
theorem insE_refl (a : S49) : insE a a = true := (insE_iff a a).2 rfl
theorem endE_refl (a : S39) : endE a a = true := (endE_iff a a).2 rfl
theorem eqL_refl {α : Type} {q : α → α → Bool} (h : ∀ x, q x x = true) : ∀ l : List α, eqL q l l = true
 | [] => rfl
 | x :: l => by rw [eqL, h x, eqL_refl h l]; rfl
theorem blockE_refl (a : S41) : blockE a a = true := by
 unfold blockE
 rw [padE_refl, eqL_refl insE_refl, endE_refl]
 simp
theorem funcE_refl (a : S27) : funcE a a = true := by
 unfold funcE
 rw [eqL_refl blockE_refl]
 simp
theorem Sh_bc {m : List S27} (h : Sh m) : BC m := ⟨by have := h.len; omega, fun f hf => by have := (h.fn f hf).len; omega, fun f hf b hb => by have := ((h.fn f hf).blk b hb).ins; omega, fun f hf b hb => by have := ((h.fn f hf).blk b hb).ctc; omega, fun f hf b hb => by have := ((h.fn f hf).blk b hb).arg; omega, fun f hf b hb x hx => by have := ((h.fn f hf).blk b hb).xar x hx; omega⟩
end Go.Proofs.Ytbfialebaoeicaa.X
namespace Go.Proofs.Ytbfialebaoeicaa.X
open Go.RowKit Go.Proofs.YtbfialebaoeicaaW.PrintWords Go.Proofs.YtbfialebaoeicaaW.PrintLast Go.Proofs.YtbfialebaoeicaaW.PrintMore
set_option linter.all false
theorem eqL_eq {α : Type} {q : α → α → Bool} (h : ∀ x y, q x y = true → x = y) : ∀ l r : List α, eqL q l r = true → l = r
 | [], [], _ => rfl
 | [], _ :: _, e => by simp [eqL] at e
 | _ :: _, [], e => by simp [eqL] at e
 | x :: l, y :: r, e => by
  simp only [eqL, Bool.and_eq_true] at e
  rw [h x y e.1, eqL_eq h l r e.2]
theorem blockE_eq (a b : S41) (h : blockE a b = true) : a = b := by
 unfold blockE at h
 simp only [Bool.and_eq_true, beq_iff_eq] at h
 obtain ⟨⟨⟨h0, h1⟩, h2⟩, h3⟩ := h
 have e1 := (padE_iff _ _).1 h1
 have e2 := eqL_eq (fun x y => (insE_iff x y).1) _ _ h2
 have e3 := (endE_iff _ _).1 h3
 cases a; cases b
 simp_all
theorem funcE_eq (a b : S27) (h : funcE a b = true) : a = b := by
 unfold funcE at h
 simp only [Bool.and_eq_true, beq_iff_eq] at h
 obtain ⟨⟨h0, h1⟩, h2⟩ := h
 have e2 := eqL_eq blockE_eq _ _ h2
 cases a; cases b
 simp_all
theorem sameM_eq {a b : List S27} (h : eqL funcE a b = true) : a = b := eqL_eq funcE_eq _ _ h
theorem sameM_ne {a b : List S27} (h : a ≠ b) : eqL funcE a b = false := Bool.eq_false_iff.2 fun e => h (sameM_eq e)
def putB (m : List S27) (x y : Int) (b : S41) : List S27 := m.set x.toNat ⟨(rd_T27 m x).f0, (rd_T27 m x).f1, (rd_T27 m x).f2.set y.toNat b⟩
theorem putB_len (m : List S27) (x y : Int) (b : S41) : (putB m x y b).length = m.length := List.length_set ..
def setTo (b : S41) (v : Int) : S41 := ⟨b.f0, b.f1, b.f2, ⟨b.f3.f0, b.f3.f1, b.f3.f2, b.f3.f3, b.f3.f4, v, b.f3.f6, b.f3.f7⟩⟩
end Go.Proofs.Ytbfialebaoeicaa.X
namespace Go.Proofs.Ytbfialebaoeicaa.X
open Go.RowKit Go.Proofs.YtbfialebaoeicaaW.PrintWords Go.Proofs.YtbfialebaoeicaaW.PrintLast Go.Proofs.YtbfialebaoeicaaW.PrintMore
set_option linter.all false
theorem infoBo : (Try.prog.info? 4).map (fun i => (i.zero, i.size, i.bytes)) = some (some (.bool false), 1, 1) := by kernel_rfl
set_option maxHeartbeats 16000000 in
set_option maxRecDepth 100000 in
theorem cleans0_c (f : S27) (A1 : Option Addr) (c1 : Nat) (w : World) (hC : Kd.C k41 w A1 f.f2.length f.f2) (hn : f.f2.length ≤ 1000000) (hl : ∀ b ∈ f.f2, b.f0 = false) :
  Calls Try.prog 20 #[.agg #[.int .i64 f.f0, .int .i64 f.f1, .slice A1 f.f2.length c1]] w fun e w' => (∃ A c, e = .returned (.slice A f.f2.length c)) ∧ Below w.heap.size w w' := by
 have HC := Aside0.mk hC
 have HN := Aside0.mk hn
 have HL := Aside0.mk hl
 clear hC hn hl
 have hu27 := Try.underlying27
 have hu41 := Try.underlying41
 have hu35 := Try.underlying35
 go_enter Try.func20, Try.ntmps20
 go_wp2_with (first | ((with_reducible refine gate_dst (N := 1) rfl ?_); refine box_event ?hg (N := 1) ?hd (cs := #[.int .i64 f.f0, .int .i64 f.f1, .slice A1 f.f2.length c1]) (t := 27) ?hr ?_; (case hd => rfl); (case hg => rfl); (case hr => first | (go_simp; done) | (go_simp; rfl)); intro g1 hg w1 hbox hb; have HLX1 := Aside0.mk (show w.heap.size ≤ g1 by rw [hg]; exact Nat.le_refl _); have HB := Aside0.mk hb; have X1 := Aside0.mk hbox; clear hbox hb hg; obtain ⟨h0, h1, h2⟩ := cl3 X1.out; obtain ⟨zh0, zh1, zh2⟩ := fz3 X1.out) | ((with_reducible refine gate_dst (N := 11) rfl ?_); refine Kd.R_make Kd.bool w1.heap.size 4 rfl (N := 11) rfl 31 (.tmp 10) (.tmp 10) rfl (f.f2.length : Int) rfl rfl Try.underlying31 _ _ infoBo rfl (Nat.succ_pos _) (by omega) false (ok := fun _ => True) (okp := fun _ => True) rfl (fun _ h => h) trivial (by omega) (by have := HN.out; simp; omega) (Below.refl _ _) (Nat.le_refl _) ?_; intro v11 w11 hr hb hg hnew; obtain ⟨AO, cO, he, hl_, _⟩ := Kd.R_reads hr; rw [List.length_replicate, Int.toNat_natCast] at he; subst he; clear h0 zh0 h1 zh1 h2 zh2; replace HB := Aside0.mk (below_step HB.out hb); replace X1 := Aside0.mk (blk_below X1.out hb); clear hr hb hg hnew hl_; obtain ⟨h0, h1, h2⟩ := cl3 X1.out; obtain ⟨zh0, zh1, zh2⟩ := fz3 X1.out))
 clear h0 zh0 h1 zh1 h2 zh2
 go_loopg [4, 15] 1000000 (fun gg s4 s wr => ∃ x : Int, s4 = .slice none 0 0 ∧ s = .int .i64 x ∧ Aside0 (0 ≤ x ∧ x ≤ f.f2.length ∧ (f.f2.length : Int) - x ≤ gg) ∧ Aside0 (Below w.heap.size w wr) ∧ Aside0 (wr.heap[g1]? = some (.cells #[.int .i64 f.f0, .int .i64 f.f1, .slice A1 f.f2.length c1] 27 (0, 0))))
 case atStart => exact ⟨0, rfl, rfl, ⟨by have := HN.out; omega⟩, HB, X1⟩
 case round =>
  clear HB X1
  obtain ⟨x, rfl, rfl, HX, HB, X1⟩ := hrel
  obtain ⟨h0, h1, h2⟩ := cl3 X1.out
  by_cases hlt : x < (f.f2.length : Int)
  rotate_left
  ·have hd : decide (x < (f.f2.length : Int)) = false := decide_eq_false hlt
   clear hlt
   go_wp2
   clear h0 h1 h2
   go_loopg [4] 1 (fun gg s wr => s = .slice none 0 0 ∧ Aside0 (Below w.heap.size w wr))
   case atStart => exact ⟨rfl, HB⟩
   case round =>
    clear HB X1
    obtain ⟨rfl, HB⟩ := hrel
    go_wp2
    go_ret
    exact ⟨⟨_, _, rfl⟩, HB.out⟩
  have hd : decide (x < (f.f2.length : Int)) = true := decide_eq_true hlt
  have HLT := Aside0.mk hlt
  clear hlt
  have p1 : (0 ≤ x) = True := eq_true HX.out.1
  have p2 : (x < (f.f2.length : Int)) = True := eq_true HLT.out
  obtain ⟨ad, A4, c4, A5, c5, A6, c6, e1, y0, y1, y2, y3, y4, y5, y6, y7, y8, y9, y10, y11, y12, y13, _⟩ := at_T41 (Kd.C_below HC.out HB.out) x HX.out.1 HLT.out
  subst e1
  rw [HL.out _ (show rd_T41 f.f2 x ∈ f.f2 from rd_mem' f.f2 z41 x HX.out.1 HLT.out)] at y0
  generalize rd_T41 f.f2 x = b at *
  go_upto_region 5 with (fail)
  go_cut [6, 15] from 15 to 31 (fun v6 v15 wc => ∃ g6 : Nat, v6 = .pointer (some ⟨g6, 0, none⟩) ∧ v15 = .int .i64 x ∧ Aside0 (Below w.heap.size w wc) ∧ Aside0 (wc.heap[g1]? = some (.cells #[.int .i64 f.f0, .int .i64 f.f1, .slice (some ad) f.f2.length c1] 27 (0, 0))) ∧ Aside0 (wc.heap[g6]? = some (.cells #[.bool false, .int .i64 b.f1.f0, .slice A4 b.f1.f1.length c4, .bool b.f1.f2, .bool b.f1.f3, .slice A5 b.f2.length c5, .int .i64 b.f3.f0, .int .i64 b.f3.f1, .int .i64 b.f3.f2, .int .i64 b.f3.f3, .slice A6 b.f3.f4.length c6, .int .i64 b.f3.f5, .int .i64 b.f3.f6, .int .i64 b.f3.f7] 41 (0, 0))))
  case first => go_wp2; go_meet; exact ⟨_, rfl, rfl, ⟨below_alloc HB.out _⟩, ⟨blk_alloc X1.out _⟩, ⟨blk_new _ _⟩⟩
  case rest =>
   clear y0 y1 y2 y3 y4 y5 y6 y7 y8 y9 y10 y11 y12 y13
   clear h0 h1 h2
   clear HB X1 p1 p2 hd
   obtain ⟨g6, rfl, rfl, HB, X1, X6⟩ := hcut
   obtain ⟨e0, e1, e2, e3, e4, e5, e6, e7, e8, e9, e10, e11, e12, e13⟩ := cl14 X6.out
   go_wp2
   have W1 := Aside0.mk (show wrap64 (x + 1) = x + 1 from wrap_in _ (by have := HX.out; omega) (by have := HLT.out; have := HN.out; omega))
   go_roundg ((f.f2.length : Int) - (x + 1)).toNat
   case measure => have h1_ := HX.out; have h2_ := HLT.out; omega
   case rel => exact ⟨x + 1, rfl, by first | (rw [W1.out]; done) | rfl | (simp only [W1.out]; done), ⟨by have := HX.out; have := HLT.out; omega⟩, HB, X1⟩
end Go.Proofs.Ytbfialebaoeicaa.X
namespace Go.Proofs.Ytbfialebaoeicaa.X
open Go.RowKit Go.Proofs.YtbfialebaoeicaaW.PrintWords Go.Proofs.YtbfialebaoeicaaW.PrintLast Go.Proofs.YtbfialebaoeicaaW.PrintMore
set_option linter.all false
theorem S_seg0 {α : Type} {d : Kd α} {e g n cap : Nat} {W : World} {base : Nat} {ok oki okp : Nat → Prop} {xs : List α} {i : Int} {c : List Value} (hH : Kd.H d e W base ok (.slice (some ⟨g, 0, none⟩) n cap) xs i oki c) (h0 : 0 ≤ i) (h1 : i < n) {u : Value} {j : Nat} (hj : j + 1 ≤ d.sz) {x' : α} (hM : d.M W base okp x' (c.take j ++ [u] ++ c.drop (j + 1))) (hokp : ∀ k, okp k → oki k) :
  Kd.S d e (W.setCell ⟨g, i.toNat * d.sz + j, none⟩ u) base ok (.slice (some ⟨g, 0, none⟩) n cap) (xs.set i.toNat x') := by
 have hH' : Kd.H d e W base (fun k => ok k ∧ ¬ (fun _ => False) k) (.slice (some ⟨g, 0, none⟩) n cap) xs i oki c := by
  rw [show (fun k => ok k ∧ ¬ (fun _ => False) k) = ok from funext fun k => by simp]
  exact hH
 exact (Kd.S_seg (d := d) (okg := fun _ => False) (seg := [u]) hH' h0 h1 hj hM (fun k hk => .inl (hokp k hk)) (fun _ hk => hk.elim)).1
theorem SM_reg {w : World} {base : Nat} {ok : Nat → Prop} {g0 n c : Nat} {m : List S27} (h : Kd.S sF 27 w base ok (.slice (some ⟨g0, 0, none⟩) n c) m) (x : Int) (h0 : 0 ≤ x) (h1 : x < (n : Int)) (r : Int) : w.cell? ⟨g0, x.toNat * 3 + 1, none⟩ = some (.int .i64 (rd_T27 m x).f1) ∧ w.frozen? ⟨g0, x.toNat * 3 + 1, none⟩ = false ∧
  Kd.S sF 27 (w.setCell ⟨g0, x.toNat * 3 + 1, none⟩ (.int .i64 r)) base ok (.slice (some ⟨g0, 0, none⟩) n c) (m.set x.toNat ⟨(rd_T27 m x).f0, r, (rd_T27 m x).f2⟩) := by
 obtain ⟨oki, c1, hcl, hM, hcc, hfr, hok, hH⟩ := Kd.S_elem h z27 x h0 h1
 obtain ⟨v2, rfl, hS⟩ := hM
 exact ⟨hcc 1 _ rfl, hfr 1, S_seg0 (d := sF) hH h0 h1 (j := 1) (by decide) ⟨v2, rfl, hS⟩ (fun _ h => h)⟩
end Go.Proofs.Ytbfialebaoeicaa.X
