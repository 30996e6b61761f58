/- Part 2 of the proof of the statement CallsMore: the words of the walks, the walks through the functions that it reaches, and the plain laws of what they compute. -/
import Derived.Test.YtjjcnbfmmhokeaaMCallsMore0
import Derived.WalkSpells
import Derived.Shelf.Abstract
import Derived.Lib.SliceRun
import Derived.Shelf.Sort.Plain
import Derived.Ground.Names2Prog
import Derived.Shelf.Slices.CompactI
import Derived.Shelf.Slices.In.SortNone
import Derived.Test.YtjjcnbfmmhokeaaProg
import Derived.Sort.OwnSortedInts
import Derived.Lib.SlicesCompact
namespace Go.Proofs.Ytjjcnbfmmhokeaa.X
open Go.RowKit Go.Proofs.YtjjcnbfmmhokeaaW.PrintWords Go.Proofs.YtjjcnbfmmhokeaaW.PrintLast Go.Proofs.YtjjcnbfmmhokeaaW.PrintMore
attribute [local go_sem] max2_int min2_int max_two min_two max_three min_three max_four min_four
set_option linter.all false
noncomputable section
mutual
def davitref02_Short.l0 : Nat → Int → Int → List (S33) → Option (Bool)
 | 0, _, _, _ => none
 | k + 1, x3, x4, x102000 => if x4 < (x102000.length : Int) then (if 0 ≤ x4 then (if (((rd_T33 x102000 x4).f2).length : Int) > 70 then (some false) else (davitref02_Short.l1 k x3 x4 0 x102000)) else (none)) else (some (decide (x3 ≤ 2000)))
def davitref02_Short.l1 : Nat → Int → Int → Int → List (S33) → Option (Bool)
 | 0, _, _, _, _ => none
 | k + 1, x3, x4, x5, x102000 => if 0 ≤ x4 then (if x4 < (x102000.length : Int) then (if x5 < (((rd_T33 x102000 x4).f2).length : Int) then (if 0 ≤ x5 then (if (((rd_T44 ((rd_T33 x102000 x4).f2) x5).f2).length : Int) > 70 then (davitref02_Short.j2 k x3 x4 x5 true x102000 ((rd_T44 ((rd_T33 x102000 x4).f2) x5).f0) ((rd_T44 ((rd_T33 x102000 x4).f2) x5).f1.f0) ((rd_T44 ((rd_T33 x102000 x4).f2) x5).f1.f1) ((rd_T44 ((rd_T33 x102000 x4).f2) x5).f1.f2) ((rd_T44 ((rd_T33 x102000 x4).f2) x5).f1.f3) ((rd_T44 ((rd_T33 x102000 x4).f2) x5).f2) ((rd_T44 ((rd_T33 x102000 x4).f2) x5).f3.f0) ((rd_T44 ((rd_T33 x102000 x4).f2) x5).f3.f1) ((rd_T44 ((rd_T33 x102000 x4).f2) x5).f3.f2) ((rd_T44 ((rd_T33 x102000 x4).f2) x5).f3.f3) ((rd_T44 ((rd_T33 x102000 x4).f2) x5).f3.f4) ((rd_T44 ((rd_T33 x102000 x4).f2) x5).f3.f5) ((rd_T44 ((rd_T33 x102000 x4).f2) x5).f3.f6) ((rd_T44 ((rd_T33 x102000 x4).f2) x5).f3.f7)) else (if (((rd_T44 ((rd_T33 x102000 x4).f2) x5).f1.f1).length : Int) > 20 then (davitref02_Short.j2 k x3 x4 x5 true x102000 ((rd_T44 ((rd_T33 x102000 x4).f2) x5).f0) ((rd_T44 ((rd_T33 x102000 x4).f2) x5).f1.f0) ((rd_T44 ((rd_T33 x102000 x4).f2) x5).f1.f1) ((rd_T44 ((rd_T33 x102000 x4).f2) x5).f1.f2) ((rd_T44 ((rd_T33 x102000 x4).f2) x5).f1.f3) ((rd_T44 ((rd_T33 x102000 x4).f2) x5).f2) ((rd_T44 ((rd_T33 x102000 x4).f2) x5).f3.f0) ((rd_T44 ((rd_T33 x102000 x4).f2) x5).f3.f1) ((rd_T44 ((rd_T33 x102000 x4).f2) x5).f3.f2) ((rd_T44 ((rd_T33 x102000 x4).f2) x5).f3.f3) ((rd_T44 ((rd_T33 x102000 x4).f2) x5).f3.f4) ((rd_T44 ((rd_T33 x102000 x4).f2) x5).f3.f5) ((rd_T44 ((rd_T33 x102000 x4).f2) x5).f3.f6) ((rd_T44 ((rd_T33 x102000 x4).f2) x5).f3.f7)) else (davitref02_Short.j2 k x3 x4 x5 (decide ((((rd_T44 ((rd_T33 x102000 x4).f2) x5).f3.f4).length : Int) > 20)) x102000 ((rd_T44 ((rd_T33 x102000 x4).f2) x5).f0) ((rd_T44 ((rd_T33 x102000 x4).f2) x5).f1.f0) ((rd_T44 ((rd_T33 x102000 x4).f2) x5).f1.f1) ((rd_T44 ((rd_T33 x102000 x4).f2) x5).f1.f2) ((rd_T44 ((rd_T33 x102000 x4).f2) x5).f1.f3) ((rd_T44 ((rd_T33 x102000 x4).f2) x5).f2) ((rd_T44 ((rd_T33 x102000 x4).f2) x5).f3.f0) ((rd_T44 ((rd_T33 x102000 x4).f2) x5).f3.f1) ((rd_T44 ((rd_T33 x102000 x4).f2) x5).f3.f2) ((rd_T44 ((rd_T33 x102000 x4).f2) x5).f3.f3) ((rd_T44 ((rd_T33 x102000 x4).f2) x5).f3.f4) ((rd_T44 ((rd_T33 x102000 x4).f2) x5).f3.f5) ((rd_T44 ((rd_T33 x102000 x4).f2) x5).f3.f6) ((rd_T44 ((rd_T33 x102000 x4).f2) x5).f3.f7)))) else (none)) else (davitref02_Short.l0 k x3 (wrap64 (x4 + 1)) x102000)) else (none)) else (none)
def davitref02_Short.j2 : Nat → Int → Int → Int → Bool → List (S33) → Bool → Int → List Int → Bool → Bool → List (S36) → Int → Int → Int → Int → List Int → Int → Int → Int → Option (Bool)
 | 0, _, _, _, _, _, _, _, _, _, _, _, _, _, _, _, _, _, _, _ => none
 | k + 1, x3, x4, x5, x64, x102000, x107000, x107001, x107002, x107003, x107004, x107005, x107006, x107007, x107008, x107009, x107010, x107011, x107012, x107013 => if x64 = true then (some false) else (davitref02_Short.l2 k (wrap64 (x3 + (x107005.length : Int))) x4 x5 0 x102000 x107000 x107001 x107002 x107003 x107004 x107005 x107006 x107007 x107008 x107009 x107010 x107011 x107012 x107013)
def davitref02_Short.l2 : Nat → Int → Int → Int → Int → List (S33) → Bool → Int → List Int → Bool → Bool → List (S36) → Int → Int → Int → Int → List Int → Int → Int → Int → Option (Bool)
 | 0, _, _, _, _, _, _, _, _, _, _, _, _, _, _, _, _, _, _, _ => none
 | k + 1, x3, x4, x5, x7, x102000, x107000, x107001, x107002, x107003, x107004, x107005, x107006, x107007, x107008, x107009, x107010, x107011, x107012, x107013 => if x7 < (x107005.length : Int) then (if 0 ≤ x7 then (if (((rd_T36 x107005 x7).f6).length : Int) > 20 then (some false) else (davitref02_Short.l2 k x3 x4 x5 (wrap64 (x7 + 1)) x102000 x107000 x107001 x107002 x107003 x107004 x107005 x107006 x107007 x107008 x107009 x107010 x107011 x107012 x107013)) else (none)) else (davitref02_Short.l1 k x3 x4 (wrap64 (x5 + 1)) x102000)
end
def davitref02_Short.f (k : Nat) (l0_0 : List (S33)) : Option (Bool) := if (l0_0.length : Int) > 20 then (some false) else (davitref02_Short.l0 k 0 0 l0_0)
theorem davitref02_Short.mono_l : ∀ k, (∀ y0 y1 y2, LeO (davitref02_Short.l0 k y0 y1 y2) (davitref02_Short.l0 (k + 1) y0 y1 y2)) ∧ (∀ y0 y1 y2 y3, LeO (davitref02_Short.l1 k y0 y1 y2 y3) (davitref02_Short.l1 (k + 1) y0 y1 y2 y3)) ∧ (∀ y0 y1 y2 y3 y4 y5 y6 y7 y8 y9 y10 y11 y12 y13 y14 y15 y16 y17 y18, LeO (davitref02_Short.j2 k y0 y1 y2 y3 y4 y5 y6 y7 y8 y9 y10 y11 y12 y13 y14 y15 y16 y17 y18) (davitref02_Short.j2 (k + 1) y0 y1 y2 y3 y4 y5 y6 y7 y8 y9 y10 y11 y12 y13 y14 y15 y16 y17 y18)) ∧ (∀ y0 y1 y2 y3 y4 y5 y6 y7 y8 y9 y10 y11 y12 y13 y14 y15 y16 y17 y18, LeO (davitref02_Short.l2 k y0 y1 y2 y3 y4 y5 y6 y7 y8 y9 y10 y11 y12 y13 y14 y15 y16 y17 y18) (davitref02_Short.l2 (k + 1) y0 y1 y2 y3 y4 y5 y6 y7 y8 y9 y10 y11 y12 y13 y14 y15 y16 y17 y18))
 | 0 => ⟨fun _ _ _ r h => by simp [davitref02_Short.l0] at h, fun _ _ _ _ r h => by simp [davitref02_Short.l1] at h, fun _ _ _ _ _ _ _ _ _ _ _ _ _ _ _ _ _ _ _ r h => by simp [davitref02_Short.j2] at h, fun _ _ _ _ _ _ _ _ _ _ _ _ _ _ _ _ _ _ _ r h => by simp [davitref02_Short.l2] at h⟩
 | k + 1 => by
  obtain ⟨ih0, ih1, ih2, ih3⟩ := davitref02_Short.mono_l k
  refine ⟨?_, ?_, ?_, ?_⟩
  ·intro y0 y1 y2
   unfold davitref02_Short.l0
   repeat' first
   | (with_reducible exact ih0 _ _ _)
   | (with_reducible exact ih1 _ _ _ _)
   | (with_reducible exact ih2 _ _ _ _ _ _ _ _ _ _ _ _ _ _ _ _ _ _ _)
   | (with_reducible exact ih3 _ _ _ _ _ _ _ _ _ _ _ _ _ _ _ _ _ _ _)
   | (with_reducible exact LeO.refl _)
   | (with_reducible exact LeO.none _)
   | (with_reducible refine LeO.ite ?_ ?_)
   | (with_reducible refine LeO.bind ?_ (fun _ => ?_))
   | exact ih0 _ _ _
   | exact ih1 _ _ _ _
   | exact ih2 _ _ _ _ _ _ _ _ _ _ _ _ _ _ _ _ _ _ _
   | exact ih3 _ _ _ _ _ _ _ _ _ _ _ _ _ _ _ _ _ _ _
   | exact LeO.none _
   | refine LeO.ite ?_ ?_
   | refine LeO.bind ?_ (fun _ => ?_)
  ·intro y0 y1 y2 y3
   unfold davitref02_Short.l1
   repeat' first
   | (with_reducible exact ih0 _ _ _)
   | (with_reducible exact ih1 _ _ _ _)
   | (with_reducible exact ih2 _ _ _ _ _ _ _ _ _ _ _ _ _ _ _ _ _ _ _)
   | (with_reducible exact ih3 _ _ _ _ _ _ _ _ _ _ _ _ _ _ _ _ _ _ _)
   | (with_reducible exact LeO.refl _)
   | (with_reducible exact LeO.none _)
   | (with_reducible refine LeO.ite ?_ ?_)
   | (with_reducible refine LeO.bind ?_ (fun _ => ?_))
   | exact ih0 _ _ _
   | exact ih1 _ _ _ _
   | exact ih2 _ _ _ _ _ _ _ _ _ _ _ _ _ _ _ _ _ _ _
   | exact ih3 _ _ _ _ _ _ _ _ _ _ _ _ _ _ _ _ _ _ _
   | exact LeO.none _
   | refine LeO.ite ?_ ?_
   | refine LeO.bind ?_ (fun _ => ?_)
  ·intro y0 y1 y2 y3 y4 y5 y6 y7 y8 y9 y10 y11 y12 y13 y14 y15 y16 y17 y18
   unfold davitref02_Short.j2
   repeat' first
   | (with_reducible exact ih0 _ _ _)
   | (with_reducible exact ih1 _ _ _ _)
   | (with_reducible exact ih2 _ _ _ _ _ _ _ _ _ _ _ _ _ _ _ _ _ _ _)
   | (with_reducible exact ih3 _ _ _ _ _ _ _ _ _ _ _ _ _ _ _ _ _ _ _)
   | (with_reducible exact LeO.refl _)
   | (with_reducible exact LeO.none _)
   | (with_reducible refine LeO.ite ?_ ?_)
   | (with_reducible refine LeO.bind ?_ (fun _ => ?_))
   | exact ih0 _ _ _
   | exact ih1 _ _ _ _
   | exact ih2 _ _ _ _ _ _ _ _ _ _ _ _ _ _ _ _ _ _ _
   | exact ih3 _ _ _ _ _ _ _ _ _ _ _ _ _ _ _ _ _ _ _
   | exact LeO.none _
   | refine LeO.ite ?_ ?_
   | refine LeO.bind ?_ (fun _ => ?_)
  ·intro y0 y1 y2 y3 y4 y5 y6 y7 y8 y9 y10 y11 y12 y13 y14 y15 y16 y17 y18
   unfold davitref02_Short.l2
   repeat' first
   | (with_reducible exact ih0 _ _ _)
   | (with_reducible exact ih1 _ _ _ _)
   | (with_reducible exact ih2 _ _ _ _ _ _ _ _ _ _ _ _ _ _ _ _ _ _ _)
   | (with_reducible exact ih3 _ _ _ _ _ _ _ _ _ _ _ _ _ _ _ _ _ _ _)
   | (with_reducible exact LeO.refl _)
   | (with_reducible exact LeO.none _)
   | (with_reducible refine LeO.ite ?_ ?_)
   | (with_reducible refine LeO.bind ?_ (fun _ => ?_))
   | exact ih0 _ _ _
   | exact ih1 _ _ _ _
   | exact ih2 _ _ _ _ _ _ _ _ _ _ _ _ _ _ _ _ _ _ _
   | exact ih3 _ _ _ _ _ _ _ _ _ _ _ _ _ _ _ _ _ _ _
   | exact LeO.none _
   | refine LeO.ite ?_ ?_
   | refine LeO.bind ?_ (fun _ => ?_)
theorem davitref02_Short.mono : ∀ a0 k, LeO (davitref02_Short.f k a0) (davitref02_Short.f (k + 1) a0) := by
 intro a0 k
 obtain ⟨ih0, ih1, ih2, ih3⟩ := davitref02_Short.mono_l k
 unfold davitref02_Short.f
 repeat' first
   | (with_reducible exact ih0 _ _ _)
   | (with_reducible exact ih1 _ _ _ _)
   | (with_reducible exact ih2 _ _ _ _ _ _ _ _ _ _ _ _ _ _ _ _ _ _ _)
   | (with_reducible exact ih3 _ _ _ _ _ _ _ _ _ _ _ _ _ _ _ _ _ _ _)
   | (with_reducible exact LeO.refl _)
   | (with_reducible exact LeO.none _)
   | (with_reducible refine LeO.ite ?_ ?_)
   | (with_reducible refine LeO.bind ?_ (fun _ => ?_))
   | exact ih0 _ _ _
   | exact ih1 _ _ _ _
   | exact ih2 _ _ _ _ _ _ _ _ _ _ _ _ _ _ _ _ _ _ _
   | exact ih3 _ _ _ _ _ _ _ _ _ _ _ _ _ _ _ _ _ _ _
   | exact LeO.none _
   | refine LeO.ite ?_ ?_
   | refine LeO.bind ?_ (fun _ => ?_)
set_option maxHeartbeats 8000000 in
set_option maxRecDepth 100000 in
theorem davitref02_Short.calls (k : Nat) (A0_0 : Option Addr) (c0_0 : Nat) (l0_0 : List (S33)) (r : Bool) (w : World) (hr0_0 : Kd.C k33 w A0_0 l0_0.length l0_0) (hc0_0 : l0_0.length ≤ c0_0) (h : davitref02_Short.f k l0_0 = some r) :
  Calls Try.prog 7 #[.agg #[.slice A0_0 l0_0.length c0_0]] w fun e w' => e = .returned (.bool r) ∧ Below w.heap.size w w' := by
 have hu24 := Try.underlying24
 have hu44 := Try.underlying44
 have HR0_0 := Aside0.mk hr0_0
 have HC0_0 := Aside0.mk hc0_0
 clear hr0_0 hc0_0
 have HB := Aside0.mk (Below.refl w.heap.size w)
 have H : (if (l0_0.length : Int) > 20 then (some false) else (davitref02_Short.l0 k 0 0 l0_0)) = some r := h
 clear h
 by_cases c2 : (l0_0.length : Int) > 20
 ·rw [if_pos c2] at H
  have c2b0 : decide (20 < (l0_0.length : Int)) = true := decide_eq_true c2
  have c2b1 : decide (20 < l0_0.length) = true := decide_eq_true (by omega)
  clear c2
  obtain rfl := Option.some.inj H
  go_enter Try.func7, Try.ntmps7
  go_wp2_with (first | ((with_reducible refine gate_dst (N := 1) rfl ?_); (try (refine gate_guard (by rfl) ?_; dsimp only)); refine box_event ?hg (N := 1) ?hd (cs := #[.slice A0_0 l0_0.length c0_0]) (t := 24) ?hr ?_; (case hd => rfl); (case hg => rfl); (case hr => first | (go_simp; done) | (go_simp; rfl)); intro gb101 hg w3 hbox hb; have n0_ := Aside0.mk (below_step (by repeat (first | (with_reducible first | exact HB.out | apply below_alloc | apply pw_below_drewN | apply below_drew1) | exact HB.out)) hb); have n1_ := Aside0.mk (hbox); have n2_ := Aside0.mk ((by rw [hg]; exact (below_size (by repeat (first | (with_reducible first | exact HB.out | apply below_alloc | apply pw_below_drewN | apply below_drew1) | exact HB.out))) : w.heap.size ≤ gb101)); have n3_ := Aside0.mk ((by rw [hg]; exact (below_size (by repeat (first | (with_reducible first | exact HB.out | apply below_alloc | apply pw_below_drewN | apply below_drew1) | exact HB.out))) : w.heap.size ≤ gb101)); clear HB; have HB := n0_; have BK101 := n1_; have GW101 := n2_; have GE101 := n3_; clear n0_ n1_ n2_ n3_; clear hb hbox hg; have hcz4_0 : w3.cell? ⟨gb101, 0, none⟩ = some (.slice A0_0 l0_0.length c0_0) := (blk_cell BK101.out 0).trans rfl; have hfz4_0 := blk_frozen BK101.out 0))
  go_ret
  exact ⟨by first | rfl | (simp [errW_none, errW_some] <;> rfl) | (simp [*, errW_none, errW_some] <;> rfl), by repeat (first | (with_reducible first | exact HB.out | apply below_alloc | apply pw_below_drewN | apply below_drew1 | refine below_set ?_ GE101.out) | exact HB.out)⟩
 ·rw [if_neg c2] at H
  have c2b0 : decide (20 < (l0_0.length : Int)) = false := decide_eq_false c2
  have c2b1 : decide (20 < l0_0.length) = false := decide_eq_false (by omega)
  clear c2
  have H' := Aside0.mk H
  clear H
  go_enter Try.func7, Try.ntmps7
  go_wp2_with (first | ((with_reducible refine gate_dst (N := 1) rfl ?_); (try (refine gate_guard (by rfl) ?_; dsimp only)); refine box_event ?hg (N := 1) ?hd (cs := #[.slice A0_0 l0_0.length c0_0]) (t := 24) ?hr ?_; (case hd => rfl); (case hg => rfl); (case hr => first | (go_simp; done) | (go_simp; rfl)); intro gb101 hg w5 hbox hb; have n0_ := Aside0.mk (below_step (by repeat (first | (with_reducible first | exact HB.out | apply below_alloc | apply pw_below_drewN | apply below_drew1) | exact HB.out)) hb); have n1_ := Aside0.mk (hbox); have n2_ := Aside0.mk ((by rw [hg]; exact (below_size (by repeat (first | (with_reducible first | exact HB.out | apply below_alloc | apply pw_below_drewN | apply below_drew1) | exact HB.out))) : w.heap.size ≤ gb101)); have n3_ := Aside0.mk ((by rw [hg]; exact (below_size (by repeat (first | (with_reducible first | exact HB.out | apply below_alloc | apply pw_below_drewN | apply below_drew1) | exact HB.out))) : w.heap.size ≤ gb101)); clear HB; have HB := n0_; have BK101 := n1_; have GW101 := n2_; have GE101 := n3_; clear n0_ n1_ n2_ n3_; clear hb hbox hg; have hcz6_0 : w5.cell? ⟨gb101, 0, none⟩ = some (.slice A0_0 l0_0.length c0_0) := (blk_cell BK101.out 0).trans rfl; have hfz6_0 := blk_frozen BK101.out 0))
  go_loopg [3, 4] k (fun kq v3 v4 w' => ∃ (x3_1 : Int) (x4_1 : Int), v3 = .int .i64 x3_1 ∧ v4 = .int .i64 x4_1 ∧ Aside0 (davitref02_Short.l0 kq x3_1 x4_1 l0_0 = some r) ∧ Aside0 (kq ≤ k) ∧ Aside0 (w'.heap[gb101]? = some (.cells #[(.slice A0_0 l0_0.length c0_0)] 24 (0, 0))) ∧ Aside0 (Below w.heap.size w w'))
  case atStart => exact ⟨(0), (0), (by first | rfl | (simp; done) | (simp [*]; done)), (by first | rfl | (simp; done) | (simp [*]; done)), H', ⟨Nat.le_refl _⟩, ⟨by (with_reducible repeat (first | refine blk_drewN ?_ _ | refine blk_drew ?_ | refine blk_alloc ?_ _)); exact BK101.out⟩, ⟨by repeat (first | (with_reducible first | exact HB.out | apply below_alloc | apply pw_below_drewN | apply below_drew1 | refine below_set ?_ GE101.out) | exact HB.out)⟩⟩
  case round =>
   clear H'
   try clear c2
   try clear c2b0
   try clear c2b1
   try clear p2
   try clear hcz4_0
   try clear hcz6_0
   try clear hfz4_0
   try clear hfz6_0
   obtain ⟨x3_1, x4_1, rfl, rfl, HA, HK1, BK101, HB⟩ := hrel
   cases gk with
   | zero => exact absurd HA.out (by simp [davitref02_Short.l0])
   | succ k1 =>
    have H := HA.out
    clear HA
    simp only [davitref02_Short.l0] at H
    by_cases c7 : x4_1 < (l0_0.length : Int)
    ·rw [if_pos c7] at H
     have c7b0 : decide (x4_1 < (l0_0.length : Int)) = true := decide_eq_true c7
     clear c7
     by_cases c8 : 0 ≤ x4_1
     ·rw [if_pos c8] at H
      have c8b0 : decide (0 ≤ x4_1) = true := decide_eq_true c8
      clear c8
      by_cases c9 : (((rd_T33 l0_0 x4_1).f2).length : Int) > 70
      ·rw [if_pos c9] at H
       have c9b0 : decide (70 < (((rd_T33 l0_0 x4_1).f2).length : Int)) = true := decide_eq_true c9
       have c9b1 : decide (70 < ((rd_T33 l0_0 x4_1).f2).length) = true := decide_eq_true (by omega)
       clear c9
       obtain rfl := Option.some.inj H
       have hcz10_0 : wr.cell? ⟨gb101, 0, none⟩ = some (.slice A0_0 l0_0.length c0_0) := (blk_cell BK101.out 0).trans rfl
       have hfz10_0 := blk_frozen BK101.out 0
       have p102 : 0 ≤ (x4_1 : Int) := of_decide_eq_true (by first | (with_reducible assumption) | assumption)
       have q102 : x4_1 < (l0_0.length : Int) := of_decide_eq_true (by first | (with_reducible assumption) | assumption)
       obtain ⟨ad102, A102_2, c102_2, e102, hx102_0, hx102_1, hx102_2, hl102_2, hi102_2⟩ := at_T33 HR0_0.out x4_1 p102 q102
       cases e102
       replace hx102_0 := (HB.out.cell (World.block_lt_of_cell? w _ hx102_0)).trans hx102_0
       replace hx102_1 := (HB.out.cell (World.block_lt_of_cell? w _ hx102_1)).trans hx102_1
       replace hx102_2 := (HB.out.cell (World.block_lt_of_cell? w _ hx102_2)).trans hx102_2
       have HR102_2 := Aside0.mk hi102_2
       have HC102_2 := Aside0.mk hl102_2
       clear hi102_2 hl102_2
       replace p102 := eq_true p102
       replace q102 := eq_true q102
       go_wp2
       go_ret
       exact ⟨by first | rfl | (simp [errW_none, errW_some] <;> rfl) | (simp [*, errW_none, errW_some] <;> rfl), by repeat (first | (with_reducible first | exact HB.out | apply below_alloc | apply pw_below_drewN | apply below_drew1 | refine below_set ?_ GE101.out) | exact HB.out)⟩
      ·rw [if_neg c9] at H
       have c9b0 : decide (70 < (((rd_T33 l0_0 x4_1).f2).length : Int)) = false := decide_eq_false c9
       have c9b1 : decide (70 < ((rd_T33 l0_0 x4_1).f2).length) = false := decide_eq_false (by omega)
       clear c9
       have H' := Aside0.mk H
       clear H
       have hcz11_0 : wr.cell? ⟨gb101, 0, none⟩ = some (.slice A0_0 l0_0.length c0_0) := (blk_cell BK101.out 0).trans rfl
       have hfz11_0 := blk_frozen BK101.out 0
       have p102 : 0 ≤ (x4_1 : Int) := of_decide_eq_true (by first | (with_reducible assumption) | assumption)
       have q102 : x4_1 < (l0_0.length : Int) := of_decide_eq_true (by first | (with_reducible assumption) | assumption)
       obtain ⟨ad102, A102_2, c102_2, e102, hx102_0, hx102_1, hx102_2, hl102_2, hi102_2⟩ := at_T33 HR0_0.out x4_1 p102 q102
       cases e102
       replace hx102_0 := (HB.out.cell (World.block_lt_of_cell? w _ hx102_0)).trans hx102_0
       replace hx102_1 := (HB.out.cell (World.block_lt_of_cell? w _ hx102_1)).trans hx102_1
       replace hx102_2 := (HB.out.cell (World.block_lt_of_cell? w _ hx102_2)).trans hx102_2
       have HR102_2 := Aside0.mk hi102_2
       have HC102_2 := Aside0.mk hl102_2
       clear hi102_2 hl102_2
       replace p102 := eq_true p102
       replace q102 := eq_true q102
       go_wp2
       go_loopg [3, 5] k1 (fun kq v3 v5 w' => ∃ (x3_2 : Int) (x5_2 : Int), v3 = .int .i64 x3_2 ∧ v5 = .int .i64 x5_2 ∧ Aside0 (davitref02_Short.l1 kq x3_2 x4_1 x5_2 l0_0 = some r) ∧ Aside0 (kq ≤ k1) ∧ Aside0 (w'.heap[gb101]? = some (.cells #[(.slice (some ad102) l0_0.length c0_0)] 24 (0, 0))) ∧ Aside0 (Below w.heap.size w w'))
       case atStart => exact ⟨(x3_1), (0), (by first | rfl | (simp; done) | (simp [*]; done)), (by first | rfl | (simp; done) | (simp [*]; done)), H', ⟨Nat.le_refl _⟩, ⟨by (with_reducible repeat (first | refine blk_drewN ?_ _ | refine blk_drew ?_ | refine blk_alloc ?_ _)); exact BK101.out⟩, ⟨by repeat (first | (with_reducible first | exact HB.out | apply below_alloc | apply pw_below_drewN | apply below_drew1 | refine below_set ?_ GE101.out) | exact HB.out)⟩⟩
       case round =>
        clear H'
        try clear c1
        try clear p1
        try clear q1
        try clear hx1
        try clear c2
        try clear c2b0
        try clear c2b1
        try clear p2
        try clear c7
        try clear c7b0
        try clear c8
        try clear c8b0
        try clear c9
        try clear c9b0
        try clear c9b1
        try clear c10
        try clear p10
        try clear q10
        try clear hx10
        try clear hcz10_0
        try clear hcz11_0
        try clear hcz4_0
        try clear hcz6_0
        try clear hfz10_0
        try clear hfz11_0
        try clear hfz4_0
        try clear hfz6_0
        try clear hx102_0
        try clear hx102_1
        try clear hx102_2
        try clear p102
        try clear p2
        try clear q102
        obtain ⟨x3_2, x5_2, rfl, rfl, HA, HK2, BK101, HB⟩ := hrel
        cases gk with
        | zero => exact absurd HA.out (by simp [davitref02_Short.l1])
        | succ k2 =>
         have H := HA.out
         clear HA
         simp only [davitref02_Short.l1] at H
         by_cases c12 : 0 ≤ x4_1
         ·rw [if_pos c12] at H
          have c12b0 : decide (0 ≤ x4_1) = true := decide_eq_true c12
          clear c12
          by_cases c13 : x4_1 < (l0_0.length : Int)
          ·rw [if_pos c13] at H
           have c13b0 : decide (x4_1 < (l0_0.length : Int)) = true := decide_eq_true c13
           clear c13
           by_cases c14 : x5_2 < (((rd_T33 l0_0 x4_1).f2).length : Int)
           ·rw [if_pos c14] at H
            have c14b0 : decide (x5_2 < (((rd_T33 l0_0 x4_1).f2).length : Int)) = true := decide_eq_true c14
            clear c14
            by_cases c15 : 0 ≤ x5_2
            ·rw [if_pos c15] at H
             have c15b0 : decide (0 ≤ x5_2) = true := decide_eq_true c15
             clear c15
             have HC16 := Aside0.mk H
             clear H
             have hcz17_0 : wr.cell? ⟨gb101, 0, none⟩ = some (.slice (some ad102) l0_0.length c0_0) := (blk_cell BK101.out 0).trans rfl
             have hfz17_0 := blk_frozen BK101.out 0
             have p103 : 0 ≤ (x4_1 : Int) := of_decide_eq_true (by first | (with_reducible assumption) | assumption)
             have q103 : x4_1 < (l0_0.length : Int) := of_decide_eq_true (by first | (with_reducible assumption) | assumption)
             obtain ⟨ad103, A103_2, c103_2, e103, hx103_0, hx103_1, hx103_2, hl103_2, hi103_2⟩ := at_T33 HR0_0.out x4_1 p103 q103
             obtain rfl : ad102 = ad103 := (by injection e103)
             replace hx103_0 := (HB.out.cell (World.block_lt_of_cell? w _ hx103_0)).trans hx103_0
             replace hx103_1 := (HB.out.cell (World.block_lt_of_cell? w _ hx103_1)).trans hx103_1
             replace hx103_2 := (HB.out.cell (World.block_lt_of_cell? w _ hx103_2)).trans hx103_2
             have HR103_2 := Aside0.mk hi103_2
             have HC103_2 := Aside0.mk hl103_2
             clear hi103_2 hl103_2
             replace p103 := eq_true p103
             replace q103 := eq_true q103
             have p104 : 0 ≤ (x4_1 : Int) := of_decide_eq_true (by first | (with_reducible assumption) | assumption)
             have q104 : x4_1 < (l0_0.length : Int) := of_decide_eq_true (by first | (with_reducible assumption) | assumption)
             obtain ⟨ad104, A104_2, c104_2, e104, hx104_0, hx104_1, hx104_2, hl104_2, hi104_2⟩ := at_T33 HR0_0.out x4_1 p104 q104
             obtain rfl : ad102 = ad104 := (by injection e104)
             replace hx104_0 := (HB.out.cell (World.block_lt_of_cell? w _ hx104_0)).trans hx104_0
             replace hx104_1 := (HB.out.cell (World.block_lt_of_cell? w _ hx104_1)).trans hx104_1
             replace hx104_2 := (HB.out.cell (World.block_lt_of_cell? w _ hx104_2)).trans hx104_2
             have HR104_2 := Aside0.mk hi104_2
             have HC104_2 := Aside0.mk hl104_2
             clear hi104_2 hl104_2
             replace p104 := eq_true p104
             replace q104 := eq_true q104
             have ea_ := Option.some.inj (hx103_2.symm.trans hx104_2)
             injection ea_ with ea_ en_ ec_
             subst ea_
             subst ec_
             clear en_
             have p105 : 0 ≤ (x5_2 : Int) := of_decide_eq_true (by first | (with_reducible assumption) | assumption)
             have q105 : x5_2 < (((rd_T33 l0_0 x4_1).f2).length : Int) := of_decide_eq_true (by first | (with_reducible assumption) | assumption)
             obtain ⟨ad105, A105_2, c105_2, A105_5, c105_5, A105_10, c105_10, e105, hx105_0, hx105_1, hx105_2, hx105_3, hx105_4, hx105_5, hx105_6, hx105_7, hx105_8, hx105_9, hx105_10, hx105_11, hx105_12, hx105_13, hl105_2, hi105_2, hl105_5, hi105_5, hl105_10, hi105_10⟩ := at_T44 HR104_2.out x5_2 p105 q105
             cases e105
             replace hx105_0 := (HB.out.cell (World.block_lt_of_cell? w _ hx105_0)).trans hx105_0
             replace hx105_1 := (HB.out.cell (World.block_lt_of_cell? w _ hx105_1)).trans hx105_1
             replace hx105_2 := (HB.out.cell (World.block_lt_of_cell? w _ hx105_2)).trans hx105_2
             replace hx105_3 := (HB.out.cell (World.block_lt_of_cell? w _ hx105_3)).trans hx105_3
             replace hx105_4 := (HB.out.cell (World.block_lt_of_cell? w _ hx105_4)).trans hx105_4
             replace hx105_5 := (HB.out.cell (World.block_lt_of_cell? w _ hx105_5)).trans hx105_5
             replace hx105_6 := (HB.out.cell (World.block_lt_of_cell? w _ hx105_6)).trans hx105_6
             replace hx105_7 := (HB.out.cell (World.block_lt_of_cell? w _ hx105_7)).trans hx105_7
             replace hx105_8 := (HB.out.cell (World.block_lt_of_cell? w _ hx105_8)).trans hx105_8
             replace hx105_9 := (HB.out.cell (World.block_lt_of_cell? w _ hx105_9)).trans hx105_9
             replace hx105_10 := (HB.out.cell (World.block_lt_of_cell? w _ hx105_10)).trans hx105_10
             replace hx105_11 := (HB.out.cell (World.block_lt_of_cell? w _ hx105_11)).trans hx105_11
             replace hx105_12 := (HB.out.cell (World.block_lt_of_cell? w _ hx105_12)).trans hx105_12
             replace hx105_13 := (HB.out.cell (World.block_lt_of_cell? w _ hx105_13)).trans hx105_13
             have HR105_2 := Aside0.mk hi105_2
             have HC105_2 := Aside0.mk hl105_2
             clear hi105_2 hl105_2
             have HR105_5 := Aside0.mk hi105_5
             have HC105_5 := Aside0.mk hl105_5
             clear hi105_5 hl105_5
             have HR105_10 := Aside0.mk hi105_10
             have HC105_10 := Aside0.mk hl105_10
             clear hi105_10 hl105_10
             replace p105 := eq_true p105
             replace q105 := eq_true q105
             go_upto_region 13 with (first | ((with_reducible refine gate_dst (N := 6) rfl ?_); (try (refine gate_guard (by rfl) ?_; dsimp only)); refine box_event ?hg (N := 6) ?hd (cs := #[.bool false, .int .i64 0, .slice none 0 0, .bool false, .bool false, .slice none 0 0, .int .i64 0, .int .i64 0, .int .i64 0, .int .i64 0, .slice none 0 0, .int .i64 0, .int .i64 0, .int .i64 0]) (t := 44) ?hr ?_; (case hd => rfl); (case hg => rfl); (case hr => first | (go_simp; done) | (go_simp; rfl)); intro gb106 hg w18 hbox hb; have n0_ := Aside0.mk (blk_below (g := gb101) (o := .cells #[.slice (some ad102) l0_0.length c0_0] 24 (0, 0)) (by (with_reducible repeat (first | refine blk_drewN ?_ _ | refine blk_drew ?_ | refine blk_alloc ?_ _)); exact BK101.out) hb); have n1_ := Aside0.mk (below_step (by repeat (first | (with_reducible first | exact HB.out | apply below_alloc | apply pw_below_drewN | apply below_drew1 | refine below_set ?_ GE101.out) | exact HB.out)) hb); have n2_ := Aside0.mk (hbox); have n3_ := Aside0.mk ((by rw [hg]; exact (below_size (by repeat (first | (with_reducible first | exact HB.out | apply below_alloc | apply pw_below_drewN | apply below_drew1 | refine below_set ?_ GE101.out) | exact HB.out))) : w.heap.size ≤ gb106)); have n4_ := Aside0.mk ((by rw [hg]; exact (below_size (by repeat (first | (with_reducible first | exact HB.out | apply below_alloc | apply pw_below_drewN | apply below_drew1 | refine below_set ?_ GE101.out) | exact HB.out))) : w.heap.size ≤ gb106)); have n5_ := Aside0.mk ((by rw [hg]; exact Nat.ne_of_lt (blk_lt (g := gb101) (o := .cells #[.slice (some ad102) l0_0.length c0_0] 24 (0, 0)) (by (with_reducible repeat (first | refine blk_drewN ?_ _ | refine blk_drew ?_ | refine blk_alloc ?_ _)); exact BK101.out)) : gb101 ≠ gb106)); have n6_ := Aside0.mk ((by rw [hg]; exact Nat.ne_of_gt (blk_lt (g := gb101) (o := .cells #[.slice (some ad102) l0_0.length c0_0] 24 (0, 0)) (by (with_reducible repeat (first | refine blk_drewN ?_ _ | refine blk_drew ?_ | refine blk_alloc ?_ _)); exact BK101.out)) : gb106 ≠ gb101)); clear BK101; clear HB; have BK101 := n0_; have HB := n1_; have BK106 := n2_; have GW106 := n3_; have GE106 := n4_; have NB101_106 := n5_; have NB106_101 := n6_; clear n0_ n1_ n2_ n3_ n4_ n5_ n6_; clear hb hbox hg; have hnb19 := NB106_101.out; have hnc19 := NB101_106.out; have hcz20_0 : w18.cell? ⟨gb106, 0, none⟩ = some (.bool false) := (blk_cell BK106.out 0).trans rfl; have hcz20_1 : w18.cell? ⟨gb106, 1, none⟩ = some (.int .i64 0) := (blk_cell BK106.out 1).trans rfl; have hcz20_2 : w18.cell? ⟨gb106, 2, none⟩ = some (.slice none 0 0) := (blk_cell BK106.out 2).trans rfl; have hcz20_3 : w18.cell? ⟨gb106, 3, none⟩ = some (.bool false) := (blk_cell BK106.out 3).trans rfl; have hcz20_4 : w18.cell? ⟨gb106, 4, none⟩ = some (.bool false) := (blk_cell BK106.out 4).trans rfl; have hcz20_5 : w18.cell? ⟨gb106, 5, none⟩ = some (.slice none 0 0) := (blk_cell BK106.out 5).trans rfl; have hcz20_6 : w18.cell? ⟨gb106, 6, none⟩ = some (.int .i64 0) := (blk_cell BK106.out 6).trans rfl; have hcz20_7 : w18.cell? ⟨gb106, 7, none⟩ = some (.int .i64 0) := (blk_cell BK106.out 7).trans rfl; have hcz20_8 : w18.cell? ⟨gb106, 8, none⟩ = some (.int .i64 0) := (blk_cell BK106.out 8).trans rfl; have hcz20_9 : w18.cell? ⟨gb106, 9, none⟩ = some (.int .i64 0) := (blk_cell BK106.out 9).trans rfl; have hcz20_10 : w18.cell? ⟨gb106, 10, none⟩ = some (.slice none 0 0) := (blk_cell BK106.out 10).trans rfl; have hcz20_11 : w18.cell? ⟨gb106, 11, none⟩ = some (.int .i64 0) := (blk_cell BK106.out 11).trans rfl; have hcz20_12 : w18.cell? ⟨gb106, 12, none⟩ = some (.int .i64 0) := (blk_cell BK106.out 12).trans rfl; have hcz20_13 : w18.cell? ⟨gb106, 13, none⟩ = some (.int .i64 0) := (blk_cell BK106.out 13).trans rfl; have hfz20_0 := blk_frozen BK106.out 0; have hfz20_1 := blk_frozen BK106.out 1; have hfz20_2 := blk_frozen BK106.out 2; have hfz20_3 := blk_frozen BK106.out 3; have hfz20_4 := blk_frozen BK106.out 4; have hfz20_5 := blk_frozen BK106.out 5; have hfz20_6 := blk_frozen BK106.out 6; have hfz20_7 := blk_frozen BK106.out 7; have hfz20_8 := blk_frozen BK106.out 8; have hfz20_9 := blk_frozen BK106.out 9; have hfz20_10 := blk_frozen BK106.out 10; have hfz20_11 := blk_frozen BK106.out 11; have hfz20_12 := blk_frozen BK106.out 12; have hfz20_13 := blk_frozen BK106.out 13))
             (try simp only [Act.put, List.setIfInBounds_toArray, List.set_cons_zero, List.set_cons_succ])
             go_cut [64] (fun v64 wc => ∃ (kq : Nat) (x64_15 : Bool), v64 = .bool x64_15 ∧ Aside0 (davitref02_Short.j2 kq x3_2 x4_1 x5_2 x64_15 l0_0 ((rd_T44 ((rd_T33 l0_0 x4_1).f2) x5_2).f0) ((rd_T44 ((rd_T33 l0_0 x4_1).f2) x5_2).f1.f0) ((rd_T44 ((rd_T33 l0_0 x4_1).f2) x5_2).f1.f1) ((rd_T44 ((rd_T33 l0_0 x4_1).f2) x5_2).f1.f2) ((rd_T44 ((rd_T33 l0_0 x4_1).f2) x5_2).f1.f3) ((rd_T44 ((rd_T33 l0_0 x4_1).f2) x5_2).f2) ((rd_T44 ((rd_T33 l0_0 x4_1).f2) x5_2).f3.f0) ((rd_T44 ((rd_T33 l0_0 x4_1).f2) x5_2).f3.f1) ((rd_T44 ((rd_T33 l0_0 x4_1).f2) x5_2).f3.f2) ((rd_T44 ((rd_T33 l0_0 x4_1).f2) x5_2).f3.f3) ((rd_T44 ((rd_T33 l0_0 x4_1).f2) x5_2).f3.f4) ((rd_T44 ((rd_T33 l0_0 x4_1).f2) x5_2).f3.f5) ((rd_T44 ((rd_T33 l0_0 x4_1).f2) x5_2).f3.f6) ((rd_T44 ((rd_T33 l0_0 x4_1).f2) x5_2).f3.f7) = some r) ∧ Aside0 (kq ≤ k2) ∧ Aside0 (wc.heap[gb101]? = some (.cells #[(.slice (some ad102) l0_0.length c0_0)] 24 (0, 0))) ∧ Aside0 (wc.heap[gb106]? = some (.cells #[.bool ((rd_T44 ((rd_T33 l0_0 x4_1).f2) x5_2).f0), .int .i64 ((rd_T44 ((rd_T33 l0_0 x4_1).f2) x5_2).f1.f0), (.slice A105_2 ((rd_T44 ((rd_T33 l0_0 x4_1).f2) x5_2).f1.f1).length c105_2), .bool ((rd_T44 ((rd_T33 l0_0 x4_1).f2) x5_2).f1.f2), .bool ((rd_T44 ((rd_T33 l0_0 x4_1).f2) x5_2).f1.f3), (.slice A105_5 ((rd_T44 ((rd_T33 l0_0 x4_1).f2) x5_2).f2).length c105_5), .int .i64 ((rd_T44 ((rd_T33 l0_0 x4_1).f2) x5_2).f3.f0), .int .i64 ((rd_T44 ((rd_T33 l0_0 x4_1).f2) x5_2).f3.f1), .int .i64 ((rd_T44 ((rd_T33 l0_0 x4_1).f2) x5_2).f3.f2), .int .i64 ((rd_T44 ((rd_T33 l0_0 x4_1).f2) x5_2).f3.f3), (.slice A105_10 ((rd_T44 ((rd_T33 l0_0 x4_1).f2) x5_2).f3.f4).length c105_10), .int .i64 ((rd_T44 ((rd_T33 l0_0 x4_1).f2) x5_2).f3.f5), .int .i64 ((rd_T44 ((rd_T33 l0_0 x4_1).f2) x5_2).f3.f6), .int .i64 ((rd_T44 ((rd_T33 l0_0 x4_1).f2) x5_2).f3.f7)] 44 (0, 0))) ∧ Aside0 (Below w.heap.size w wc))
             case first =>
              have H := HC16.out
              clear HC16
              by_cases c21 : (((rd_T44 ((rd_T33 l0_0 x4_1).f2) x5_2).f2).length : Int) > 70
              ·rw [if_pos c21] at H
               have c21b0 : decide (70 < (((rd_T44 ((rd_T33 l0_0 x4_1).f2) x5_2).f2).length : Int)) = true := decide_eq_true c21
               have c21b1 : decide (70 < ((rd_T44 ((rd_T33 l0_0 x4_1).f2) x5_2).f2).length) = true := decide_eq_true (by omega)
               clear c21
               (first | rw [c21b0] | (simp only [i64_w, i32_w]; rw [c21b0]) | skip)
               have H' := Aside0.mk H
               clear H
               have hnb22 := NB106_101.out
               have hnc22 := NB101_106.out
               have hcz23_0 : w18.cell? ⟨gb106, 0, none⟩ = some (.bool false) := (blk_cell BK106.out 0).trans rfl
               have hcz23_1 : w18.cell? ⟨gb106, 1, none⟩ = some (.int .i64 0) := (blk_cell BK106.out 1).trans rfl
               have hcz23_2 : w18.cell? ⟨gb106, 2, none⟩ = some (.slice none 0 0) := (blk_cell BK106.out 2).trans rfl
               have hcz23_3 : w18.cell? ⟨gb106, 3, none⟩ = some (.bool false) := (blk_cell BK106.out 3).trans rfl
               have hcz23_4 : w18.cell? ⟨gb106, 4, none⟩ = some (.bool false) := (blk_cell BK106.out 4).trans rfl
               have hcz23_5 : w18.cell? ⟨gb106, 5, none⟩ = some (.slice none 0 0) := (blk_cell BK106.out 5).trans rfl
               have hcz23_6 : w18.cell? ⟨gb106, 6, none⟩ = some (.int .i64 0) := (blk_cell BK106.out 6).trans rfl
               have hcz23_7 : w18.cell? ⟨gb106, 7, none⟩ = some (.int .i64 0) := (blk_cell BK106.out 7).trans rfl
               have hcz23_8 : w18.cell? ⟨gb106, 8, none⟩ = some (.int .i64 0) := (blk_cell BK106.out 8).trans rfl
               have hcz23_9 : w18.cell? ⟨gb106, 9, none⟩ = some (.int .i64 0) := (blk_cell BK106.out 9).trans rfl
               have hcz23_10 : w18.cell? ⟨gb106, 10, none⟩ = some (.slice none 0 0) := (blk_cell BK106.out 10).trans rfl
               have hcz23_11 : w18.cell? ⟨gb106, 11, none⟩ = some (.int .i64 0) := (blk_cell BK106.out 11).trans rfl
               have hcz23_12 : w18.cell? ⟨gb106, 12, none⟩ = some (.int .i64 0) := (blk_cell BK106.out 12).trans rfl
               have hcz23_13 : w18.cell? ⟨gb106, 13, none⟩ = some (.int .i64 0) := (blk_cell BK106.out 13).trans rfl
               have hfz23_0 := blk_frozen BK106.out 0
               have hfz23_1 := blk_frozen BK106.out 1
               have hfz23_2 := blk_frozen BK106.out 2
               have hfz23_3 := blk_frozen BK106.out 3
               have hfz23_4 := blk_frozen BK106.out 4
               have hfz23_5 := blk_frozen BK106.out 5
               have hfz23_6 := blk_frozen BK106.out 6
               have hfz23_7 := blk_frozen BK106.out 7
               have hfz23_8 := blk_frozen BK106.out 8
               have hfz23_9 := blk_frozen BK106.out 9
               have hfz23_10 := blk_frozen BK106.out 10
               have hfz23_11 := blk_frozen BK106.out 11
               have hfz23_12 := blk_frozen BK106.out 12
               have hfz23_13 := blk_frozen BK106.out 13
               go_wp2
               go_meet
               case rel => exact ⟨_, (true), (by first | rfl | (simp; done) | (simp [*]; done)), H', ⟨by have := HK1.out; have := HK2.out; first | omega | exact Nat.le_refl _⟩, ⟨by (with_reducible repeat (first | refine blk_drewN ?_ _ | refine blk_drew ?_ | refine blk_alloc ?_ _)); refine blk_far ?_ NB101_106.out _; (with_reducible repeat (first | refine blk_drewN ?_ _ | refine blk_drew ?_ | refine blk_alloc ?_ _)); refine blk_far ?_ NB101_106.out _; (with_reducible repeat (first | refine blk_drewN ?_ _ | refine blk_drew ?_ | refine blk_alloc ?_ _)); refine blk_far ?_ NB101_106.out _; (with_reducible repeat (first | refine blk_drewN ?_ _ | refine blk_drew ?_ | refine blk_alloc ?_ _)); refine blk_far ?_ NB101_106.out _; (with_reducible repeat (first | refine blk_drewN ?_ _ | refine blk_drew ?_ | refine blk_alloc ?_ _)); refine blk_far ?_ NB101_106.out _; (with_reducible repeat (first | refine blk_drewN ?_ _ | refine blk_drew ?_ | refine blk_alloc ?_ _)); refine blk_far ?_ NB101_106.out _; (with_reducible repeat (first | refine blk_drewN ?_ _ | refine blk_drew ?_ | refine blk_alloc ?_ _)); refine blk_far ?_ NB101_106.out _; (with_reducible repeat (first | refine blk_drewN ?_ _ | refine blk_drew ?_ | refine blk_alloc ?_ _)); refine blk_far ?_ NB101_106.out _; (with_reducible repeat (first | refine blk_drewN ?_ _ | refine blk_drew ?_ | refine blk_alloc ?_ _)); refine blk_far ?_ NB101_106.out _; (with_reducible repeat (first | refine blk_drewN ?_ _ | refine blk_drew ?_ | refine blk_alloc ?_ _)); refine blk_far ?_ NB101_106.out _; (with_reducible repeat (first | refine blk_drewN ?_ _ | refine blk_drew ?_ | refine blk_alloc ?_ _)); refine blk_far ?_ NB101_106.out _; (with_reducible repeat (first | refine blk_drewN ?_ _ | refine blk_drew ?_ | refine blk_alloc ?_ _)); refine blk_far ?_ NB101_106.out _; (with_reducible repeat (first | refine blk_drewN ?_ _ | refine blk_drew ?_ | refine blk_alloc ?_ _)); refine blk_far ?_ NB101_106.out _; (with_reducible repeat (first | refine blk_drewN ?_ _ | refine blk_drew ?_ | refine blk_alloc ?_ _)); refine blk_far ?_ NB101_106.out _; (with_reducible repeat (first | refine blk_drewN ?_ _ | refine blk_drew ?_ | refine blk_alloc ?_ _)); exact BK101.out⟩, ⟨by (with_reducible repeat (first | refine blk_drewN ?_ _ | refine blk_drew ?_ | refine blk_alloc ?_ _)); refine blk_put (cs := #[.bool ((rd_T44 ((rd_T33 l0_0 x4_1).f2) x5_2).f0), .int .i64 ((rd_T44 ((rd_T33 l0_0 x4_1).f2) x5_2).f1.f0), .slice A105_2 ((rd_T44 ((rd_T33 l0_0 x4_1).f2) x5_2).f1.f1).length c105_2, .bool ((rd_T44 ((rd_T33 l0_0 x4_1).f2) x5_2).f1.f2), .bool ((rd_T44 ((rd_T33 l0_0 x4_1).f2) x5_2).f1.f3), .slice A105_5 ((rd_T44 ((rd_T33 l0_0 x4_1).f2) x5_2).f2).length c105_5, .int .i64 ((rd_T44 ((rd_T33 l0_0 x4_1).f2) x5_2).f3.f0), .int .i64 ((rd_T44 ((rd_T33 l0_0 x4_1).f2) x5_2).f3.f1), .int .i64 ((rd_T44 ((rd_T33 l0_0 x4_1).f2) x5_2).f3.f2), .int .i64 ((rd_T44 ((rd_T33 l0_0 x4_1).f2) x5_2).f3.f3), .slice A105_10 ((rd_T44 ((rd_T33 l0_0 x4_1).f2) x5_2).f3.f4).length c105_10, .int .i64 ((rd_T44 ((rd_T33 l0_0 x4_1).f2) x5_2).f3.f5), .int .i64 ((rd_T44 ((rd_T33 l0_0 x4_1).f2) x5_2).f3.f6), .int .i64 0]) ?_ 13 _ rfl; (with_reducible repeat (first | refine blk_drewN ?_ _ | refine blk_drew ?_ | refine blk_alloc ?_ _)); refine blk_put (cs := #[.bool ((rd_T44 ((rd_T33 l0_0 x4_1).f2) x5_2).f0), .int .i64 ((rd_T44 ((rd_T33 l0_0 x4_1).f2) x5_2).f1.f0), .slice A105_2 ((rd_T44 ((rd_T33 l0_0 x4_1).f2) x5_2).f1.f1).length c105_2, .bool ((rd_T44 ((rd_T33 l0_0 x4_1).f2) x5_2).f1.f2), .bool ((rd_T44 ((rd_T33 l0_0 x4_1).f2) x5_2).f1.f3), .slice A105_5 ((rd_T44 ((rd_T33 l0_0 x4_1).f2) x5_2).f2).length c105_5, .int .i64 ((rd_T44 ((rd_T33 l0_0 x4_1).f2) x5_2).f3.f0), .int .i64 ((rd_T44 ((rd_T33 l0_0 x4_1).f2) x5_2).f3.f1), .int .i64 ((rd_T44 ((rd_T33 l0_0 x4_1).f2) x5_2).f3.f2), .int .i64 ((rd_T44 ((rd_T33 l0_0 x4_1).f2) x5_2).f3.f3), .slice A105_10 ((rd_T44 ((rd_T33 l0_0 x4_1).f2) x5_2).f3.f4).length c105_10, .int .i64 ((rd_T44 ((rd_T33 l0_0 x4_1).f2) x5_2).f3.f5), .int .i64 0, .int .i64 0]) ?_ 12 _ rfl; (with_reducible repeat (first | refine blk_drewN ?_ _ | refine blk_drew ?_ | refine blk_alloc ?_ _)); refine blk_put (cs := #[.bool ((rd_T44 ((rd_T33 l0_0 x4_1).f2) x5_2).f0), .int .i64 ((rd_T44 ((rd_T33 l0_0 x4_1).f2) x5_2).f1.f0), .slice A105_2 ((rd_T44 ((rd_T33 l0_0 x4_1).f2) x5_2).f1.f1).length c105_2, .bool ((rd_T44 ((rd_T33 l0_0 x4_1).f2) x5_2).f1.f2), .bool ((rd_T44 ((rd_T33 l0_0 x4_1).f2) x5_2).f1.f3), .slice A105_5 ((rd_T44 ((rd_T33 l0_0 x4_1).f2) x5_2).f2).length c105_5, .int .i64 ((rd_T44 ((rd_T33 l0_0 x4_1).f2) x5_2).f3.f0), .int .i64 ((rd_T44 ((rd_T33 l0_0 x4_1).f2) x5_2).f3.f1), .int .i64 ((rd_T44 ((rd_T33 l0_0 x4_1).f2) x5_2).f3.f2), .int .i64 ((rd_T44 ((rd_T33 l0_0 x4_1).f2) x5_2).f3.f3), .slice A105_10 ((rd_T44 ((rd_T33 l0_0 x4_1).f2) x5_2).f3.f4).length c105_10, .int .i64 0, .int .i64 0, .int .i64 0]) ?_ 11 _ rfl; (with_reducible repeat (first | refine blk_drewN ?_ _ | refine blk_drew ?_ | refine blk_alloc ?_ _)); refine blk_put (cs := #[.bool ((rd_T44 ((rd_T33 l0_0 x4_1).f2) x5_2).f0), .int .i64 ((rd_T44 ((rd_T33 l0_0 x4_1).f2) x5_2).f1.f0), .slice A105_2 ((rd_T44 ((rd_T33 l0_0 x4_1).f2) x5_2).f1.f1).length c105_2, .bool ((rd_T44 ((rd_T33 l0_0 x4_1).f2) x5_2).f1.f2), .bool ((rd_T44 ((rd_T33 l0_0 x4_1).f2) x5_2).f1.f3), .slice A105_5 ((rd_T44 ((rd_T33 l0_0 x4_1).f2) x5_2).f2).length c105_5, .int .i64 ((rd_T44 ((rd_T33 l0_0 x4_1).f2) x5_2).f3.f0), .int .i64 ((rd_T44 ((rd_T33 l0_0 x4_1).f2) x5_2).f3.f1), .int .i64 ((rd_T44 ((rd_T33 l0_0 x4_1).f2) x5_2).f3.f2), .int .i64 ((rd_T44 ((rd_T33 l0_0 x4_1).f2) x5_2).f3.f3), .slice none 0 0, .int .i64 0, .int .i64 0, .int .i64 0]) ?_ 10 _ rfl; (with_reducible repeat (first | refine blk_drewN ?_ _ | refine blk_drew ?_ | refine blk_alloc ?_ _)); refine blk_put (cs := #[.bool ((rd_T44 ((rd_T33 l0_0 x4_1).f2) x5_2).f0), .int .i64 ((rd_T44 ((rd_T33 l0_0 x4_1).f2) x5_2).f1.f0), .slice A105_2 ((rd_T44 ((rd_T33 l0_0 x4_1).f2) x5_2).f1.f1).length c105_2, .bool ((rd_T44 ((rd_T33 l0_0 x4_1).f2) x5_2).f1.f2), .bool ((rd_T44 ((rd_T33 l0_0 x4_1).f2) x5_2).f1.f3), .slice A105_5 ((rd_T44 ((rd_T33 l0_0 x4_1).f2) x5_2).f2).length c105_5, .int .i64 ((rd_T44 ((rd_T33 l0_0 x4_1).f2) x5_2).f3.f0), .int .i64 ((rd_T44 ((rd_T33 l0_0 x4_1).f2) x5_2).f3.f1), .int .i64 ((rd_T44 ((rd_T33 l0_0 x4_1).f2) x5_2).f3.f2), .int .i64 0, .slice none 0 0, .int .i64 0, .int .i64 0, .int .i64 0]) ?_ 9 _ rfl; (with_reducible repeat (first | refine blk_drewN ?_ _ | refine blk_drew ?_ | refine blk_alloc ?_ _)); refine blk_put (cs := #[.bool ((rd_T44 ((rd_T33 l0_0 x4_1).f2) x5_2).f0), .int .i64 ((rd_T44 ((rd_T33 l0_0 x4_1).f2) x5_2).f1.f0), .slice A105_2 ((rd_T44 ((rd_T33 l0_0 x4_1).f2) x5_2).f1.f1).length c105_2, .bool ((rd_T44 ((rd_T33 l0_0 x4_1).f2) x5_2).f1.f2), .bool ((rd_T44 ((rd_T33 l0_0 x4_1).f2) x5_2).f1.f3), .slice A105_5 ((rd_T44 ((rd_T33 l0_0 x4_1).f2) x5_2).f2).length c105_5, .int .i64 ((rd_T44 ((rd_T33 l0_0 x4_1).f2) x5_2).f3.f0), .int .i64 ((rd_T44 ((rd_T33 l0_0 x4_1).f2) x5_2).f3.f1), .int .i64 0, .int .i64 0, .slice none 0 0, .int .i64 0, .int .i64 0, .int .i64 0]) ?_ 8 _ rfl; (with_reducible repeat (first | refine blk_drewN ?_ _ | refine blk_drew ?_ | refine blk_alloc ?_ _)); refine blk_put (cs := #[.bool ((rd_T44 ((rd_T33 l0_0 x4_1).f2) x5_2).f0), .int .i64 ((rd_T44 ((rd_T33 l0_0 x4_1).f2) x5_2).f1.f0), .slice A105_2 ((rd_T44 ((rd_T33 l0_0 x4_1).f2) x5_2).f1.f1).length c105_2, .bool ((rd_T44 ((rd_T33 l0_0 x4_1).f2) x5_2).f1.f2), .bool ((rd_T44 ((rd_T33 l0_0 x4_1).f2) x5_2).f1.f3), .slice A105_5 ((rd_T44 ((rd_T33 l0_0 x4_1).f2) x5_2).f2).length c105_5, .int .i64 ((rd_T44 ((rd_T33 l0_0 x4_1).f2) x5_2).f3.f0), .int .i64 0, .int .i64 0, .int .i64 0, .slice none 0 0, .int .i64 0, .int .i64 0, .int .i64 0]) ?_ 7 _ rfl; (with_reducible repeat (first | refine blk_drewN ?_ _ | refine blk_drew ?_ | refine blk_alloc ?_ _)); refine blk_put (cs := #[.bool ((rd_T44 ((rd_T33 l0_0 x4_1).f2) x5_2).f0), .int .i64 ((rd_T44 ((rd_T33 l0_0 x4_1).f2) x5_2).f1.f0), .slice A105_2 ((rd_T44 ((rd_T33 l0_0 x4_1).f2) x5_2).f1.f1).length c105_2, .bool ((rd_T44 ((rd_T33 l0_0 x4_1).f2) x5_2).f1.f2), .bool ((rd_T44 ((rd_T33 l0_0 x4_1).f2) x5_2).f1.f3), .slice A105_5 ((rd_T44 ((rd_T33 l0_0 x4_1).f2) x5_2).f2).length c105_5, .int .i64 0, .int .i64 0, .int .i64 0, .int .i64 0, .slice none 0 0, .int .i64 0, .int .i64 0, .int .i64 0]) ?_ 6 _ rfl; (with_reducible repeat (first | refine blk_drewN ?_ _ | refine blk_drew ?_ | refine blk_alloc ?_ _)); refine blk_put (cs := #[.bool ((rd_T44 ((rd_T33 l0_0 x4_1).f2) x5_2).f0), .int .i64 ((rd_T44 ((rd_T33 l0_0 x4_1).f2) x5_2).f1.f0), .slice A105_2 ((rd_T44 ((rd_T33 l0_0 x4_1).f2) x5_2).f1.f1).length c105_2, .bool ((rd_T44 ((rd_T33 l0_0 x4_1).f2) x5_2).f1.f2), .bool ((rd_T44 ((rd_T33 l0_0 x4_1).f2) x5_2).f1.f3), .slice none 0 0, .int .i64 0, .int .i64 0, .int .i64 0, .int .i64 0, .slice none 0 0, .int .i64 0, .int .i64 0, .int .i64 0]) ?_ 5 _ rfl; (with_reducible repeat (first | refine blk_drewN ?_ _ | refine blk_drew ?_ | refine blk_alloc ?_ _)); refine blk_put (cs := #[.bool ((rd_T44 ((rd_T33 l0_0 x4_1).f2) x5_2).f0), .int .i64 ((rd_T44 ((rd_T33 l0_0 x4_1).f2) x5_2).f1.f0), .slice A105_2 ((rd_T44 ((rd_T33 l0_0 x4_1).f2) x5_2).f1.f1).length c105_2, .bool ((rd_T44 ((rd_T33 l0_0 x4_1).f2) x5_2).f1.f2), .bool false, .slice none 0 0, .int .i64 0, .int .i64 0, .int .i64 0, .int .i64 0, .slice none 0 0, .int .i64 0, .int .i64 0, .int .i64 0]) ?_ 4 _ rfl; (with_reducible repeat (first | refine blk_drewN ?_ _ | refine blk_drew ?_ | refine blk_alloc ?_ _)); refine blk_put (cs := #[.bool ((rd_T44 ((rd_T33 l0_0 x4_1).f2) x5_2).f0), .int .i64 ((rd_T44 ((rd_T33 l0_0 x4_1).f2) x5_2).f1.f0), .slice A105_2 ((rd_T44 ((rd_T33 l0_0 x4_1).f2) x5_2).f1.f1).length c105_2, .bool false, .bool false, .slice none 0 0, .int .i64 0, .int .i64 0, .int .i64 0, .int .i64 0, .slice none 0 0, .int .i64 0, .int .i64 0, .int .i64 0]) ?_ 3 _ rfl; (with_reducible repeat (first | refine blk_drewN ?_ _ | refine blk_drew ?_ | refine blk_alloc ?_ _)); refine blk_put (cs := #[.bool ((rd_T44 ((rd_T33 l0_0 x4_1).f2) x5_2).f0), .int .i64 ((rd_T44 ((rd_T33 l0_0 x4_1).f2) x5_2).f1.f0), .slice none 0 0, .bool false, .bool false, .slice none 0 0, .int .i64 0, .int .i64 0, .int .i64 0, .int .i64 0, .slice none 0 0, .int .i64 0, .int .i64 0, .int .i64 0]) ?_ 2 _ rfl; (with_reducible repeat (first | refine blk_drewN ?_ _ | refine blk_drew ?_ | refine blk_alloc ?_ _)); refine blk_put (cs := #[.bool ((rd_T44 ((rd_T33 l0_0 x4_1).f2) x5_2).f0), .int .i64 0, .slice none 0 0, .bool false, .bool false, .slice none 0 0, .int .i64 0, .int .i64 0, .int .i64 0, .int .i64 0, .slice none 0 0, .int .i64 0, .int .i64 0, .int .i64 0]) ?_ 1 _ rfl; (with_reducible repeat (first | refine blk_drewN ?_ _ | refine blk_drew ?_ | refine blk_alloc ?_ _)); refine blk_put (cs := #[.bool false, .int .i64 0, .slice none 0 0, .bool false, .bool false, .slice none 0 0, .int .i64 0, .int .i64 0, .int .i64 0, .int .i64 0, .slice none 0 0, .int .i64 0, .int .i64 0, .int .i64 0]) ?_ 0 _ rfl; (with_reducible repeat (first | refine blk_drewN ?_ _ | refine blk_drew ?_ | refine blk_alloc ?_ _)); exact BK106.out⟩, ⟨by repeat (first | (with_reducible first | exact HB.out | apply below_alloc | apply pw_below_drewN | apply below_drew1 | refine below_set ?_ GE101.out | refine below_set ?_ GE106.out) | exact HB.out)⟩⟩
              ·rw [if_neg c21] at H
               have c21b0 : decide (70 < (((rd_T44 ((rd_T33 l0_0 x4_1).f2) x5_2).f2).length : Int)) = false := decide_eq_false c21
               have c21b1 : decide (70 < ((rd_T44 ((rd_T33 l0_0 x4_1).f2) x5_2).f2).length) = false := decide_eq_false (by omega)
               clear c21
               (first | rw [c21b0] | (simp only [i64_w, i32_w]; rw [c21b0]) | skip)
               by_cases c24 : (((rd_T44 ((rd_T33 l0_0 x4_1).f2) x5_2).f1.f1).length : Int) > 20
               ·rw [if_pos c24] at H
                have c24b0 : decide (20 < (((rd_T44 ((rd_T33 l0_0 x4_1).f2) x5_2).f1.f1).length : Int)) = true := decide_eq_true c24
                have c24b1 : decide (20 < ((rd_T44 ((rd_T33 l0_0 x4_1).f2) x5_2).f1.f1).length) = true := decide_eq_true (by omega)
                clear c24
                have H' := Aside0.mk H
                clear H
                have hnb25 := NB106_101.out
                have hnc25 := NB101_106.out
                have hcz26_0 : w18.cell? ⟨gb106, 0, none⟩ = some (.bool false) := (blk_cell BK106.out 0).trans rfl
                have hcz26_1 : w18.cell? ⟨gb106, 1, none⟩ = some (.int .i64 0) := (blk_cell BK106.out 1).trans rfl
                have hcz26_2 : w18.cell? ⟨gb106, 2, none⟩ = some (.slice none 0 0) := (blk_cell BK106.out 2).trans rfl
                have hcz26_3 : w18.cell? ⟨gb106, 3, none⟩ = some (.bool false) := (blk_cell BK106.out 3).trans rfl
                have hcz26_4 : w18.cell? ⟨gb106, 4, none⟩ = some (.bool false) := (blk_cell BK106.out 4).trans rfl
                have hcz26_5 : w18.cell? ⟨gb106, 5, none⟩ = some (.slice none 0 0) := (blk_cell BK106.out 5).trans rfl
                have hcz26_6 : w18.cell? ⟨gb106, 6, none⟩ = some (.int .i64 0) := (blk_cell BK106.out 6).trans rfl
                have hcz26_7 : w18.cell? ⟨gb106, 7, none⟩ = some (.int .i64 0) := (blk_cell BK106.out 7).trans rfl
                have hcz26_8 : w18.cell? ⟨gb106, 8, none⟩ = some (.int .i64 0) := (blk_cell BK106.out 8).trans rfl
                have hcz26_9 : w18.cell? ⟨gb106, 9, none⟩ = some (.int .i64 0) := (blk_cell BK106.out 9).trans rfl
                have hcz26_10 : w18.cell? ⟨gb106, 10, none⟩ = some (.slice none 0 0) := (blk_cell BK106.out 10).trans rfl
                have hcz26_11 : w18.cell? ⟨gb106, 11, none⟩ = some (.int .i64 0) := (blk_cell BK106.out 11).trans rfl
                have hcz26_12 : w18.cell? ⟨gb106, 12, none⟩ = some (.int .i64 0) := (blk_cell BK106.out 12).trans rfl
                have hcz26_13 : w18.cell? ⟨gb106, 13, none⟩ = some (.int .i64 0) := (blk_cell BK106.out 13).trans rfl
                have hfz26_0 := blk_frozen BK106.out 0
                have hfz26_1 := blk_frozen BK106.out 1
                have hfz26_2 := blk_frozen BK106.out 2
                have hfz26_3 := blk_frozen BK106.out 3
                have hfz26_4 := blk_frozen BK106.out 4
                have hfz26_5 := blk_frozen BK106.out 5
                have hfz26_6 := blk_frozen BK106.out 6
                have hfz26_7 := blk_frozen BK106.out 7
                have hfz26_8 := blk_frozen BK106.out 8
                have hfz26_9 := blk_frozen BK106.out 9
                have hfz26_10 := blk_frozen BK106.out 10
                have hfz26_11 := blk_frozen BK106.out 11
                have hfz26_12 := blk_frozen BK106.out 12
                have hfz26_13 := blk_frozen BK106.out 13
                go_wp2
                go_meet
                case rel => exact ⟨_, (true), (by first | rfl | (simp; done) | (simp [*]; done)), H', ⟨by have := HK1.out; have := HK2.out; first | omega | exact Nat.le_refl _⟩, ⟨by (with_reducible repeat (first | refine blk_drewN ?_ _ | refine blk_drew ?_ | refine blk_alloc ?_ _)); refine blk_far ?_ NB101_106.out _; (with_reducible repeat (first | refine blk_drewN ?_ _ | refine blk_drew ?_ | refine blk_alloc ?_ _)); refine blk_far ?_ NB101_106.out _; (with_reducible repeat (first | refine blk_drewN ?_ _ | refine blk_drew ?_ | refine blk_alloc ?_ _)); refine blk_far ?_ NB101_106.out _; (with_reducible repeat (first | refine blk_drewN ?_ _ | refine blk_drew ?_ | refine blk_alloc ?_ _)); refine blk_far ?_ NB101_106.out _; (with_reducible repeat (first | refine blk_drewN ?_ _ | refine blk_drew ?_ | refine blk_alloc ?_ _)); refine blk_far ?_ NB101_106.out _; (with_reducible repeat (first | refine blk_drewN ?_ _ | refine blk_drew ?_ | refine blk_alloc ?_ _)); refine blk_far ?_ NB101_106.out _; (with_reducible repeat (first | refine blk_drewN ?_ _ | refine blk_drew ?_ | refine blk_alloc ?_ _)); refine blk_far ?_ NB101_106.out _; (with_reducible repeat (first | refine blk_drewN ?_ _ | refine blk_drew ?_ | refine blk_alloc ?_ _)); refine blk_far ?_ NB101_106.out _; (with_reducible repeat (first | refine blk_drewN ?_ _ | refine blk_drew ?_ | refine blk_alloc ?_ _)); refine blk_far ?_ NB101_106.out _; (with_reducible repeat (first | refine blk_drewN ?_ _ | refine blk_drew ?_ | refine blk_alloc ?_ _)); refine blk_far ?_ NB101_106.out _; (with_reducible repeat (first | refine blk_drewN ?_ _ | refine blk_drew ?_ | refine blk_alloc ?_ _)); refine blk_far ?_ NB101_106.out _; (with_reducible repeat (first | refine blk_drewN ?_ _ | refine blk_drew ?_ | refine blk_alloc ?_ _)); refine blk_far ?_ NB101_106.out _; (with_reducible repeat (first | refine blk_drewN ?_ _ | refine blk_drew ?_ | refine blk_alloc ?_ _)); refine blk_far ?_ NB101_106.out _; (with_reducible repeat (first | refine blk_drewN ?_ _ | refine blk_drew ?_ | refine blk_alloc ?_ _)); refine blk_far ?_ NB101_106.out _; (with_reducible repeat (first | refine blk_drewN ?_ _ | refine blk_drew ?_ | refine blk_alloc ?_ _)); exact BK101.out⟩, ⟨by (with_reducible repeat (first | refine blk_drewN ?_ _ | refine blk_drew ?_ | refine blk_alloc ?_ _)); refine blk_put (cs := #[.bool ((rd_T44 ((rd_T33 l0_0 x4_1).f2) x5_2).f0), .int .i64 ((rd_T44 ((rd_T33 l0_0 x4_1).f2) x5_2).f1.f0), .slice A105_2 ((rd_T44 ((rd_T33 l0_0 x4_1).f2) x5_2).f1.f1).length c105_2, .bool ((rd_T44 ((rd_T33 l0_0 x4_1).f2) x5_2).f1.f2), .bool ((rd_T44 ((rd_T33 l0_0 x4_1).f2) x5_2).f1.f3), .slice A105_5 ((rd_T44 ((rd_T33 l0_0 x4_1).f2) x5_2).f2).length c105_5, .int .i64 ((rd_T44 ((rd_T33 l0_0 x4_1).f2) x5_2).f3.f0), .int .i64 ((rd_T44 ((rd_T33 l0_0 x4_1).f2) x5_2).f3.f1), .int .i64 ((rd_T44 ((rd_T33 l0_0 x4_1).f2) x5_2).f3.f2), .int .i64 ((rd_T44 ((rd_T33 l0_0 x4_1).f2) x5_2).f3.f3), .slice A105_10 ((rd_T44 ((rd_T33 l0_0 x4_1).f2) x5_2).f3.f4).length c105_10, .int .i64 ((rd_T44 ((rd_T33 l0_0 x4_1).f2) x5_2).f3.f5), .int .i64 ((rd_T44 ((rd_T33 l0_0 x4_1).f2) x5_2).f3.f6), .int .i64 0]) ?_ 13 _ rfl; (with_reducible repeat (first | refine blk_drewN ?_ _ | refine blk_drew ?_ | refine blk_alloc ?_ _)); refine blk_put (cs := #[.bool ((rd_T44 ((rd_T33 l0_0 x4_1).f2) x5_2).f0), .int .i64 ((rd_T44 ((rd_T33 l0_0 x4_1).f2) x5_2).f1.f0), .slice A105_2 ((rd_T44 ((rd_T33 l0_0 x4_1).f2) x5_2).f1.f1).length c105_2, .bool ((rd_T44 ((rd_T33 l0_0 x4_1).f2) x5_2).f1.f2), .bool ((rd_T44 ((rd_T33 l0_0 x4_1).f2) x5_2).f1.f3), .slice A105_5 ((rd_T44 ((rd_T33 l0_0 x4_1).f2) x5_2).f2).length c105_5, .int .i64 ((rd_T44 ((rd_T33 l0_0 x4_1).f2) x5_2).f3.f0), .int .i64 ((rd_T44 ((rd_T33 l0_0 x4_1).f2) x5_2).f3.f1), .int .i64 ((rd_T44 ((rd_T33 l0_0 x4_1).f2) x5_2).f3.f2), .int .i64 ((rd_T44 ((rd_T33 l0_0 x4_1).f2) x5_2).f3.f3), .slice A105_10 ((rd_T44 ((rd_T33 l0_0 x4_1).f2) x5_2).f3.f4).length c105_10, .int .i64 ((rd_T44 ((rd_T33 l0_0 x4_1).f2) x5_2).f3.f5), .int .i64 0, .int .i64 0]) ?_ 12 _ rfl; (with_reducible repeat (first | refine blk_drewN ?_ _ | refine blk_drew ?_ | refine blk_alloc ?_ _)); refine blk_put (cs := #[.bool ((rd_T44 ((rd_T33 l0_0 x4_1).f2) x5_2).f0), .int .i64 ((rd_T44 ((rd_T33 l0_0 x4_1).f2) x5_2).f1.f0), .slice A105_2 ((rd_T44 ((rd_T33 l0_0 x4_1).f2) x5_2).f1.f1).length c105_2, .bool ((rd_T44 ((rd_T33 l0_0 x4_1).f2) x5_2).f1.f2), .bool ((rd_T44 ((rd_T33 l0_0 x4_1).f2) x5_2).f1.f3), .slice A105_5 ((rd_T44 ((rd_T33 l0_0 x4_1).f2) x5_2).f2).length c105_5, .int .i64 ((rd_T44 ((rd_T33 l0_0 x4_1).f2) x5_2).f3.f0), .int .i64 ((rd_T44 ((rd_T33 l0_0 x4_1).f2) x5_2).f3.f1), .int .i64 ((rd_T44 ((rd_T33 l0_0 x4_1).f2) x5_2).f3.f2), .int .i64 ((rd_T44 ((rd_T33 l0_0 x4_1).f2) x5_2).f3.f3), .slice A105_10 ((rd_T44 ((rd_T33 l0_0 x4_1).f2) x5_2).f3.f4).length c105_10, .int .i64 0, .int .i64 0, .int .i64 0]) ?_ 11 _ rfl; (with_reducible repeat (first | refine blk_drewN ?_ _ | refine blk_drew ?_ | refine blk_alloc ?_ _)); refine blk_put (cs := #[.bool ((rd_T44 ((rd_T33 l0_0 x4_1).f2) x5_2).f0), .int .i64 ((rd_T44 ((rd_T33 l0_0 x4_1).f2) x5_2).f1.f0), .slice A105_2 ((rd_T44 ((rd_T33 l0_0 x4_1).f2) x5_2).f1.f1).length c105_2, .bool ((rd_T44 ((rd_T33 l0_0 x4_1).f2) x5_2).f1.f2), .bool ((rd_T44 ((rd_T33 l0_0 x4_1).f2) x5_2).f1.f3), .slice A105_5 ((rd_T44 ((rd_T33 l0_0 x4_1).f2) x5_2).f2).length c105_5, .int .i64 ((rd_T44 ((rd_T33 l0_0 x4_1).f2) x5_2).f3.f0), .int .i64 ((rd_T44 ((rd_T33 l0_0 x4_1).f2) x5_2).f3.f1), .int .i64 ((rd_T44 ((rd_T33 l0_0 x4_1).f2) x5_2).f3.f2), .int .i64 ((rd_T44 ((rd_T33 l0_0 x4_1).f2) x5_2).f3.f3), .slice none 0 0, .int .i64 0, .int .i64 0, .int .i64 0]) ?_ 10 _ rfl; (with_reducible repeat (first | refine blk_drewN ?_ _ | refine blk_drew ?_ | refine blk_alloc ?_ _)); refine blk_put (cs := #[.bool ((rd_T44 ((rd_T33 l0_0 x4_1).f2) x5_2).f0), .int .i64 ((rd_T44 ((rd_T33 l0_0 x4_1).f2) x5_2).f1.f0), .slice A105_2 ((rd_T44 ((rd_T33 l0_0 x4_1).f2) x5_2).f1.f1).length c105_2, .bool ((rd_T44 ((rd_T33 l0_0 x4_1).f2) x5_2).f1.f2), .bool ((rd_T44 ((rd_T33 l0_0 x4_1).f2) x5_2).f1.f3), .slice A105_5 ((rd_T44 ((rd_T33 l0_0 x4_1).f2) x5_2).f2).length c105_5, .int .i64 ((rd_T44 ((rd_T33 l0_0 x4_1).f2) x5_2).f3.f0), .int .i64 ((rd_T44 ((rd_T33 l0_0 x4_1).f2) x5_2).f3.f1), .int .i64 ((rd_T44 ((rd_T33 l0_0 x4_1).f2) x5_2).f3.f2), .int .i64 0, .slice none 0 0, .int .i64 0, .int .i64 0, .int .i64 0]) ?_ 9 _ rfl; (with_reducible repeat (first | refine blk_drewN ?_ _ | refine blk_drew ?_ | refine blk_alloc ?_ _)); refine blk_put (cs := #[.bool ((rd_T44 ((rd_T33 l0_0 x4_1).f2) x5_2).f0), .int .i64 ((rd_T44 ((rd_T33 l0_0 x4_1).f2) x5_2).f1.f0), .slice A105_2 ((rd_T44 ((rd_T33 l0_0 x4_1).f2) x5_2).f1.f1).length c105_2, .bool ((rd_T44 ((rd_T33 l0_0 x4_1).f2) x5_2).f1.f2), .bool ((rd_T44 ((rd_T33 l0_0 x4_1).f2) x5_2).f1.f3), .slice A105_5 ((rd_T44 ((rd_T33 l0_0 x4_1).f2) x5_2).f2).length c105_5, .int .i64 ((rd_T44 ((rd_T33 l0_0 x4_1).f2) x5_2).f3.f0), .int .i64 ((rd_T44 ((rd_T33 l0_0 x4_1).f2) x5_2).f3.f1), .int .i64 0, .int .i64 0, .slice none 0 0, .int .i64 0, .int .i64 0, .int .i64 0]) ?_ 8 _ rfl; (with_reducible repeat (first | refine blk_drewN ?_ _ | refine blk_drew ?_ | refine blk_alloc ?_ _)); refine blk_put (cs := #[.bool ((rd_T44 ((rd_T33 l0_0 x4_1).f2) x5_2).f0), .int .i64 ((rd_T44 ((rd_T33 l0_0 x4_1).f2) x5_2).f1.f0), .slice A105_2 ((rd_T44 ((rd_T33 l0_0 x4_1).f2) x5_2).f1.f1).length c105_2, .bool ((rd_T44 ((rd_T33 l0_0 x4_1).f2) x5_2).f1.f2), .bool ((rd_T44 ((rd_T33 l0_0 x4_1).f2) x5_2).f1.f3), .slice A105_5 ((rd_T44 ((rd_T33 l0_0 x4_1).f2) x5_2).f2).length c105_5, .int .i64 ((rd_T44 ((rd_T33 l0_0 x4_1).f2) x5_2).f3.f0), .int .i64 0, .int .i64 0, .int .i64 0, .slice none 0 0, .int .i64 0, .int .i64 0, .int .i64 0]) ?_ 7 _ rfl; (with_reducible repeat (first | refine blk_drewN ?_ _ | refine blk_drew ?_ | refine blk_alloc ?_ _)); refine blk_put (cs := #[.bool ((rd_T44 ((rd_T33 l0_0 x4_1).f2) x5_2).f0), .int .i64 ((rd_T44 ((rd_T33 l0_0 x4_1).f2) x5_2).f1.f0), .slice A105_2 ((rd_T44 ((rd_T33 l0_0 x4_1).f2) x5_2).f1.f1).length c105_2, .bool ((rd_T44 ((rd_T33 l0_0 x4_1).f2) x5_2).f1.f2), .bool ((rd_T44 ((rd_T33 l0_0 x4_1).f2) x5_2).f1.f3), .slice A105_5 ((rd_T44 ((rd_T33 l0_0 x4_1).f2) x5_2).f2).length c105_5, .int .i64 0, .int .i64 0, .int .i64 0, .int .i64 0, .slice none 0 0, .int .i64 0, .int .i64 0, .int .i64 0]) ?_ 6 _ rfl; (with_reducible repeat (first | refine blk_drewN ?_ _ | refine blk_drew ?_ | refine blk_alloc ?_ _)); refine blk_put (cs := #[.bool ((rd_T44 ((rd_T33 l0_0 x4_1).f2) x5_2).f0), .int .i64 ((rd_T44 ((rd_T33 l0_0 x4_1).f2) x5_2).f1.f0), .slice A105_2 ((rd_T44 ((rd_T33 l0_0 x4_1).f2) x5_2).f1.f1).length c105_2, .bool ((rd_T44 ((rd_T33 l0_0 x4_1).f2) x5_2).f1.f2), .bool ((rd_T44 ((rd_T33 l0_0 x4_1).f2) x5_2).f1.f3), .slice none 0 0, .int .i64 0, .int .i64 0, .int .i64 0, .int .i64 0, .slice none 0 0, .int .i64 0, .int .i64 0, .int .i64 0]) ?_ 5 _ rfl; (with_reducible repeat (first | refine blk_drewN ?_ _ | refine blk_drew ?_ | refine blk_alloc ?_ _)); refine blk_put (cs := #[.bool ((rd_T44 ((rd_T33 l0_0 x4_1).f2) x5_2).f0), .int .i64 ((rd_T44 ((rd_T33 l0_0 x4_1).f2) x5_2).f1.f0), .slice A105_2 ((rd_T44 ((rd_T33 l0_0 x4_1).f2) x5_2).f1.f1).length c105_2, .bool ((rd_T44 ((rd_T33 l0_0 x4_1).f2) x5_2).f1.f2), .bool false, .slice none 0 0, .int .i64 0, .int .i64 0, .int .i64 0, .int .i64 0, .slice none 0 0, .int .i64 0, .int .i64 0, .int .i64 0]) ?_ 4 _ rfl; (with_reducible repeat (first | refine blk_drewN ?_ _ | refine blk_drew ?_ | refine blk_alloc ?_ _)); refine blk_put (cs := #[.bool ((rd_T44 ((rd_T33 l0_0 x4_1).f2) x5_2).f0), .int .i64 ((rd_T44 ((rd_T33 l0_0 x4_1).f2) x5_2).f1.f0), .slice A105_2 ((rd_T44 ((rd_T33 l0_0 x4_1).f2) x5_2).f1.f1).length c105_2, .bool false, .bool false, .slice none 0 0, .int .i64 0, .int .i64 0, .int .i64 0, .int .i64 0, .slice none 0 0, .int .i64 0, .int .i64 0, .int .i64 0]) ?_ 3 _ rfl; (with_reducible repeat (first | refine blk_drewN ?_ _ | refine blk_drew ?_ | refine blk_alloc ?_ _)); refine blk_put (cs := #[.bool ((rd_T44 ((rd_T33 l0_0 x4_1).f2) x5_2).f0), .int .i64 ((rd_T44 ((rd_T33 l0_0 x4_1).f2) x5_2).f1.f0), .slice none 0 0, .bool false, .bool false, .slice none 0 0, .int .i64 0, .int .i64 0, .int .i64 0, .int .i64 0, .slice none 0 0, .int .i64 0, .int .i64 0, .int .i64 0]) ?_ 2 _ rfl; (with_reducible repeat (first | refine blk_drewN ?_ _ | refine blk_drew ?_ | refine blk_alloc ?_ _)); refine blk_put (cs := #[.bool ((rd_T44 ((rd_T33 l0_0 x4_1).f2) x5_2).f0), .int .i64 0, .slice none 0 0, .bool false, .bool false, .slice none 0 0, .int .i64 0, .int .i64 0, .int .i64 0, .int .i64 0, .slice none 0 0, .int .i64 0, .int .i64 0, .int .i64 0]) ?_ 1 _ rfl; (with_reducible repeat (first | refine blk_drewN ?_ _ | refine blk_drew ?_ | refine blk_alloc ?_ _)); refine blk_put (cs := #[.bool false, .int .i64 0, .slice none 0 0, .bool false, .bool false, .slice none 0 0, .int .i64 0, .int .i64 0, .int .i64 0, .int .i64 0, .slice none 0 0, .int .i64 0, .int .i64 0, .int .i64 0]) ?_ 0 _ rfl; (with_reducible repeat (first | refine blk_drewN ?_ _ | refine blk_drew ?_ | refine blk_alloc ?_ _)); exact BK106.out⟩, ⟨by repeat (first | (with_reducible first | exact HB.out | apply below_alloc | apply pw_below_drewN | apply below_drew1 | refine below_set ?_ GE101.out | refine below_set ?_ GE106.out) | exact HB.out)⟩⟩
               ·rw [if_neg c24] at H
                have c24b0 : decide (20 < (((rd_T44 ((rd_T33 l0_0 x4_1).f2) x5_2).f1.f1).length : Int)) = false := decide_eq_false c24
                have c24b1 : decide (20 < ((rd_T44 ((rd_T33 l0_0 x4_1).f2) x5_2).f1.f1).length) = false := decide_eq_false (by omega)
                clear c24
                have H' := Aside0.mk H
                clear H
                have hnb27 := NB106_101.out
                have hnc27 := NB101_106.out
                have hcz28_0 : w18.cell? ⟨gb106, 0, none⟩ = some (.bool false) := (blk_cell BK106.out 0).trans rfl
                have hcz28_1 : w18.cell? ⟨gb106, 1, none⟩ = some (.int .i64 0) := (blk_cell BK106.out 1).trans rfl
                have hcz28_2 : w18.cell? ⟨gb106, 2, none⟩ = some (.slice none 0 0) := (blk_cell BK106.out 2).trans rfl
                have hcz28_3 : w18.cell? ⟨gb106, 3, none⟩ = some (.bool false) := (blk_cell BK106.out 3).trans rfl
                have hcz28_4 : w18.cell? ⟨gb106, 4, none⟩ = some (.bool false) := (blk_cell BK106.out 4).trans rfl
                have hcz28_5 : w18.cell? ⟨gb106, 5, none⟩ = some (.slice none 0 0) := (blk_cell BK106.out 5).trans rfl
                have hcz28_6 : w18.cell? ⟨gb106, 6, none⟩ = some (.int .i64 0) := (blk_cell BK106.out 6).trans rfl
                have hcz28_7 : w18.cell? ⟨gb106, 7, none⟩ = some (.int .i64 0) := (blk_cell BK106.out 7).trans rfl
                have hcz28_8 : w18.cell? ⟨gb106, 8, none⟩ = some (.int .i64 0) := (blk_cell BK106.out 8).trans rfl
                have hcz28_9 : w18.cell? ⟨gb106, 9, none⟩ = some (.int .i64 0) := (blk_cell BK106.out 9).trans rfl
                have hcz28_10 : w18.cell? ⟨gb106, 10, none⟩ = some (.slice none 0 0) := (blk_cell BK106.out 10).trans rfl
                have hcz28_11 : w18.cell? ⟨gb106, 11, none⟩ = some (.int .i64 0) := (blk_cell BK106.out 11).trans rfl
                have hcz28_12 : w18.cell? ⟨gb106, 12, none⟩ = some (.int .i64 0) := (blk_cell BK106.out 12).trans rfl
                have hcz28_13 : w18.cell? ⟨gb106, 13, none⟩ = some (.int .i64 0) := (blk_cell BK106.out 13).trans rfl
                have hfz28_0 := blk_frozen BK106.out 0
                have hfz28_1 := blk_frozen BK106.out 1
                have hfz28_2 := blk_frozen BK106.out 2
                have hfz28_3 := blk_frozen BK106.out 3
                have hfz28_4 := blk_frozen BK106.out 4
                have hfz28_5 := blk_frozen BK106.out 5
                have hfz28_6 := blk_frozen BK106.out 6
                have hfz28_7 := blk_frozen BK106.out 7
                have hfz28_8 := blk_frozen BK106.out 8
                have hfz28_9 := blk_frozen BK106.out 9
                have hfz28_10 := blk_frozen BK106.out 10
                have hfz28_11 := blk_frozen BK106.out 11
                have hfz28_12 := blk_frozen BK106.out 12
                have hfz28_13 := blk_frozen BK106.out 13
                go_wp2
                go_meet
                case rel => exact ⟨_, (decide ((((rd_T44 ((rd_T33 l0_0 x4_1).f2) x5_2).f3.f4).length : Int) > 20)), (by first | rfl | (simp; done) | (simp [*]; done)), H', ⟨by have := HK1.out; have := HK2.out; first | omega | exact Nat.le_refl _⟩, ⟨by (with_reducible repeat (first | refine blk_drewN ?_ _ | refine blk_drew ?_ | refine blk_alloc ?_ _)); refine blk_far ?_ NB101_106.out _; (with_reducible repeat (first | refine blk_drewN ?_ _ | refine blk_drew ?_ | refine blk_alloc ?_ _)); refine blk_far ?_ NB101_106.out _; (with_reducible repeat (first | refine blk_drewN ?_ _ | refine blk_drew ?_ | refine blk_alloc ?_ _)); refine blk_far ?_ NB101_106.out _; (with_reducible repeat (first | refine blk_drewN ?_ _ | refine blk_drew ?_ | refine blk_alloc ?_ _)); refine blk_far ?_ NB101_106.out _; (with_reducible repeat (first | refine blk_drewN ?_ _ | refine blk_drew ?_ | refine blk_alloc ?_ _)); refine blk_far ?_ NB101_106.out _; (with_reducible repeat (first | refine blk_drewN ?_ _ | refine blk_drew ?_ | refine blk_alloc ?_ _)); refine blk_far ?_ NB101_106.out _; (with_reducible repeat (first | refine blk_drewN ?_ _ | refine blk_drew ?_ | refine blk_alloc ?_ _)); refine blk_far ?_ NB101_106.out _; (with_reducible repeat (first | refine blk_drewN ?_ _ | refine blk_drew ?_ | refine blk_alloc ?_ _)); refine blk_far ?_ NB101_106.out _; (with_reducible repeat (first | refine blk_drewN ?_ _ | refine blk_drew ?_ | refine blk_alloc ?_ _)); refine blk_far ?_ NB101_106.out _; (with_reducible repeat (first | refine blk_drewN ?_ _ | refine blk_drew ?_ | refine blk_alloc ?_ _)); refine blk_far ?_ NB101_106.out _; (with_reducible repeat (first | refine blk_drewN ?_ _ | refine blk_drew ?_ | refine blk_alloc ?_ _)); refine blk_far ?_ NB101_106.out _; (with_reducible repeat (first | refine blk_drewN ?_ _ | refine blk_drew ?_ | refine blk_alloc ?_ _)); refine blk_far ?_ NB101_106.out _; (with_reducible repeat (first | refine blk_drewN ?_ _ | refine blk_drew ?_ | refine blk_alloc ?_ _)); refine blk_far ?_ NB101_106.out _; (with_reducible repeat (first | refine blk_drewN ?_ _ | refine blk_drew ?_ | refine blk_alloc ?_ _)); refine blk_far ?_ NB101_106.out _; (with_reducible repeat (first | refine blk_drewN ?_ _ | refine blk_drew ?_ | refine blk_alloc ?_ _)); exact BK101.out⟩, ⟨by (with_reducible repeat (first | refine blk_drewN ?_ _ | refine blk_drew ?_ | refine blk_alloc ?_ _)); refine blk_put (cs := #[.bool ((rd_T44 ((rd_T33 l0_0 x4_1).f2) x5_2).f0), .int .i64 ((rd_T44 ((rd_T33 l0_0 x4_1).f2) x5_2).f1.f0), .slice A105_2 ((rd_T44 ((rd_T33 l0_0 x4_1).f2) x5_2).f1.f1).length c105_2, .bool ((rd_T44 ((rd_T33 l0_0 x4_1).f2) x5_2).f1.f2), .bool ((rd_T44 ((rd_T33 l0_0 x4_1).f2) x5_2).f1.f3), .slice A105_5 ((rd_T44 ((rd_T33 l0_0 x4_1).f2) x5_2).f2).length c105_5, .int .i64 ((rd_T44 ((rd_T33 l0_0 x4_1).f2) x5_2).f3.f0), .int .i64 ((rd_T44 ((rd_T33 l0_0 x4_1).f2) x5_2).f3.f1), .int .i64 ((rd_T44 ((rd_T33 l0_0 x4_1).f2) x5_2).f3.f2), .int .i64 ((rd_T44 ((rd_T33 l0_0 x4_1).f2) x5_2).f3.f3), .slice A105_10 ((rd_T44 ((rd_T33 l0_0 x4_1).f2) x5_2).f3.f4).length c105_10, .int .i64 ((rd_T44 ((rd_T33 l0_0 x4_1).f2) x5_2).f3.f5), .int .i64 ((rd_T44 ((rd_T33 l0_0 x4_1).f2) x5_2).f3.f6), .int .i64 0]) ?_ 13 _ rfl; (with_reducible repeat (first | refine blk_drewN ?_ _ | refine blk_drew ?_ | refine blk_alloc ?_ _)); refine blk_put (cs := #[.bool ((rd_T44 ((rd_T33 l0_0 x4_1).f2) x5_2).f0), .int .i64 ((rd_T44 ((rd_T33 l0_0 x4_1).f2) x5_2).f1.f0), .slice A105_2 ((rd_T44 ((rd_T33 l0_0 x4_1).f2) x5_2).f1.f1).length c105_2, .bool ((rd_T44 ((rd_T33 l0_0 x4_1).f2) x5_2).f1.f2), .bool ((rd_T44 ((rd_T33 l0_0 x4_1).f2) x5_2).f1.f3), .slice A105_5 ((rd_T44 ((rd_T33 l0_0 x4_1).f2) x5_2).f2).length c105_5, .int .i64 ((rd_T44 ((rd_T33 l0_0 x4_1).f2) x5_2).f3.f0), .int .i64 ((rd_T44 ((rd_T33 l0_0 x4_1).f2) x5_2).f3.f1), .int .i64 ((rd_T44 ((rd_T33 l0_0 x4_1).f2) x5_2).f3.f2), .int .i64 ((rd_T44 ((rd_T33 l0_0 x4_1).f2) x5_2).f3.f3), .slice A105_10 ((rd_T44 ((rd_T33 l0_0 x4_1).f2) x5_2).f3.f4).length c105_10, .int .i64 ((rd_T44 ((rd_T33 l0_0 x4_1).f2) x5_2).f3.f5), .int .i64 0, .int .i64 0]) ?_ 12 _ rfl; (with_reducible repeat (first | refine blk_drewN ?_ _ | refine blk_drew ?_ | refine blk_alloc ?_ _)); refine blk_put (cs := #[.bool ((rd_T44 ((rd_T33 l0_0 x4_1).f2) x5_2).f0), .int .i64 ((rd_T44 ((rd_T33 l0_0 x4_1).f2) x5_2).f1.f0), .slice A105_2 ((rd_T44 ((rd_T33 l0_0 x4_1).f2) x5_2).f1.f1).length c105_2, .bool ((rd_T44 ((rd_T33 l0_0 x4_1).f2) x5_2).f1.f2), .bool ((rd_T44 ((rd_T33 l0_0 x4_1).f2) x5_2).f1.f3), .slice A105_5 ((rd_T44 ((rd_T33 l0_0 x4_1).f2) x5_2).f2).length c105_5, .int .i64 ((rd_T44 ((rd_T33 l0_0 x4_1).f2) x5_2).f3.f0), .int .i64 ((rd_T44 ((rd_T33 l0_0 x4_1).f2) x5_2).f3.f1), .int .i64 ((rd_T44 ((rd_T33 l0_0 x4_1).f2) x5_2).f3.f2), .int .i64 ((rd_T44 ((rd_T33 l0_0 x4_1).f2) x5_2).f3.f3), .slice A105_10 ((rd_T44 ((rd_T33 l0_0 x4_1).f2) x5_2).f3.f4).length c105_10, .int .i64 0, .int .i64 0, .int .i64 0]) ?_ 11 _ rfl; (with_reducible repeat (first | refine blk_drewN ?_ _ | refine blk_drew ?_ | refine blk_alloc ?_ _)); refine blk_put (cs := #[.bool ((rd_T44 ((rd_T33 l0_0 x4_1).f2) x5_2).f0), .int .i64 ((rd_T44 ((rd_T33 l0_0 x4_1).f2) x5_2).f1.f0), .slice A105_2 ((rd_T44 ((rd_T33 l0_0 x4_1).f2) x5_2).f1.f1).length c105_2, .bool ((rd_T44 ((rd_T33 l0_0 x4_1).f2) x5_2).f1.f2), .bool ((rd_T44 ((rd_T33 l0_0 x4_1).f2) x5_2).f1.f3), .slice A105_5 ((rd_T44 ((rd_T33 l0_0 x4_1).f2) x5_2).f2).length c105_5, .int .i64 ((rd_T44 ((rd_T33 l0_0 x4_1).f2) x5_2).f3.f0), .int .i64 ((rd_T44 ((rd_T33 l0_0 x4_1).f2) x5_2).f3.f1), .int .i64 ((rd_T44 ((rd_T33 l0_0 x4_1).f2) x5_2).f3.f2), .int .i64 ((rd_T44 ((rd_T33 l0_0 x4_1).f2) x5_2).f3.f3), .slice none 0 0, .int .i64 0, .int .i64 0, .int .i64 0]) ?_ 10 _ rfl; (with_reducible repeat (first | refine blk_drewN ?_ _ | refine blk_drew ?_ | refine blk_alloc ?_ _)); refine blk_put (cs := #[.bool ((rd_T44 ((rd_T33 l0_0 x4_1).f2) x5_2).f0), .int .i64 ((rd_T44 ((rd_T33 l0_0 x4_1).f2) x5_2).f1.f0), .slice A105_2 ((rd_T44 ((rd_T33 l0_0 x4_1).f2) x5_2).f1.f1).length c105_2, .bool ((rd_T44 ((rd_T33 l0_0 x4_1).f2) x5_2).f1.f2), .bool ((rd_T44 ((rd_T33 l0_0 x4_1).f2) x5_2).f1.f3), .slice A105_5 ((rd_T44 ((rd_T33 l0_0 x4_1).f2) x5_2).f2).length c105_5, .int .i64 ((rd_T44 ((rd_T33 l0_0 x4_1).f2) x5_2).f3.f0), .int .i64 ((rd_T44 ((rd_T33 l0_0 x4_1).f2) x5_2).f3.f1), .int .i64 ((rd_T44 ((rd_T33 l0_0 x4_1).f2) x5_2).f3.f2), .int .i64 0, .slice none 0 0, .int .i64 0, .int .i64 0, .int .i64 0]) ?_ 9 _ rfl; (with_reducible repeat (first | refine blk_drewN ?_ _ | refine blk_drew ?_ | refine blk_alloc ?_ _)); refine blk_put (cs := #[.bool ((rd_T44 ((rd_T33 l0_0 x4_1).f2) x5_2).f0), .int .i64 ((rd_T44 ((rd_T33 l0_0 x4_1).f2) x5_2).f1.f0), .slice A105_2 ((rd_T44 ((rd_T33 l0_0 x4_1).f2) x5_2).f1.f1).length c105_2, .bool ((rd_T44 ((rd_T33 l0_0 x4_1).f2) x5_2).f1.f2), .bool ((rd_T44 ((rd_T33 l0_0 x4_1).f2) x5_2).f1.f3), .slice A105_5 ((rd_T44 ((rd_T33 l0_0 x4_1).f2) x5_2).f2).length c105_5, .int .i64 ((rd_T44 ((rd_T33 l0_0 x4_1).f2) x5_2).f3.f0), .int .i64 ((rd_T44 ((rd_T33 l0_0 x4_1).f2) x5_2).f3.f1), .int .i64 0, .int .i64 0, .slice none 0 0, .int .i64 0, .int .i64 0, .int .i64 0]) ?_ 8 _ rfl; (with_reducible repeat (first | refine blk_drewN ?_ _ | refine blk_drew ?_ | refine blk_alloc ?_ _)); refine blk_put (cs := #[.bool ((rd_T44 ((rd_T33 l0_0 x4_1).f2) x5_2).f0), .int .i64 ((rd_T44 ((rd_T33 l0_0 x4_1).f2) x5_2).f1.f0), .slice A105_2 ((rd_T44 ((rd_T33 l0_0 x4_1).f2) x5_2).f1.f1).length c105_2, .bool ((rd_T44 ((rd_T33 l0_0 x4_1).f2) x5_2).f1.f2), .bool ((rd_T44 ((rd_T33 l0_0 x4_1).f2) x5_2).f1.f3), .slice A105_5 ((rd_T44 ((rd_T33 l0_0 x4_1).f2) x5_2).f2).length c105_5, .int .i64 ((rd_T44 ((rd_T33 l0_0 x4_1).f2) x5_2).f3.f0), .int .i64 0, .int .i64 0, .int .i64 0, .slice none 0 0, .int .i64 0, .int .i64 0, .int .i64 0]) ?_ 7 _ rfl; (with_reducible repeat (first | refine blk_drewN ?_ _ | refine blk_drew ?_ | refine blk_alloc ?_ _)); refine blk_put (cs := #[.bool ((rd_T44 ((rd_T33 l0_0 x4_1).f2) x5_2).f0), .int .i64 ((rd_T44 ((rd_T33 l0_0 x4_1).f2) x5_2).f1.f0), .slice A105_2 ((rd_T44 ((rd_T33 l0_0 x4_1).f2) x5_2).f1.f1).length c105_2, .bool ((rd_T44 ((rd_T33 l0_0 x4_1).f2) x5_2).f1.f2), .bool ((rd_T44 ((rd_T33 l0_0 x4_1).f2) x5_2).f1.f3), .slice A105_5 ((rd_T44 ((rd_T33 l0_0 x4_1).f2) x5_2).f2).length c105_5, .int .i64 0, .int .i64 0, .int .i64 0, .int .i64 0, .slice none 0 0, .int .i64 0, .int .i64 0, .int .i64 0]) ?_ 6 _ rfl; (with_reducible repeat (first | refine blk_drewN ?_ _ | refine blk_drew ?_ | refine blk_alloc ?_ _)); refine blk_put (cs := #[.bool ((rd_T44 ((rd_T33 l0_0 x4_1).f2) x5_2).f0), .int .i64 ((rd_T44 ((rd_T33 l0_0 x4_1).f2) x5_2).f1.f0), .slice A105_2 ((rd_T44 ((rd_T33 l0_0 x4_1).f2) x5_2).f1.f1).length c105_2, .bool ((rd_T44 ((rd_T33 l0_0 x4_1).f2) x5_2).f1.f2), .bool ((rd_T44 ((rd_T33 l0_0 x4_1).f2) x5_2).f1.f3), .slice none 0 0, .int .i64 0, .int .i64 0, .int .i64 0, .int .i64 0, .slice none 0 0, .int .i64 0, .int .i64 0, .int .i64 0]) ?_ 5 _ rfl; (with_reducible repeat (first | refine blk_drewN ?_ _ | refine blk_drew ?_ | refine blk_alloc ?_ _)); refine blk_put (cs := #[.bool ((rd_T44 ((rd_T33 l0_0 x4_1).f2) x5_2).f0), .int .i64 ((rd_T44 ((rd_T33 l0_0 x4_1).f2) x5_2).f1.f0), .slice A105_2 ((rd_T44 ((rd_T33 l0_0 x4_1).f2) x5_2).f1.f1).length c105_2, .bool ((rd_T44 ((rd_T33 l0_0 x4_1).f2) x5_2).f1.f2), .bool false, .slice none 0 0, .int .i64 0, .int .i64 0, .int .i64 0, .int .i64 0, .slice none 0 0, .int .i64 0, .int .i64 0, .int .i64 0]) ?_ 4 _ rfl; (with_reducible repeat (first | refine blk_drewN ?_ _ | refine blk_drew ?_ | refine blk_alloc ?_ _)); refine blk_put (cs := #[.bool ((rd_T44 ((rd_T33 l0_0 x4_1).f2) x5_2).f0), .int .i64 ((rd_T44 ((rd_T33 l0_0 x4_1).f2) x5_2).f1.f0), .slice A105_2 ((rd_T44 ((rd_T33 l0_0 x4_1).f2) x5_2).f1.f1).length c105_2, .bool false, .bool false, .slice none 0 0, .int .i64 0, .int .i64 0, .int .i64 0, .int .i64 0, .slice none 0 0, .int .i64 0, .int .i64 0, .int .i64 0]) ?_ 3 _ rfl; (with_reducible repeat (first | refine blk_drewN ?_ _ | refine blk_drew ?_ | refine blk_alloc ?_ _)); refine blk_put (cs := #[.bool ((rd_T44 ((rd_T33 l0_0 x4_1).f2) x5_2).f0), .int .i64 ((rd_T44 ((rd_T33 l0_0 x4_1).f2) x5_2).f1.f0), .slice none 0 0, .bool false, .bool false, .slice none 0 0, .int .i64 0, .int .i64 0, .int .i64 0, .int .i64 0, .slice none 0 0, .int .i64 0, .int .i64 0, .int .i64 0]) ?_ 2 _ rfl; (with_reducible repeat (first | refine blk_drewN ?_ _ | refine blk_drew ?_ | refine blk_alloc ?_ _)); refine blk_put (cs := #[.bool ((rd_T44 ((rd_T33 l0_0 x4_1).f2) x5_2).f0), .int .i64 0, .slice none 0 0, .bool false, .bool false, .slice none 0 0, .int .i64 0, .int .i64 0, .int .i64 0, .int .i64 0, .slice none 0 0, .int .i64 0, .int .i64 0, .int .i64 0]) ?_ 1 _ rfl; (with_reducible repeat (first | refine blk_drewN ?_ _ | refine blk_drew ?_ | refine blk_alloc ?_ _)); refine blk_put (cs := #[.bool false, .int .i64 0, .slice none 0 0, .bool false, .bool false, .slice none 0 0, .int .i64 0, .int .i64 0, .int .i64 0, .int .i64 0, .slice none 0 0, .int .i64 0, .int .i64 0, .int .i64 0]) ?_ 0 _ rfl; (with_reducible repeat (first | refine blk_drewN ?_ _ | refine blk_drew ?_ | refine blk_alloc ?_ _)); exact BK106.out⟩, ⟨by repeat (first | (with_reducible first | exact HB.out | apply below_alloc | apply pw_below_drewN | apply below_drew1 | refine below_set ?_ GE101.out | refine below_set ?_ GE106.out) | exact HB.out)⟩⟩
             case rest =>
              clear HC16
              try clear c1
              try clear p1
              try clear q1
              try clear hx1
              try clear c2
              try clear c2b0
              try clear c2b1
              try clear p2
              try clear c7
              try clear c7b0
              try clear c8
              try clear c8b0
              try clear c9
              try clear c9b0
              try clear c9b1
              try clear c10
              try clear p10
              try clear q10
              try clear hx10
              try clear c12
              try clear c12b0
              try clear c13
              try clear c13b0
              try clear c14
              try clear c14b0
              try clear c15
              try clear c15b0
              try clear c19
              try clear c21
              try clear c21b0
              try clear c21b1
              try clear c22
              try clear c24
              try clear c24b0
              try clear c24b1
              try clear c25
              try clear c27
              try clear hcz10_0
              try clear hcz11_0
              try clear hcz17_0
              try clear hcz20_0
              try clear hcz20_1
              try clear hcz20_10
              try clear hcz20_11
              try clear hcz20_12
              try clear hcz20_13
              try clear hcz20_2
              try clear hcz20_3
              try clear hcz20_4
              try clear hcz20_5
              try clear hcz20_6
              try clear hcz20_7
              try clear hcz20_8
              try clear hcz20_9
              try clear hcz23_0
              try clear hcz23_1
              try clear hcz23_10
              try clear hcz23_11
              try clear hcz23_12
              try clear hcz23_13
              try clear hcz23_2
              try clear hcz23_3
              try clear hcz23_4
              try clear hcz23_5
              try clear hcz23_6
              try clear hcz23_7
              try clear hcz23_8
              try clear hcz23_9
              try clear hcz26_0
              try clear hcz26_1
              try clear hcz26_10
              try clear hcz26_11
              try clear hcz26_12
              try clear hcz26_13
              try clear hcz26_2
              try clear hcz26_3
              try clear hcz26_4
              try clear hcz26_5
              try clear hcz26_6
              try clear hcz26_7
              try clear hcz26_8
              try clear hcz26_9
              try clear hcz28_0
              try clear hcz28_1
              try clear hcz28_10
              try clear hcz28_11
              try clear hcz28_12
              try clear hcz28_13
              try clear hcz28_2
              try clear hcz28_3
              try clear hcz28_4
              try clear hcz28_5
              try clear hcz28_6
              try clear hcz28_7
              try clear hcz28_8
              try clear hcz28_9
              try clear hcz4_0
              try clear hcz6_0
              try clear hfz10_0
              try clear hfz11_0
              try clear hfz17_0
              try clear hfz20_0
              try clear hfz20_1
              try clear hfz20_10
              try clear hfz20_11
              try clear hfz20_12
              try clear hfz20_13
              try clear hfz20_2
              try clear hfz20_3
              try clear hfz20_4
              try clear hfz20_5
              try clear hfz20_6
              try clear hfz20_7
              try clear hfz20_8
              try clear hfz20_9
              try clear hfz23_0
              try clear hfz23_1
              try clear hfz23_10
              try clear hfz23_11
              try clear hfz23_12
              try clear hfz23_13
              try clear hfz23_2
              try clear hfz23_3
              try clear hfz23_4
              try clear hfz23_5
              try clear hfz23_6
              try clear hfz23_7
              try clear hfz23_8
              try clear hfz23_9
              try clear hfz26_0
              try clear hfz26_1
              try clear hfz26_10
              try clear hfz26_11
              try clear hfz26_12
              try clear hfz26_13
              try clear hfz26_2
              try clear hfz26_3
              try clear hfz26_4
              try clear hfz26_5
              try clear hfz26_6
              try clear hfz26_7
              try clear hfz26_8
              try clear hfz26_9
              try clear hfz28_0
              try clear hfz28_1
              try clear hfz28_10
              try clear hfz28_11
              try clear hfz28_12
              try clear hfz28_13
              try clear hfz28_2
              try clear hfz28_3
              try clear hfz28_4
              try clear hfz28_5
              try clear hfz28_6
              try clear hfz28_7
              try clear hfz28_8
              try clear hfz28_9
              try clear hfz4_0
              try clear hfz6_0
              try clear hx102_0
              try clear hx102_1
              try clear hx102_2
              try clear hx103_0
              try clear hx103_1
              try clear hx103_2
              try clear hx104_0
              try clear hx104_1
              try clear hx104_2
              try clear hx105_0
              try clear hx105_1
              try clear hx105_10
              try clear hx105_11
              try clear hx105_12
              try clear hx105_13
              try clear hx105_2
              try clear hx105_3
              try clear hx105_4
              try clear hx105_5
              try clear hx105_6
              try clear hx105_7
              try clear hx105_8
              try clear hx105_9
              try clear p1
              try clear p10
              try clear p102
              try clear p103
              try clear p104
              try clear p105
              try clear p2
              try clear q1
              try clear q10
              try clear q102
              try clear q103
              try clear q104
              try clear q105
              obtain ⟨kq, x64_15, rfl, HA, HJ15, BK101, BK106, HB⟩ := hcut
              cases kq with
              | zero => exact absurd HA.out (by simp [davitref02_Short.j2])
              | succ kj15 =>
               have H := HA.out
               clear HA
               simp only [davitref02_Short.j2] at H
               by_cases c29 : x64_15 = true
               ·subst c29
                have H1 : (some false) = some r := by rw [if_pos rfl] at H; exact H
                clear H
                have H := H1
                clear H1
                obtain rfl := Option.some.inj H
                go_wp2
                go_ret
                exact ⟨by first | rfl | (simp [errW_none, errW_some] <;> rfl) | (simp [*, errW_none, errW_some] <;> rfl), by repeat (first | (with_reducible first | exact HB.out | apply below_alloc | apply pw_below_drewN | apply below_drew1 | refine below_set ?_ GE101.out | refine below_set ?_ GE106.out) | exact HB.out)⟩
               ·replace c29 := Bool.eq_false_iff.mpr c29
                subst c29
                have H1 : (davitref02_Short.l2 kj15 (wrap64 (x3_2 + (((rd_T44 ((rd_T33 l0_0 x4_1).f2) x5_2).f2).length : Int))) x4_1 x5_2 0 l0_0 ((rd_T44 ((rd_T33 l0_0 x4_1).f2) x5_2).f0) ((rd_T44 ((rd_T33 l0_0 x4_1).f2) x5_2).f1.f0) ((rd_T44 ((rd_T33 l0_0 x4_1).f2) x5_2).f1.f1) ((rd_T44 ((rd_T33 l0_0 x4_1).f2) x5_2).f1.f2) ((rd_T44 ((rd_T33 l0_0 x4_1).f2) x5_2).f1.f3) ((rd_T44 ((rd_T33 l0_0 x4_1).f2) x5_2).f2) ((rd_T44 ((rd_T33 l0_0 x4_1).f2) x5_2).f3.f0) ((rd_T44 ((rd_T33 l0_0 x4_1).f2) x5_2).f3.f1) ((rd_T44 ((rd_T33 l0_0 x4_1).f2) x5_2).f3.f2) ((rd_T44 ((rd_T33 l0_0 x4_1).f2) x5_2).f3.f3) ((rd_T44 ((rd_T33 l0_0 x4_1).f2) x5_2).f3.f4) ((rd_T44 ((rd_T33 l0_0 x4_1).f2) x5_2).f3.f5) ((rd_T44 ((rd_T33 l0_0 x4_1).f2) x5_2).f3.f6) ((rd_T44 ((rd_T33 l0_0 x4_1).f2) x5_2).f3.f7)) = some r := by rw [if_neg (show ¬ (false = true) by decide)] at H; exact H
                clear H
                have H := H1
                clear H1
                have H' := Aside0.mk H
                clear H
                have hnb30 := NB106_101.out
                have hnc30 := NB101_106.out
                have hcz31_0 : wc.cell? ⟨gb106, 0, none⟩ = some (.bool ((rd_T44 ((rd_T33 l0_0 x4_1).f2) x5_2).f0)) := (blk_cell BK106.out 0).trans rfl
                have hcz31_1 : wc.cell? ⟨gb106, 1, none⟩ = some (.int .i64 ((rd_T44 ((rd_T33 l0_0 x4_1).f2) x5_2).f1.f0)) := (blk_cell BK106.out 1).trans rfl
                have hcz31_2 : wc.cell? ⟨gb106, 2, none⟩ = some (.slice A105_2 ((rd_T44 ((rd_T33 l0_0 x4_1).f2) x5_2).f1.f1).length c105_2) := (blk_cell BK106.out 2).trans rfl
                have hcz31_3 : wc.cell? ⟨gb106, 3, none⟩ = some (.bool ((rd_T44 ((rd_T33 l0_0 x4_1).f2) x5_2).f1.f2)) := (blk_cell BK106.out 3).trans rfl
                have hcz31_4 : wc.cell? ⟨gb106, 4, none⟩ = some (.bool ((rd_T44 ((rd_T33 l0_0 x4_1).f2) x5_2).f1.f3)) := (blk_cell BK106.out 4).trans rfl
                have hcz31_5 : wc.cell? ⟨gb106, 5, none⟩ = some (.slice A105_5 ((rd_T44 ((rd_T33 l0_0 x4_1).f2) x5_2).f2).length c105_5) := (blk_cell BK106.out 5).trans rfl
                have hcz31_6 : wc.cell? ⟨gb106, 6, none⟩ = some (.int .i64 ((rd_T44 ((rd_T33 l0_0 x4_1).f2) x5_2).f3.f0)) := (blk_cell BK106.out 6).trans rfl
                have hcz31_7 : wc.cell? ⟨gb106, 7, none⟩ = some (.int .i64 ((rd_T44 ((rd_T33 l0_0 x4_1).f2) x5_2).f3.f1)) := (blk_cell BK106.out 7).trans rfl
                have hcz31_8 : wc.cell? ⟨gb106, 8, none⟩ = some (.int .i64 ((rd_T44 ((rd_T33 l0_0 x4_1).f2) x5_2).f3.f2)) := (blk_cell BK106.out 8).trans rfl
                have hcz31_9 : wc.cell? ⟨gb106, 9, none⟩ = some (.int .i64 ((rd_T44 ((rd_T33 l0_0 x4_1).f2) x5_2).f3.f3)) := (blk_cell BK106.out 9).trans rfl
                have hcz31_10 : wc.cell? ⟨gb106, 10, none⟩ = some (.slice A105_10 ((rd_T44 ((rd_T33 l0_0 x4_1).f2) x5_2).f3.f4).length c105_10) := (blk_cell BK106.out 10).trans rfl
                have hcz31_11 : wc.cell? ⟨gb106, 11, none⟩ = some (.int .i64 ((rd_T44 ((rd_T33 l0_0 x4_1).f2) x5_2).f3.f5)) := (blk_cell BK106.out 11).trans rfl
                have hcz31_12 : wc.cell? ⟨gb106, 12, none⟩ = some (.int .i64 ((rd_T44 ((rd_T33 l0_0 x4_1).f2) x5_2).f3.f6)) := (blk_cell BK106.out 12).trans rfl
                have hcz31_13 : wc.cell? ⟨gb106, 13, none⟩ = some (.int .i64 ((rd_T44 ((rd_T33 l0_0 x4_1).f2) x5_2).f3.f7)) := (blk_cell BK106.out 13).trans rfl
                have hfz31_0 := blk_frozen BK106.out 0
                have hfz31_1 := blk_frozen BK106.out 1
                have hfz31_2 := blk_frozen BK106.out 2
                have hfz31_3 := blk_frozen BK106.out 3
                have hfz31_4 := blk_frozen BK106.out 4
                have hfz31_5 := blk_frozen BK106.out 5
                have hfz31_6 := blk_frozen BK106.out 6
                have hfz31_7 := blk_frozen BK106.out 7
                have hfz31_8 := blk_frozen BK106.out 8
                have hfz31_9 := blk_frozen BK106.out 9
                have hfz31_10 := blk_frozen BK106.out 10
                have hfz31_11 := blk_frozen BK106.out 11
                have hfz31_12 := blk_frozen BK106.out 12
                have hfz31_13 := blk_frozen BK106.out 13
                go_wp2
                go_loopg [7] kj15 (fun kq v7 w' => ∃ (x7_4 : Int), v7 = .int .i64 x7_4 ∧ Aside0 (davitref02_Short.l2 kq (wrap64 (x3_2 + (((rd_T44 ((rd_T33 l0_0 x4_1).f2) x5_2).f2).length : Int))) x4_1 x5_2 x7_4 l0_0 ((rd_T44 ((rd_T33 l0_0 x4_1).f2) x5_2).f0) ((rd_T44 ((rd_T33 l0_0 x4_1).f2) x5_2).f1.f0) ((rd_T44 ((rd_T33 l0_0 x4_1).f2) x5_2).f1.f1) ((rd_T44 ((rd_T33 l0_0 x4_1).f2) x5_2).f1.f2) ((rd_T44 ((rd_T33 l0_0 x4_1).f2) x5_2).f1.f3) ((rd_T44 ((rd_T33 l0_0 x4_1).f2) x5_2).f2) ((rd_T44 ((rd_T33 l0_0 x4_1).f2) x5_2).f3.f0) ((rd_T44 ((rd_T33 l0_0 x4_1).f2) x5_2).f3.f1) ((rd_T44 ((rd_T33 l0_0 x4_1).f2) x5_2).f3.f2) ((rd_T44 ((rd_T33 l0_0 x4_1).f2) x5_2).f3.f3) ((rd_T44 ((rd_T33 l0_0 x4_1).f2) x5_2).f3.f4) ((rd_T44 ((rd_T33 l0_0 x4_1).f2) x5_2).f3.f5) ((rd_T44 ((rd_T33 l0_0 x4_1).f2) x5_2).f3.f6) ((rd_T44 ((rd_T33 l0_0 x4_1).f2) x5_2).f3.f7) = some r) ∧ Aside0 (kq ≤ kj15) ∧ Aside0 (w'.heap[gb101]? = some (.cells #[(.slice (some ad102) l0_0.length c0_0)] 24 (0, 0))) ∧ Aside0 (w'.heap[gb106]? = some (.cells #[.bool ((rd_T44 ((rd_T33 l0_0 x4_1).f2) x5_2).f0), .int .i64 ((rd_T44 ((rd_T33 l0_0 x4_1).f2) x5_2).f1.f0), (.slice A105_2 ((rd_T44 ((rd_T33 l0_0 x4_1).f2) x5_2).f1.f1).length c105_2), .bool ((rd_T44 ((rd_T33 l0_0 x4_1).f2) x5_2).f1.f2), .bool ((rd_T44 ((rd_T33 l0_0 x4_1).f2) x5_2).f1.f3), (.slice A105_5 ((rd_T44 ((rd_T33 l0_0 x4_1).f2) x5_2).f2).length c105_5), .int .i64 ((rd_T44 ((rd_T33 l0_0 x4_1).f2) x5_2).f3.f0), .int .i64 ((rd_T44 ((rd_T33 l0_0 x4_1).f2) x5_2).f3.f1), .int .i64 ((rd_T44 ((rd_T33 l0_0 x4_1).f2) x5_2).f3.f2), .int .i64 ((rd_T44 ((rd_T33 l0_0 x4_1).f2) x5_2).f3.f3), (.slice A105_10 ((rd_T44 ((rd_T33 l0_0 x4_1).f2) x5_2).f3.f4).length c105_10), .int .i64 ((rd_T44 ((rd_T33 l0_0 x4_1).f2) x5_2).f3.f5), .int .i64 ((rd_T44 ((rd_T33 l0_0 x4_1).f2) x5_2).f3.f6), .int .i64 ((rd_T44 ((rd_T33 l0_0 x4_1).f2) x5_2).f3.f7)] 44 (0, 0))) ∧ Aside0 (Below w.heap.size w w'))
                case atStart => exact ⟨(0), (by first | rfl | (simp; done) | (simp [*]; done)), H', ⟨Nat.le_refl _⟩, ⟨by (with_reducible repeat (first | refine blk_drewN ?_ _ | refine blk_drew ?_ | refine blk_alloc ?_ _)); exact BK101.out⟩, ⟨by (with_reducible repeat (first | refine blk_drewN ?_ _ | refine blk_drew ?_ | refine blk_alloc ?_ _)); exact BK106.out⟩, ⟨by repeat (first | (with_reducible first | exact HB.out | apply below_alloc | apply pw_below_drewN | apply below_drew1 | refine below_set ?_ GE101.out | refine below_set ?_ GE106.out) | exact HB.out)⟩⟩
                case round =>
                 clear H'
                 try clear c1
                 try clear p1
                 try clear q1
                 try clear hx1
                 try clear c2
                 try clear c2b0
                 try clear c2b1
                 try clear p2
                 try clear c3
                 try clear p6
                 try clear c7
                 try clear c7b0
                 try clear c8
                 try clear c8b0
                 try clear c9
                 try clear c9b0
                 try clear c9b1
                 try clear c10
                 try clear p10
                 try clear q10
                 try clear hx10
                 try clear c12
                 try clear c12b0
                 try clear c13
                 try clear c13b0
                 try clear c14
                 try clear c14b0
                 try clear c15
                 try clear c15b0
                 try clear c19
                 try clear c21
                 try clear c21b0
                 try clear c21b1
                 try clear c22
                 try clear c24
                 try clear c24b0
                 try clear c24b1
                 try clear c25
                 try clear c27
                 try clear c29
                 try clear c30
                 try clear hcz10_0
                 try clear hcz11_0
                 try clear hcz17_0
                 try clear hcz20_0
                 try clear hcz20_1
                 try clear hcz20_10
                 try clear hcz20_11
                 try clear hcz20_12
                 try clear hcz20_13
                 try clear hcz20_2
                 try clear hcz20_3
                 try clear hcz20_4
                 try clear hcz20_5
                 try clear hcz20_6
                 try clear hcz20_7
                 try clear hcz20_8
                 try clear hcz20_9
                 try clear hcz23_0
                 try clear hcz23_1
                 try clear hcz23_10
                 try clear hcz23_11
                 try clear hcz23_12
                 try clear hcz23_13
                 try clear hcz23_2
                 try clear hcz23_3
                 try clear hcz23_4
                 try clear hcz23_5
                 try clear hcz23_6
                 try clear hcz23_7
                 try clear hcz23_8
                 try clear hcz23_9
                 try clear hcz26_0
                 try clear hcz26_1
                 try clear hcz26_10
                 try clear hcz26_11
                 try clear hcz26_12
                 try clear hcz26_13
                 try clear hcz26_2
                 try clear hcz26_3
                 try clear hcz26_4
                 try clear hcz26_5
                 try clear hcz26_6
                 try clear hcz26_7
                 try clear hcz26_8
                 try clear hcz26_9
                 try clear hcz28_0
                 try clear hcz28_1
                 try clear hcz28_10
                 try clear hcz28_11
                 try clear hcz28_12
                 try clear hcz28_13
                 try clear hcz28_2
                 try clear hcz28_3
                 try clear hcz28_4
                 try clear hcz28_5
                 try clear hcz28_6
                 try clear hcz28_7
                 try clear hcz28_8
                 try clear hcz28_9
                 try clear hcz31_0
                 try clear hcz31_1
                 try clear hcz31_10
                 try clear hcz31_11
                 try clear hcz31_12
                 try clear hcz31_13
                 try clear hcz31_2
                 try clear hcz31_3
                 try clear hcz31_4
                 try clear hcz31_5
                 try clear hcz31_6
                 try clear hcz31_7
                 try clear hcz31_8
                 try clear hcz31_9
                 try clear hcz4_0
                 try clear hcz6_0
                 try clear hfz10_0
                 try clear hfz11_0
                 try clear hfz17_0
                 try clear hfz20_0
                 try clear hfz20_1
                 try clear hfz20_10
                 try clear hfz20_11
                 try clear hfz20_12
                 try clear hfz20_13
                 try clear hfz20_2
                 try clear hfz20_3
                 try clear hfz20_4
                 try clear hfz20_5
                 try clear hfz20_6
                 try clear hfz20_7
                 try clear hfz20_8
                 try clear hfz20_9
                 try clear hfz23_0
                 try clear hfz23_1
                 try clear hfz23_10
                 try clear hfz23_11
                 try clear hfz23_12
                 try clear hfz23_13
                 try clear hfz23_2
                 try clear hfz23_3
                 try clear hfz23_4
                 try clear hfz23_5
                 try clear hfz23_6
                 try clear hfz23_7
                 try clear hfz23_8
                 try clear hfz23_9
                 try clear hfz26_0
                 try clear hfz26_1
                 try clear hfz26_10
                 try clear hfz26_11
                 try clear hfz26_12
                 try clear hfz26_13
                 try clear hfz26_2
                 try clear hfz26_3
                 try clear hfz26_4
                 try clear hfz26_5
                 try clear hfz26_6
                 try clear hfz26_7
                 try clear hfz26_8
                 try clear hfz26_9
                 try clear hfz28_0
                 try clear hfz28_1
                 try clear hfz28_10
                 try clear hfz28_11
                 try clear hfz28_12
                 try clear hfz28_13
                 try clear hfz28_2
                 try clear hfz28_3
                 try clear hfz28_4
                 try clear hfz28_5
                 try clear hfz28_6
                 try clear hfz28_7
                 try clear hfz28_8
                 try clear hfz28_9
                 try clear hfz31_0
                 try clear hfz31_1
                 try clear hfz31_10
                 try clear hfz31_11
                 try clear hfz31_12
                 try clear hfz31_13
                 try clear hfz31_2
                 try clear hfz31_3
                 try clear hfz31_4
                 try clear hfz31_5
                 try clear hfz31_6
                 try clear hfz31_7
                 try clear hfz31_8
                 try clear hfz31_9
                 try clear hfz4_0
                 try clear hfz6_0
                 try clear hx102_0
                 try clear hx102_1
                 try clear hx102_2
                 try clear hx103_0
                 try clear hx103_1
                 try clear hx103_2
                 try clear hx104_0
                 try clear hx104_1
                 try clear hx104_2
                 try clear hx105_0
                 try clear hx105_1
                 try clear hx105_10
                 try clear hx105_11
                 try clear hx105_12
                 try clear hx105_13
                 try clear hx105_2
                 try clear hx105_3
                 try clear hx105_4
                 try clear hx105_5
                 try clear hx105_6
                 try clear hx105_7
                 try clear hx105_8
                 try clear hx105_9
                 try clear p1
                 try clear p10
                 try clear p102
                 try clear p103
                 try clear p104
                 try clear p105
                 try clear p2
                 try clear q1
                 try clear q10
                 try clear q102
                 try clear q103
                 try clear q104
                 try clear q105
                 obtain ⟨x7_4, rfl, HA, HK4, BK101, BK106, HB⟩ := hrel
                 cases gk with
                 | zero => exact absurd HA.out (by simp [davitref02_Short.l2])
                 | succ k4 =>
                  have H := HA.out
                  clear HA
                  simp only [davitref02_Short.l2] at H
                  by_cases c32 : x7_4 < (((rd_T44 ((rd_T33 l0_0 x4_1).f2) x5_2).f2).length : Int)
                  ·rw [if_pos c32] at H
                   have c32b0 : decide (x7_4 < (((rd_T44 ((rd_T33 l0_0 x4_1).f2) x5_2).f2).length : Int)) = true := decide_eq_true c32
                   clear c32
                   by_cases c33 : 0 ≤ x7_4
                   ·rw [if_pos c33] at H
                    have c33b0 : decide (0 ≤ x7_4) = true := decide_eq_true c33
                    clear c33
                    by_cases c34 : (((rd_T36 ((rd_T44 ((rd_T33 l0_0 x4_1).f2) x5_2).f2) x7_4).f6).length : Int) > 20
                    ·rw [if_pos c34] at H
                     have c34b0 : decide (20 < (((rd_T36 ((rd_T44 ((rd_T33 l0_0 x4_1).f2) x5_2).f2) x7_4).f6).length : Int)) = true := decide_eq_true c34
                     have c34b1 : decide (20 < ((rd_T36 ((rd_T44 ((rd_T33 l0_0 x4_1).f2) x5_2).f2) x7_4).f6).length) = true := decide_eq_true (by omega)
                     clear c34
                     obtain rfl := Option.some.inj H
                     have hnb35 := NB106_101.out
                     have hnc35 := NB101_106.out
                     have hcz36_0 : wr.cell? ⟨gb106, 0, none⟩ = some (.bool ((rd_T44 ((rd_T33 l0_0 x4_1).f2) x5_2).f0)) := (blk_cell BK106.out 0).trans rfl
                     have hcz36_1 : wr.cell? ⟨gb106, 1, none⟩ = some (.int .i64 ((rd_T44 ((rd_T33 l0_0 x4_1).f2) x5_2).f1.f0)) := (blk_cell BK106.out 1).trans rfl
                     have hcz36_2 : wr.cell? ⟨gb106, 2, none⟩ = some (.slice A105_2 ((rd_T44 ((rd_T33 l0_0 x4_1).f2) x5_2).f1.f1).length c105_2) := (blk_cell BK106.out 2).trans rfl
                     have hcz36_3 : wr.cell? ⟨gb106, 3, none⟩ = some (.bool ((rd_T44 ((rd_T33 l0_0 x4_1).f2) x5_2).f1.f2)) := (blk_cell BK106.out 3).trans rfl
                     have hcz36_4 : wr.cell? ⟨gb106, 4, none⟩ = some (.bool ((rd_T44 ((rd_T33 l0_0 x4_1).f2) x5_2).f1.f3)) := (blk_cell BK106.out 4).trans rfl
                     have hcz36_5 : wr.cell? ⟨gb106, 5, none⟩ = some (.slice A105_5 ((rd_T44 ((rd_T33 l0_0 x4_1).f2) x5_2).f2).length c105_5) := (blk_cell BK106.out 5).trans rfl
                     have hcz36_6 : wr.cell? ⟨gb106, 6, none⟩ = some (.int .i64 ((rd_T44 ((rd_T33 l0_0 x4_1).f2) x5_2).f3.f0)) := (blk_cell BK106.out 6).trans rfl
                     have hcz36_7 : wr.cell? ⟨gb106, 7, none⟩ = some (.int .i64 ((rd_T44 ((rd_T33 l0_0 x4_1).f2) x5_2).f3.f1)) := (blk_cell BK106.out 7).trans rfl
                     have hcz36_8 : wr.cell? ⟨gb106, 8, none⟩ = some (.int .i64 ((rd_T44 ((rd_T33 l0_0 x4_1).f2) x5_2).f3.f2)) := (blk_cell BK106.out 8).trans rfl
                     have hcz36_9 : wr.cell? ⟨gb106, 9, none⟩ = some (.int .i64 ((rd_T44 ((rd_T33 l0_0 x4_1).f2) x5_2).f3.f3)) := (blk_cell BK106.out 9).trans rfl
                     have hcz36_10 : wr.cell? ⟨gb106, 10, none⟩ = some (.slice A105_10 ((rd_T44 ((rd_T33 l0_0 x4_1).f2) x5_2).f3.f4).length c105_10) := (blk_cell BK106.out 10).trans rfl
                     have hcz36_11 : wr.cell? ⟨gb106, 11, none⟩ = some (.int .i64 ((rd_T44 ((rd_T33 l0_0 x4_1).f2) x5_2).f3.f5)) := (blk_cell BK106.out 11).trans rfl
                     have hcz36_12 : wr.cell? ⟨gb106, 12, none⟩ = some (.int .i64 ((rd_T44 ((rd_T33 l0_0 x4_1).f2) x5_2).f3.f6)) := (blk_cell BK106.out 12).trans rfl
                     have hcz36_13 : wr.cell? ⟨gb106, 13, none⟩ = some (.int .i64 ((rd_T44 ((rd_T33 l0_0 x4_1).f2) x5_2).f3.f7)) := (blk_cell BK106.out 13).trans rfl
                     have hfz36_0 := blk_frozen BK106.out 0
                     have hfz36_1 := blk_frozen BK106.out 1
                     have hfz36_2 := blk_frozen BK106.out 2
                     have hfz36_3 := blk_frozen BK106.out 3
                     have hfz36_4 := blk_frozen BK106.out 4
                     have hfz36_5 := blk_frozen BK106.out 5
                     have hfz36_6 := blk_frozen BK106.out 6
                     have hfz36_7 := blk_frozen BK106.out 7
                     have hfz36_8 := blk_frozen BK106.out 8
                     have hfz36_9 := blk_frozen BK106.out 9
                     have hfz36_10 := blk_frozen BK106.out 10
                     have hfz36_11 := blk_frozen BK106.out 11
                     have hfz36_12 := blk_frozen BK106.out 12
                     have hfz36_13 := blk_frozen BK106.out 13
                     have p107 : 0 ≤ (x7_4 : Int) := of_decide_eq_true (by first | (with_reducible assumption) | assumption)
                     have q107 : x7_4 < (((rd_T44 ((rd_T33 l0_0 x4_1).f2) x5_2).f2).length : Int) := of_decide_eq_true (by first | (with_reducible assumption) | assumption)
                     obtain ⟨ad107, A107_6, c107_6, e107, hx107_0, hx107_1, hx107_2, hx107_3, hx107_4, hx107_5, hx107_6, hl107_6, hi107_6⟩ := at_T36 HR105_5.out x7_4 p107 q107
                     cases e107
                     replace hx107_0 := (HB.out.cell (World.block_lt_of_cell? w _ hx107_0)).trans hx107_0
                     replace hx107_1 := (HB.out.cell (World.block_lt_of_cell? w _ hx107_1)).trans hx107_1
                     replace hx107_2 := (HB.out.cell (World.block_lt_of_cell? w _ hx107_2)).trans hx107_2
                     replace hx107_3 := (HB.out.cell (World.block_lt_of_cell? w _ hx107_3)).trans hx107_3
                     replace hx107_4 := (HB.out.cell (World.block_lt_of_cell? w _ hx107_4)).trans hx107_4
                     replace hx107_5 := (HB.out.cell (World.block_lt_of_cell? w _ hx107_5)).trans hx107_5
                     replace hx107_6 := (HB.out.cell (World.block_lt_of_cell? w _ hx107_6)).trans hx107_6
                     have HR107_6 := Aside0.mk hi107_6
                     have HC107_6 := Aside0.mk hl107_6
                     clear hi107_6 hl107_6
                     replace p107 := eq_true p107
                     replace q107 := eq_true q107
                     go_wp2
                     go_ret
                     exact ⟨by first | rfl | (simp [errW_none, errW_some] <;> rfl) | (simp [*, errW_none, errW_some] <;> rfl), by repeat (first | (with_reducible first | exact HB.out | apply below_alloc | apply pw_below_drewN | apply below_drew1 | refine below_set ?_ GE101.out | refine below_set ?_ GE106.out) | exact HB.out)⟩
                    ·rw [if_neg c34] at H
                     have c34b0 : decide (20 < (((rd_T36 ((rd_T44 ((rd_T33 l0_0 x4_1).f2) x5_2).f2) x7_4).f6).length : Int)) = false := decide_eq_false c34
                     have c34b1 : decide (20 < ((rd_T36 ((rd_T44 ((rd_T33 l0_0 x4_1).f2) x5_2).f2) x7_4).f6).length) = false := decide_eq_false (by omega)
                     clear c34
                     have H' := Aside0.mk H
                     clear H
                     have hnb37 := NB106_101.out
                     have hnc37 := NB101_106.out
                     have hcz38_0 : wr.cell? ⟨gb106, 0, none⟩ = some (.bool ((rd_T44 ((rd_T33 l0_0 x4_1).f2) x5_2).f0)) := (blk_cell BK106.out 0).trans rfl
                     have hcz38_1 : wr.cell? ⟨gb106, 1, none⟩ = some (.int .i64 ((rd_T44 ((rd_T33 l0_0 x4_1).f2) x5_2).f1.f0)) := (blk_cell BK106.out 1).trans rfl
                     have hcz38_2 : wr.cell? ⟨gb106, 2, none⟩ = some (.slice A105_2 ((rd_T44 ((rd_T33 l0_0 x4_1).f2) x5_2).f1.f1).length c105_2) := (blk_cell BK106.out 2).trans rfl
                     have hcz38_3 : wr.cell? ⟨gb106, 3, none⟩ = some (.bool ((rd_T44 ((rd_T33 l0_0 x4_1).f2) x5_2).f1.f2)) := (blk_cell BK106.out 3).trans rfl
                     have hcz38_4 : wr.cell? ⟨gb106, 4, none⟩ = some (.bool ((rd_T44 ((rd_T33 l0_0 x4_1).f2) x5_2).f1.f3)) := (blk_cell BK106.out 4).trans rfl
                     have hcz38_5 : wr.cell? ⟨gb106, 5, none⟩ = some (.slice A105_5 ((rd_T44 ((rd_T33 l0_0 x4_1).f2) x5_2).f2).length c105_5) := (blk_cell BK106.out 5).trans rfl
                     have hcz38_6 : wr.cell? ⟨gb106, 6, none⟩ = some (.int .i64 ((rd_T44 ((rd_T33 l0_0 x4_1).f2) x5_2).f3.f0)) := (blk_cell BK106.out 6).trans rfl
                     have hcz38_7 : wr.cell? ⟨gb106, 7, none⟩ = some (.int .i64 ((rd_T44 ((rd_T33 l0_0 x4_1).f2) x5_2).f3.f1)) := (blk_cell BK106.out 7).trans rfl
                     have hcz38_8 : wr.cell? ⟨gb106, 8, none⟩ = some (.int .i64 ((rd_T44 ((rd_T33 l0_0 x4_1).f2) x5_2).f3.f2)) := (blk_cell BK106.out 8).trans rfl
                     have hcz38_9 : wr.cell? ⟨gb106, 9, none⟩ = some (.int .i64 ((rd_T44 ((rd_T33 l0_0 x4_1).f2) x5_2).f3.f3)) := (blk_cell BK106.out 9).trans rfl
                     have hcz38_10 : wr.cell? ⟨gb106, 10, none⟩ = some (.slice A105_10 ((rd_T44 ((rd_T33 l0_0 x4_1).f2) x5_2).f3.f4).length c105_10) := (blk_cell BK106.out 10).trans rfl
                     have hcz38_11 : wr.cell? ⟨gb106, 11, none⟩ = some (.int .i64 ((rd_T44 ((rd_T33 l0_0 x4_1).f2) x5_2).f3.f5)) := (blk_cell BK106.out 11).trans rfl
                     have hcz38_12 : wr.cell? ⟨gb106, 12, none⟩ = some (.int .i64 ((rd_T44 ((rd_T33 l0_0 x4_1).f2) x5_2).f3.f6)) := (blk_cell BK106.out 12).trans rfl
                     have hcz38_13 : wr.cell? ⟨gb106, 13, none⟩ = some (.int .i64 ((rd_T44 ((rd_T33 l0_0 x4_1).f2) x5_2).f3.f7)) := (blk_cell BK106.out 13).trans rfl
                     have hfz38_0 := blk_frozen BK106.out 0
                     have hfz38_1 := blk_frozen BK106.out 1
                     have hfz38_2 := blk_frozen BK106.out 2
                     have hfz38_3 := blk_frozen BK106.out 3
                     have hfz38_4 := blk_frozen BK106.out 4
                     have hfz38_5 := blk_frozen BK106.out 5
                     have hfz38_6 := blk_frozen BK106.out 6
                     have hfz38_7 := blk_frozen BK106.out 7
                     have hfz38_8 := blk_frozen BK106.out 8
                     have hfz38_9 := blk_frozen BK106.out 9
                     have hfz38_10 := blk_frozen BK106.out 10
                     have hfz38_11 := blk_frozen BK106.out 11
                     have hfz38_12 := blk_frozen BK106.out 12
                     have hfz38_13 := blk_frozen BK106.out 13
                     have p107 : 0 ≤ (x7_4 : Int) := of_decide_eq_true (by first | (with_reducible assumption) | assumption)
                     have q107 : x7_4 < (((rd_T44 ((rd_T33 l0_0 x4_1).f2) x5_2).f2).length : Int) := of_decide_eq_true (by first | (with_reducible assumption) | assumption)
                     obtain ⟨ad107, A107_6, c107_6, e107, hx107_0, hx107_1, hx107_2, hx107_3, hx107_4, hx107_5, hx107_6, hl107_6, hi107_6⟩ := at_T36 HR105_5.out x7_4 p107 q107
                     cases e107
                     replace hx107_0 := (HB.out.cell (World.block_lt_of_cell? w _ hx107_0)).trans hx107_0
                     replace hx107_1 := (HB.out.cell (World.block_lt_of_cell? w _ hx107_1)).trans hx107_1
                     replace hx107_2 := (HB.out.cell (World.block_lt_of_cell? w _ hx107_2)).trans hx107_2
                     replace hx107_3 := (HB.out.cell (World.block_lt_of_cell? w _ hx107_3)).trans hx107_3
                     replace hx107_4 := (HB.out.cell (World.block_lt_of_cell? w _ hx107_4)).trans hx107_4
                     replace hx107_5 := (HB.out.cell (World.block_lt_of_cell? w _ hx107_5)).trans hx107_5
                     replace hx107_6 := (HB.out.cell (World.block_lt_of_cell? w _ hx107_6)).trans hx107_6
                     have HR107_6 := Aside0.mk hi107_6
                     have HC107_6 := Aside0.mk hl107_6
                     clear hi107_6 hl107_6
                     replace p107 := eq_true p107
                     replace q107 := eq_true q107
                     go_wp2
                     go_roundg k4
                     case measure => have := HK1.out; have := HK2.out; have := HJ15.out; have := HK4.out; omega
                     case rel => exact ⟨(wrap64 (x7_4 + 1)), (by first | rfl | (simp; done) | (simp [*]; done)), H', ⟨by have := HK1.out; have := HK2.out; have := HJ15.out; have := HK4.out; omega⟩, ⟨by (with_reducible repeat (first | refine blk_drewN ?_ _ | refine blk_drew ?_ | refine blk_alloc ?_ _)); exact BK101.out⟩, ⟨by (with_reducible repeat (first | refine blk_drewN ?_ _ | refine blk_drew ?_ | refine blk_alloc ?_ _)); exact BK106.out⟩, ⟨by repeat (first | (with_reducible first | exact HB.out | apply below_alloc | apply pw_below_drewN | apply below_drew1 | refine below_set ?_ GE101.out | refine below_set ?_ GE106.out) | exact HB.out)⟩⟩
                   ·rw [if_neg c33] at H
                    exact absurd H (by simp)
                  ·rw [if_neg c32] at H
                   have c32b0 : decide (x7_4 < (((rd_T44 ((rd_T33 l0_0 x4_1).f2) x5_2).f2).length : Int)) = false := decide_eq_false c32
                   clear c32
                   have H' := Aside0.mk H
                   clear H
                   have hnb39 := NB106_101.out
                   have hnc39 := NB101_106.out
                   have hcz40_0 : wr.cell? ⟨gb106, 0, none⟩ = some (.bool ((rd_T44 ((rd_T33 l0_0 x4_1).f2) x5_2).f0)) := (blk_cell BK106.out 0).trans rfl
                   have hcz40_1 : wr.cell? ⟨gb106, 1, none⟩ = some (.int .i64 ((rd_T44 ((rd_T33 l0_0 x4_1).f2) x5_2).f1.f0)) := (blk_cell BK106.out 1).trans rfl
                   have hcz40_2 : wr.cell? ⟨gb106, 2, none⟩ = some (.slice A105_2 ((rd_T44 ((rd_T33 l0_0 x4_1).f2) x5_2).f1.f1).length c105_2) := (blk_cell BK106.out 2).trans rfl
                   have hcz40_3 : wr.cell? ⟨gb106, 3, none⟩ = some (.bool ((rd_T44 ((rd_T33 l0_0 x4_1).f2) x5_2).f1.f2)) := (blk_cell BK106.out 3).trans rfl
                   have hcz40_4 : wr.cell? ⟨gb106, 4, none⟩ = some (.bool ((rd_T44 ((rd_T33 l0_0 x4_1).f2) x5_2).f1.f3)) := (blk_cell BK106.out 4).trans rfl
                   have hcz40_5 : wr.cell? ⟨gb106, 5, none⟩ = some (.slice A105_5 ((rd_T44 ((rd_T33 l0_0 x4_1).f2) x5_2).f2).length c105_5) := (blk_cell BK106.out 5).trans rfl
                   have hcz40_6 : wr.cell? ⟨gb106, 6, none⟩ = some (.int .i64 ((rd_T44 ((rd_T33 l0_0 x4_1).f2) x5_2).f3.f0)) := (blk_cell BK106.out 6).trans rfl
                   have hcz40_7 : wr.cell? ⟨gb106, 7, none⟩ = some (.int .i64 ((rd_T44 ((rd_T33 l0_0 x4_1).f2) x5_2).f3.f1)) := (blk_cell BK106.out 7).trans rfl
                   have hcz40_8 : wr.cell? ⟨gb106, 8, none⟩ = some (.int .i64 ((rd_T44 ((rd_T33 l0_0 x4_1).f2) x5_2).f3.f2)) := (blk_cell BK106.out 8).trans rfl
                   have hcz40_9 : wr.cell? ⟨gb106, 9, none⟩ = some (.int .i64 ((rd_T44 ((rd_T33 l0_0 x4_1).f2) x5_2).f3.f3)) := (blk_cell BK106.out 9).trans rfl
                   have hcz40_10 : wr.cell? ⟨gb106, 10, none⟩ = some (.slice A105_10 ((rd_T44 ((rd_T33 l0_0 x4_1).f2) x5_2).f3.f4).length c105_10) := (blk_cell BK106.out 10).trans rfl
                   have hcz40_11 : wr.cell? ⟨gb106, 11, none⟩ = some (.int .i64 ((rd_T44 ((rd_T33 l0_0 x4_1).f2) x5_2).f3.f5)) := (blk_cell BK106.out 11).trans rfl
                   have hcz40_12 : wr.cell? ⟨gb106, 12, none⟩ = some (.int .i64 ((rd_T44 ((rd_T33 l0_0 x4_1).f2) x5_2).f3.f6)) := (blk_cell BK106.out 12).trans rfl
                   have hcz40_13 : wr.cell? ⟨gb106, 13, none⟩ = some (.int .i64 ((rd_T44 ((rd_T33 l0_0 x4_1).f2) x5_2).f3.f7)) := (blk_cell BK106.out 13).trans rfl
                   have hfz40_0 := blk_frozen BK106.out 0
                   have hfz40_1 := blk_frozen BK106.out 1
                   have hfz40_2 := blk_frozen BK106.out 2
                   have hfz40_3 := blk_frozen BK106.out 3
                   have hfz40_4 := blk_frozen BK106.out 4
                   have hfz40_5 := blk_frozen BK106.out 5
                   have hfz40_6 := blk_frozen BK106.out 6
                   have hfz40_7 := blk_frozen BK106.out 7
                   have hfz40_8 := blk_frozen BK106.out 8
                   have hfz40_9 := blk_frozen BK106.out 9
                   have hfz40_10 := blk_frozen BK106.out 10
                   have hfz40_11 := blk_frozen BK106.out 11
                   have hfz40_12 := blk_frozen BK106.out 12
                   have hfz40_13 := blk_frozen BK106.out 13
                   go_wp2
                   go_roundg k4
                   case measure => have := HK1.out; have := HK2.out; have := HJ15.out; have := HK4.out; omega
                   case rel => exact ⟨((wrap64 (x3_2 + (((rd_T44 ((rd_T33 l0_0 x4_1).f2) x5_2).f2).length : Int)))), (wrap64 (x5_2 + 1)), (by first | rfl | (simp; done) | (simp [*]; done)), (by first | rfl | (simp; done) | (simp [*]; done)), H', ⟨by have := HK1.out; have := HK2.out; have := HJ15.out; have := HK4.out; omega⟩, ⟨by (with_reducible repeat (first | refine blk_drewN ?_ _ | refine blk_drew ?_ | refine blk_alloc ?_ _)); exact BK101.out⟩, ⟨by repeat (first | (with_reducible first | exact HB.out | apply below_alloc | apply pw_below_drewN | apply below_drew1 | refine below_set ?_ GE101.out | refine below_set ?_ GE106.out) | exact HB.out)⟩⟩
            ·rw [if_neg c15] at H
             exact absurd H (by simp)
           ·rw [if_neg c14] at H
            have c14b0 : decide (x5_2 < (((rd_T33 l0_0 x4_1).f2).length : Int)) = false := decide_eq_false c14
            clear c14
            have H' := Aside0.mk H
            clear H
            have hcz41_0 : wr.cell? ⟨gb101, 0, none⟩ = some (.slice (some ad102) l0_0.length c0_0) := (blk_cell BK101.out 0).trans rfl
            have hfz41_0 := blk_frozen BK101.out 0
            have p103 : 0 ≤ (x4_1 : Int) := of_decide_eq_true (by first | (with_reducible assumption) | assumption)
            have q103 : x4_1 < (l0_0.length : Int) := of_decide_eq_true (by first | (with_reducible assumption) | assumption)
            obtain ⟨ad103, A103_2, c103_2, e103, hx103_0, hx103_1, hx103_2, hl103_2, hi103_2⟩ := at_T33 HR0_0.out x4_1 p103 q103
            obtain rfl : ad102 = ad103 := (by injection e103)
            replace hx103_0 := (HB.out.cell (World.block_lt_of_cell? w _ hx103_0)).trans hx103_0
            replace hx103_1 := (HB.out.cell (World.block_lt_of_cell? w _ hx103_1)).trans hx103_1
            replace hx103_2 := (HB.out.cell (World.block_lt_of_cell? w _ hx103_2)).trans hx103_2
            have HR103_2 := Aside0.mk hi103_2
            have HC103_2 := Aside0.mk hl103_2
            clear hi103_2 hl103_2
            replace p103 := eq_true p103
            replace q103 := eq_true q103
            go_wp2
            go_roundg k2
            case measure => have := HK1.out; have := HK2.out; omega
            case rel => exact ⟨(x3_2), (wrap64 (x4_1 + 1)), (by first | rfl | (simp; done) | (simp [*]; done)), (by first | rfl | (simp; done) | (simp [*]; done)), H', ⟨by have := HK1.out; have := HK2.out; omega⟩, ⟨by (with_reducible repeat (first | refine blk_drewN ?_ _ | refine blk_drew ?_ | refine blk_alloc ?_ _)); exact BK101.out⟩, ⟨by repeat (first | (with_reducible first | exact HB.out | apply below_alloc | apply pw_below_drewN | apply below_drew1 | refine below_set ?_ GE101.out) | exact HB.out)⟩⟩
          ·rw [if_neg c13] at H
           exact absurd H (by simp)
         ·rw [if_neg c12] at H
          exact absurd H (by simp)
     ·rw [if_neg c8] at H
      exact absurd H (by simp)
    ·rw [if_neg c7] at H
     have c7b0 : decide (x4_1 < (l0_0.length : Int)) = false := decide_eq_false c7
     clear c7
     obtain rfl := Option.some.inj H
     have hcz42_0 : wr.cell? ⟨gb101, 0, none⟩ = some (.slice A0_0 l0_0.length c0_0) := (blk_cell BK101.out 0).trans rfl
     have hfz42_0 := blk_frozen BK101.out 0
     go_wp2
     go_ret
     exact ⟨by first | rfl | (simp [errW_none, errW_some] <;> rfl) | (simp [*, errW_none, errW_some] <;> rfl), by repeat (first | (with_reducible first | exact HB.out | apply below_alloc | apply pw_below_drewN | apply below_drew1 | refine below_set ?_ GE101.out) | exact HB.out)⟩
end
end Go.Proofs.Ytjjcnbfmmhokeaa.X
namespace Go.Proofs.Ytjjcnbfmmhokeaa.X
open Go.RowKit Go.Proofs.YtjjcnbfmmhokeaaW.PrintWords Go.Proofs.YtjjcnbfmmhokeaaW.PrintLast Go.Proofs.YtjjcnbfmmhokeaaW.PrintMore
set_option linter.all false
def PredI (g : FuncId) (lb : Array Value) (p : Int → Bool) (l : List Int) (w : World) (row : Option Nat) : Prop :=
 ∀ x ∈ l, ∀ W : World, w.grownBy W row → Calls Try.prog g (#[.int .i64 x] ++ lb) W fun e w' => e = .returned (.bool (p x)) ∧ Below W.heap.size W w'
def idxF {α : Type} (p : α → Bool) : List α → Int → Int
 | [], _ => -1
 | x :: l, i => if p x = true then i else idxF p l (i + 1)
theorem idxF_hit {α : Type} (p : α → Bool) (z : α) : ∀ (l : List α) (i : Int) (k : Nat), k < l.length → (∀ j, j < k → p (l.getD j z) = false) → p (l.getD k z) = true → idxF p l i = i + k
 | [], _, _, h, _, _ => absurd h (Nat.not_lt_zero _)
 | x :: l, i, 0, _, _, hp => by simp at hp; simp [idxF, hp]
 | x :: l, i, k + 1, h, hj, hp => by
  have h0 : p x = false := by simpa using hj 0 (by omega)
  have := idxF_hit p z l (i + 1) k (by simpa using h) (fun j hj' => by simpa using hj (j + 1) (by omega)) (by simpa using hp)
  simp only [idxF, h0, Bool.false_eq_true, if_false, this]
  omega
theorem idxF_miss {α : Type} (p : α → Bool) (z : α) : ∀ (l : List α) (i : Int), (∀ j, j < l.length → p (l.getD j z) = false) → idxF p l i = -1
 | [], _, _ => rfl
 | x :: l, i, h => by
  have h0 : p x = false := by simpa using h 0 (by simp)
  simp only [idxF, h0, Bool.false_eq_true, if_false]
  exact idxF_miss p z l (i + 1) (fun j hj => by simpa using h (j + 1) (by simpa using hj))
theorem getD_mem {α : Type} (l : List α) (k : Nat) (z : α) (h : k < l.length) : l.getD k z ∈ l := by
 rw [List.getD_eq_getElem?_getD, List.getElem?_eq_getElem h]
 exact List.getElem_mem h
theorem wrap64_small (n : Int) (h0 : -9223372036854775808 ≤ n) (h1 : n ≤ 9223372036854775807) : wrap64 n = n := by unfold wrap64; omega
set_option maxHeartbeats 2000000 in
theorem sl_IndexFunc_int (A0 : Option Addr) (c0 : Nat) (l0 : List Int) (g : Nat) (lb : Array Value) (p : Int → Bool) (row : Option Nat) (w : World) (eg : ∀ args w, (callFunc g args).run Try.prog w = .ok (.enter g args) w)
  (hr0 : Kd.C (Kd.int .i64) w A0 l0.length l0) (hc0 : l0.length ≤ c0) (hp : PredI g lb p l0 w row) :
  Calls Try.prog 27 #[.slice A0 l0.length c0, .func (.func g) #[] lb] w fun e w' => e = .returned (.int .i64 (idxF p l0 0)) ∧ Below w.heap.size w w' := by
 have HR0 := Aside0.mk hr0
 have HP := Aside0.mk hp
 have hm := hr0.2.1
 clear hr0 hp
 go_enter Try.func27, Try.ntmps27
 go_wp2
 go_loopg [5, 8] l0.length (fun gg _ s8 wr => ∃ x : Int, s8 = .int .i64 x ∧ Aside0 (0 ≤ x ∧ x ≤ l0.length ∧ l0.length - x ≤ gg) ∧ Aside0 (Below w.heap.size w wr) ∧ Aside0 (∀ j : Nat, (j : Int) < x → p (l0.getD j 0) = false))
 case atStart => exact ⟨0, rfl, ⟨by omega⟩, ⟨Below.refl _ _⟩, ⟨fun j hj => by omega⟩⟩
 case round =>
  obtain ⟨x, rfl, HX, HB, HA⟩ := hrel
  obtain ⟨hx0, hx1, hg⟩ := HX.out
  by_cases hlt : x < (l0.length : Int)
  ·have hd : decide (x < (l0.length : Int)) = true := decide_eq_true hlt
   obtain ⟨ad, e1, hx⟩ := Kd.at_int (Kd.C_below HR0.out HB.out) x hx0 hlt
   cases e1
   have HK := Aside0.mk (show ((x.toNat : Nat) : Int) = x ∧ x.toNat < l0.length by omega)
   have hcall := HP.out (rd l0 x) (getD_mem l0 _ 0 HK.out.2) wr (grown_of_below HB.out row)
   have p0 := eq_true hx0
   have q0 := eq_true hlt
   clear hx0 hlt hx1 hg
   cases hq : p (rd l0 x) with
   | true =>
    rw [hq] at hcall
    have HC := Aside0.mk hcall
    have HQ := Aside0.mk hq
    clear hcall hq
    go_wp2_with (go_at_fn g; refine HC.out.mono ?_; rintro e w' ⟨rfl, hb⟩; have HB2 := Aside0.mk (below_step HB.out hb); clear hb)
    go_ret
    refine ⟨?_, HB2.out⟩
    have := idxF_hit p 0 l0 0 x.toNat HK.out.2 (fun j hj => HA.out j (by have := HK.out.1; omega)) HQ.out
    rw [this, HK.out.1, Int.zero_add]
    rfl
   | false =>
    rw [hq] at hcall
    have HC := Aside0.mk hcall
    have HQ := Aside0.mk hq
    clear hcall hq
    go_wp2_with (go_at_fn g; refine HC.out.mono ?_; rintro e w' ⟨rfl, hb⟩; have HB2 := Aside0.mk (below_step HB.out hb); clear hb)
    go_roundg (l0.length - (x.toNat + 1))
    case measure => have := HK.out; have := HX.out; omega
    case rel =>
     refine ⟨_, rfl, ⟨?_⟩, HB2, ⟨fun j hj => ?_⟩⟩
     ·rw [wrap64_small _ (by have := HK.out; omega) (by have := HK.out; omega)]
      have := HK.out; have := HX.out; omega
     ·rw [wrap64_small _ (by have := HK.out; omega) (by have := HK.out; omega)] at hj
      by_cases e : j = x.toNat
      ·subst e
       exact HQ.out
      ·exact HA.out j (by have := HK.out; omega)
  ·have hd : decide (x < (l0.length : Int)) = false := decide_eq_false hlt
   have HK := Aside0.mk (show x = l0.length by omega)
   clear hx0 hlt hx1 hg
   go_wp2
   go_ret
   refine ⟨?_, HB.out⟩
   rw [idxF_miss p 0 l0 0 (fun j hj => HA.out j (by have := HK.out; omega))]
   rfl
theorem idxF_spec {α : Type} (p : α → Bool) (z : α) (l : List α) : (idxF p l 0 = -1 ∧ ∀ j, j < l.length → p (l.getD j z) = false) ∨ ∃ k : Nat, k < l.length ∧ idxF p l 0 = k ∧ p (l.getD k z) = true ∧ ∀ j, j < k → p (l.getD j z) = false := by
 by_cases h : ∃ k, k < l.length ∧ p (l.getD k z) = true
 ·obtain ⟨k, ⟨hk, hp⟩, hmin⟩ := exists_least h
  have hlow : ∀ j, j < k → p (l.getD j z) = false := fun j hj => by
   cases hq : p (l.getD j z) with
   | false => rfl
   | true => have := hmin j ⟨by omega, hq⟩; omega
  exact .inr ⟨k, hk, by rw [idxF_hit p z l 0 k hk hlow hp, Int.zero_add], hp, hlow⟩
 ·have hall : ∀ j, j < l.length → p (l.getD j z) = false := fun j hj => by
   cases hq : p (l.getD j z) with
   | false => rfl
   | true => exact absurd ⟨j, hj, hq⟩ h
  exact .inl ⟨idxF_miss p z l 0 hall, hall⟩
theorem R_tail {α : Type} {d : Kd α} {e base g n cap : Nat} {ok : Nat → Prop} {W : World} {xs : List α} (h : d.R e W base ok (.slice (some ⟨g, 0, none⟩) n cap) xs) (i off : Nat) (hi : i ≤ n) (seg : List Value) (ho : i * d.sz ≤ off) (hfit : off + seg.length ≤ n * d.sz) :
  d.R e (W.setCells g off seg) base ok (.slice (some ⟨g, 0, none⟩) i cap) (xs.take i) ∧ W.grownBy (W.setCells g off seg) (some g) := by
 obtain ⟨hn, hnc, _⟩ := Kd.R_reads' h
 have h2 := Kd.R_take h (m := i) (by omega)
 obtain ⟨hok, inner, hw, hr⟩ := h2
 obtain ⟨_, inner0, hw0, _⟩ := h
 obtain ⟨s1, s2, s3, s4⟩ := setCells_same g seg off W
 have hfar : ∀ k, k ≠ g → (W.setCells g off seg).heap[k]? = W.heap[k]? := fun k hk => setCells_far seg _ k hk
 have hlen : (xs.take i).length = i := by rw [List.length_take]; omega
 refine ⟨⟨hok, inner, ?_, ?_⟩, ⟨s1, s2, s3, by rw [s4]; exact Nat.le_refl _, fun k _ hk => hfar k (fun he => hk (by rw [he]))⟩⟩
 ·obtain ⟨ho1, ho2⟩ := hw
  obtain ⟨_, hw02⟩ := hw0
  rcases hw02 with ⟨hv, _⟩ | ⟨g', cap', cur, hv, hb, hh, hnc', hcm, hcs, ht⟩
  ·cases hv
  injection hv with ha _ hc
  injection ha with ha
  injection ha with hg
  subst hg; subst hc
  have hfit2 : off + seg.length ≤ cur.size := by
   have : n * d.sz ≤ cap * d.sz := Nat.mul_le_mul_right _ hnc
   omega
  obtain ⟨cur', h3, h4, h5⟩ := setCells_row seg off W cur hh hfit2
  rcases ho2 with ⟨hv, _⟩ | ⟨g2, cap2, cur2, hv, hb2, hh2, _, _, _, ht2⟩
  ·cases hv
  injection hv with ha _ hc
  injection ha with ha
  injection ha with hg
  subst hg
  have : cur2 = cur := by rw [hh] at hh2; injection hh2 with hh2; injection hh2 with hh2; exact hh2.symm
  subst this
  refine ⟨ho1, .inr ⟨g, cap, cur', by rw [hlen], hb, h3, by rw [hlen]; omega, hcm, by rw [h4, hcs], ?_⟩⟩
  rw [← ht2]
  apply List.ext_getElem?
  intro q
  rw [List.getElem?_take, List.getElem?_take]
  by_cases hq : q < (xs.take i).length * d.sz
  ·rw [if_pos hq, if_pos hq, h5, seg_get cur2.toList seg off (by rw [Array.length_toList]; omega) q, if_pos (by rw [hlen] at hq; omega)]
  ·rw [if_neg hq, if_neg hq]
 ·exact hr.imp_ (fun p c hp => d.M_move (fun k hk => hfar k (fun he => hk.2 (by rw [he]; simp [Value.ownBlock]))) hp)
theorem filter_all {α : Type} (p : α → Bool) (z : α) (l : List α) (h : ∀ j, j < l.length → p (l.getD j z) = false) : l.filter (fun x => !p x) = l := by
 apply List.filter_eq_self.2
 intro x hx
 obtain ⟨j, hj, rfl⟩ := List.getElem_of_mem hx
 have := h j hj
 rw [List.getD_eq_getElem?_getD, List.getElem?_eq_getElem hj] at this
 simpa using this
structure KeptI {α : Type} (p : α → Bool) (l d : List α) (i j : Nat) : Prop where
 len : d.length = l.length
 lo : d.take i = (l.take j).filter (fun x => !p x)
 hi : d.drop j = l.drop j
 lt : i < j
 le : j ≤ l.length
theorem take_one {α : Type} (l : List α) (j : Nat) (z : α) (h : j < l.length) : l.take (j + 1) = l.take j ++ [l.getD j z] := by
 rw [List.take_succ_eq_append_getElem h, List.getD_eq_getElem?_getD, List.getElem?_eq_getElem h]
 rfl
theorem KeptI.start {α : Type} {p : α → Bool} (z : α) {l : List α} {k : Nat} (hk : k < l.length) (hp : p (l.getD k z) = true) (hlow : ∀ j, j < k → p (l.getD j z) = false) : KeptI p l l k (k + 1) := by
 refine ⟨rfl, ?_, rfl, by omega, by omega⟩
 rw [take_one l k z hk, List.filter_append, filter_all p z (l.take k) (fun j hj => by
  rw [List.length_take] at hj
  rw [List.getD_eq_getElem?_getD, List.getElem?_take, if_pos (by omega), ← List.getD_eq_getElem?_getD]
  exact hlow j (by omega))]
 simp only [List.filter_cons, List.filter_nil, hp, Bool.not_true, Bool.false_eq_true, if_false, List.append_nil]
theorem KeptI.same {α : Type} {p : α → Bool} {l d : List α} {i j : Nat} (h : KeptI p l d i j) (z : α) (hj : j < l.length) : d.getD j z = l.getD j z := by
 have := congrArg (fun x => x.getD 0 z) h.hi
 simpa [List.getD_eq_getElem?_getD] using this
theorem KeptI.skip {α : Type} {p : α → Bool} {l d : List α} {i j : Nat} (h : KeptI p l d i j) (z : α) (hj : j < l.length) (hp : p (l.getD j z) = true) : KeptI p l d i (j + 1) := by
 refine ⟨h.len, ?_, ?_, by have := h.lt; omega, hj⟩
 ·rw [take_one l j z hj, List.filter_append, ← h.lo]
  simp only [List.filter_cons, List.filter_nil, hp, Bool.not_true, Bool.false_eq_true, if_false, List.append_nil]
 ·rw [← List.drop_drop, ← List.drop_drop, h.hi]
theorem KeptI.keep {α : Type} {p : α → Bool} {l d : List α} {i j : Nat} (h : KeptI p l d i j) (z : α) (hj : j < l.length) (hp : p (l.getD j z) = false) : KeptI p l (d.set i (l.getD j z)) (i + 1) (j + 1) := by
 have hij := h.lt
 have hl := h.len
 refine ⟨by rw [List.length_set, h.len], ?_, ?_, by omega, hj⟩
 ·rw [take_one _ i z (by rw [List.length_set]; omega), take_one l j z hj, List.filter_append, ← h.lo]
  have e1 : (d.set i (l.getD j z)).take i = d.take i := List.take_set_of_le (Nat.le_refl i)
  have e2 : (d.set i (l.getD j z)).getD i z = l.getD j z := by
   rw [List.getD_eq_getElem?_getD, List.getElem?_set_self (by omega)]; rfl
  rw [e1, e2]
  simp only [List.filter_cons, List.filter_nil, hp, Bool.not_false, if_true]
 ·rw [← List.drop_drop, ← List.drop_drop, ← h.hi, List.drop_set_of_lt hij]
theorem KeptI.done {α : Type} {p : α → Bool} {l d : List α} {i : Nat} (h : KeptI p l d i l.length) : d.take i = l.filter (fun x => !p x) := by
 rw [h.lo, List.take_length]
set_option maxHeartbeats 4000000 in
set_option maxRecDepth 100000 in
theorem sl_DeleteFunc_int (v : Value) (l0 : List Int) (base : Nat) (ok : Nat → Prop) (g : Nat) (lb : Array Value) (p : Int → Bool) (w : World) (eg : ∀ args w, (callFunc g args).run Try.prog w = .ok (.enter g args) w)
  (ho : Kd.R (Kd.int .i64) 3 w base ok v l0) (hp : PredI g lb p l0 w v.ownBlock) :
  Calls Try.prog 21 #[v, .func (.func g) #[] lb] w fun e w' => ∃ v' : Value, e = .returned v' ∧ Kd.R (Kd.int .i64) 3 w' base ok v' (l0.filter fun x => !p x) ∧ w.grownBy w' v.ownBlock ∧ v'.ownBlock = v.ownBlock := by
 obtain ⟨A, c, rfl, hc, hC⟩ := Kd.R_reads ho
 have hIF := Aside0.mk (sl_IndexFunc_int A c l0 g lb p _ w eg hC hc hp)
 have HO := Aside0.mk ho
 have HP := Aside0.mk hp
 have hm := hC.2.1
 clear ho hp hC
 rcases idxF_spec p 0 l0 with ⟨e1, hall⟩ | ⟨k0, hk0, e1, ht, hlow⟩
 ·have HF := Aside0.mk (filter_all p 0 l0 hall)
  rw [e1] at hIF
  clear hall e1
  go_enter Try.func21, Try.ntmps21
  go_wp2_with (go_at_call 27; refine hIF.out.mono ?_; rintro e w' ⟨rfl, hb⟩; have HB := Aside0.mk hb; clear hb)
  go_ret
  exact ⟨_, rfl, by rw [HF.out]; exact Kd.R_below HO.out HB.out, grown_of_below HB.out _, rfl⟩
 ·rw [e1] at hIF
  obtain ⟨go, co, eo, gb, gl, cl, hg0⟩ := Kd.R_form HO.out (by omega)
  injection eo with ea _ ec
  subst ea; subst ec
  have HK := Aside0.mk (KeptI.start 0 hk0 ht hlow)
  clear ht hlow e1 gb gl hg0
  have hne1 : ((k0 : Int) == -1) = false := beq_eq_false_iff_ne.2 (by omega)
  go_enter Try.func21, Try.ntmps21
  go_wp2_with (go_at_call 27; refine hIF.out.mono ?_; rintro e w' ⟨rfl, hb⟩; have HB := Aside0.mk hb; clear hb)
  go_loopg [5, 6] l0.length (fun gg s5 s6 wr => ∃ (i j : Nat) (d : List Int), s5 = .int .i64 i ∧ s6 = .int .i64 j ∧ l0.length - j ≤ gg ∧ Aside0 (KeptI p l0 d i j) ∧ Aside0 (Kd.R (Kd.int .i64) 3 wr base ok (.slice (some ⟨go, 0, none⟩) l0.length c) d) ∧ Aside0 (w.grownBy wr (some go)))
  case atStart => exact ⟨k0, k0 + 1, l0, rfl, by go_num, by omega, HK, ⟨Kd.R_below HO.out HB.out⟩, ⟨grown_of_below HB.out _⟩⟩
  case round =>
   obtain ⟨i, j, d, rfl, rfl, hgg, HK, HR, HG⟩ := hrel
   have hij := HK.out.lt
   have hjl := HK.out.le
   by_cases hlt : j < l0.length
   ·have hltz : (j : Int) < (l0.length : Int) := by omega
    obtain ⟨hxj, _⟩ := Kd.R_celln (0 : Int) HR.out (j : Int) (by omega) (by omega)
    have hcall := HP.out (l0.getD j 0) (getD_mem l0 j 0 hlt) wr HG.out
    rw [show rdOf (0 : Int) d (j : Int) = l0.getD j 0 from HK.out.same 0 hlt, Int.toNat_natCast] at hxj
    obtain ⟨u, HU⟩ : ∃ u, Aside0 (l0.getD j 0 = u) := ⟨_, ⟨rfl⟩⟩
    rw [HU.out] at hxj hcall
    cases hq : p u with
    | false =>
     rw [hq] at hcall
     have HC := Aside0.mk hcall
     have HQ := Aside0.mk hq
     clear hcall hq
     go_wp2_with (go_at_fn g; refine HC.out.mono ?_; rintro e w' ⟨rfl, hb⟩; have HB2 := Aside0.mk hb; clear hb; obtain ⟨hxi, hfi⟩ := Kd.R_celln (0 : Int) (Kd.R_below HR.out HB2.out) (i : Int) (by omega) (by omega); rw [Int.toNat_natCast] at hxi hfi)
     go_roundg (l0.length - (j + 1))
     case measure => omega
     case rel =>
      have hput := Kd.R_putg (Kd.R_below HR.out HB2.out) (i : Int) u
      rw [Int.toNat_natCast] at hput
      refine ⟨i + 1, j + 1, d.set i u, by go_num, by go_num, Nat.le_refl _, ⟨by have := HK.out.keep 0 hlt (by rw [HU.out]; exact HQ.out); rwa [HU.out] at this⟩, ⟨hput.1⟩, ⟨?_⟩⟩
      exact (HG.out.trans (grown_of_below HB2.out (some go))).trans hput.2
    | true =>
     rw [hq] at hcall
     have HC := Aside0.mk hcall
     have HQ := Aside0.mk hq
     clear hcall hq
     go_wp2_with (go_at_fn g; refine HC.out.mono ?_; rintro e w' ⟨rfl, hb⟩; have HB2 := Aside0.mk hb; clear hb)
     go_roundg (l0.length - (j + 1))
     case measure => omega
     case rel => exact ⟨i, j + 1, d, rfl, by go_num, Nat.le_refl _, ⟨HK.out.skip 0 hlt (by rw [HU.out]; exact HQ.out)⟩, ⟨Kd.R_below HR.out HB2.out⟩, ⟨HG.out.trans (grown_of_below HB2.out (some go))⟩⟩
   ·obtain rfl : j = l0.length := by omega
    have hltz : ¬ (l0.length : Int) < (l0.length : Int) := by omega
    have hcl : ∀ ty, (Builtin.clear_ #[29] ty #[.slice (some ⟨go, i, none⟩) (l0.length - i) (c - i)]).run Try.prog wr = .ok (.tuple #[]) (wr.setCells go i (List.replicate (l0.length - i) (.int .i64 0))) :=
     fun ty => Lib.run_clear_slice wr 29 3 ty (.int .i64 0) Try.underlying29 (fun w => by kernel_rfl) rfl rfl go i _ _ (by omega) (fun t ht => by
      obtain ⟨h1, _⟩ := Kd.R_celln (0 : Int) HR.out ((i + t : Nat) : Int) (by omega) (by omega)
      rw [Int.toNat_natCast] at h1; rw [h1]; rfl) (fun t ht => by
      obtain ⟨_, h1⟩ := Kd.R_celln (0 : Int) HR.out ((i + t : Nat) : Int) (by omega) (by omega)
      rw [Int.toNat_natCast] at h1; exact h1)
    go_wp2
    go_ret
    have ht := R_tail HR.out i i (by omega) (List.replicate (l0.length - i) (.int .i64 0)) (by show i * 1 ≤ i; omega) (by rw [List.length_replicate]; show _ ≤ l0.length * 1; omega)
    rw [HK.out.done] at ht
    exact ⟨_, rfl, ht.1, HG.out.trans ht.2, rfl⟩
end Go.Proofs.Ytjjcnbfmmhokeaa.X
namespace Go.Proofs
open Go.Shelf
def Try.lays189_ren : Go.Shelf.Ren := ⟨fun | 189 => 23 | 125 => 29 | 257 => 28 | 128 => 39 | 129 => 40 | 294 => 30 | 295 => 31 | 296 => 32 | 297 => 33 | 298 => 34 | 299 => 35 | 216 => 36 | 300 => 37 | 301 => 38 | 328 => 41 | 329 => 42 | 330 => 43 | 331 => 44 | 332 => 45 | 215 => 46 | 343 => 47 | n => n, fun | 28 => 29 | 3 => 3 | 46 => 64 | 0 => 0 | 51 => 75 | 53 => 77 | 4 => 4 | 183 => 67 | 182 => 66 | 131 => 72 | 5 => 5 | 9 => 9 | 218 => 78 | 222 => 82 | 228 => 84 | 229 => 85 | n => n, fun | n => n⟩
theorem Try.lays189 : Go.Proofs.Lays.n189 Try.prog Try.lays189_ren := {
 mixed := by kernel_rfl
 f125 := Try.func29.trans (congrArg some (by kernel_rfl))
 f128 := Try.func39.trans (congrArg some (by kernel_rfl))
 f129 := Try.func40.trans (congrArg some (by kernel_rfl))
 f189 := Try.func23.trans (congrArg some (by kernel_rfl))
 f215 := Try.func46.trans (congrArg some (by kernel_rfl))
 f216 := Try.func36.trans (congrArg some (by kernel_rfl))
 f257 := Try.func28.trans (congrArg some (by kernel_rfl))
 f294 := Try.func30.trans (congrArg some (by kernel_rfl))
 f295 := Try.func31.trans (congrArg some (by kernel_rfl))
 f296 := Try.func32.trans (congrArg some (by kernel_rfl))
 f297 := Try.func33.trans (congrArg some (by kernel_rfl))
 f298 := Try.func34.trans (congrArg some (by kernel_rfl))
 f299 := Try.func35.trans (congrArg some (by kernel_rfl))
 f300 := Try.func37.trans (congrArg some (by kernel_rfl))
 f301 := Try.func38.trans (congrArg some (by kernel_rfl))
 f328 := Try.func41.trans (congrArg some (by kernel_rfl))
 f329 := Try.func42.trans (congrArg some (by kernel_rfl))
 f330 := Try.func43.trans (congrArg some (by kernel_rfl))
 f331 := Try.func44.trans (congrArg some (by kernel_rfl))
 f332 := Try.func45.trans (congrArg some (by kernel_rfl))
 f343 := Try.func47.trans (congrArg some (by kernel_rfl))
 t0 := Try.underlying0
 a0 := Try.isAgg0
 z0 := Try.sizeOf0
 v0 := Try.zeroValue0
 t3 := Try.underlying3
 a3 := Try.isAgg3
 z3 := Try.sizeOf3
 v3 := Try.zeroValue3
 t4 := Try.underlying4
 a4 := Try.isAgg4
 z4 := Try.sizeOf4
 v4 := Try.zeroValue4
 t5 := Try.underlying5
 a5 := Try.isAgg5
 z5 := Try.sizeOf5
 v5 := Try.zeroValue5
 t9 := Try.underlying9
 a9 := Try.isAgg9
 z9 := Try.sizeOf9
 v9 := Try.zeroValue9
 t28 := Try.underlying29
 a28 := Try.isAgg29
 z28 := Try.sizeOf29
 v28 := Try.zeroValue29
 t46 := Try.underlying64
 a46 := Try.isAgg64
 z46 := Try.sizeOf64
 v46 := Try.zeroValue64
 t51 := Try.underlying75
 a51 := Try.isAgg75
 z51 := Try.sizeOf75
 v51 := Try.zeroValue75
 t53 := Try.underlying77
 a53 := Try.isAgg77
 z53 := Try.sizeOf77
 v53 := Try.zeroValue77
 t131 := Try.underlying72
 a131 := Try.isAgg72
 z131 := Try.sizeOf72
 v131 := Try.zeroValue72
 t182 := Try.underlying66
 a182 := Try.isAgg66
 z182 := Try.sizeOf66
 v182 := Try.zeroValue66
 t183 := Try.underlying67
 a183 := Try.isAgg67
 z183 := Try.sizeOf67
 v183 := Try.zeroValue67
 t218 := Try.underlying78
 a218 := Try.isAgg78
 z218 := Try.sizeOf78
 v218 := Try.zeroValue78
 t222 := Try.underlying82
 a222 := Try.isAgg82
 z222 := Try.sizeOf82
 v222 := Try.zeroValue82
 t228 := Try.underlying84
 a228 := Try.isAgg84
 z228 := Try.sizeOf84
 v228 := Try.zeroValue84
 t229 := Try.underlying85
 a229 := Try.isAgg85
 z229 := Try.sizeOf85
 v229 := Try.zeroValue85 }
open Go.Sort Go.RowKit in
theorem Try.slices_Sort_int (blk off cap : Nat) (zs : List Int) (w : World) (hH : Holds (Value.int .i64) w blk off zs.toArray) (hblk : blk < w.heap.size) (hsz : zs.length < 4611686018427387904) :
  Calls Try.prog 23 #[.slice (some ⟨blk, off, none⟩) zs.length cap] w fun e w' =>
   e = .returned (.tuple #[]) ∧ ∃ n os, w' = grow (putRow (Value.int .i64) (Sort.ahead w n) blk off (zs.mergeSort fun x y => decide (x ≤ y)).toArray) os := Any.slices_Sort_int Try.lays189 blk off cap zs w hH hblk hsz
def Try.laysNm220_ren : Go.Shelf.Ren := ⟨fun | 20 => 24 | n => n, fun | 22 => 29 | 3 => 3 | 4 => 4 | 0 => 0 | n => n, fun | n => n⟩
theorem Try.laysNm220 : Go.Proofs.Lays2.n20 Try.prog Try.laysNm220_ren := {
 mixed := by kernel_rfl
 f20 := Try.func24.trans (congrArg some (by kernel_rfl))
 t0 := Try.underlying0
 a0 := Try.isAgg0
 z0 := Try.sizeOf0
 v0 := Try.zeroValue0
 t3 := Try.underlying3
 a3 := Try.isAgg3
 z3 := Try.sizeOf3
 v3 := Try.zeroValue3
 t4 := Try.underlying4
 a4 := Try.isAgg4
 z4 := Try.sizeOf4
 v4 := Try.zeroValue4
 t22 := Try.underlying29
 a22 := Try.isAgg29
 z22 := Try.sizeOf29
 v22 := Try.zeroValue29
 i3 := by kernel_rfl }
open Go.RowKit Go.Lib Go.Sort in
theorem Try.slices_Compact_int (blk off cap : Nat) (zs : List Int) (w : World) (hH : Holds (Value.int .i64) w blk off zs.toArray) (hsz : zs.length ≤ 9223372036854775807) (hcap : zs.length ≤ cap) :
  Calls Try.prog 24 #[.slice (some ⟨blk, off, none⟩) zs.length cap] w fun e w' => e = .returned (.slice (some ⟨blk, off, none⟩) (Lib.compact zs).length cap) ∧ ∃ q, w' = putRow (Value.int .i64) (Sort.ahead w q) blk off (Lib.compact zs ++ List.replicate (zs.length - (Lib.compact zs).length) 0).toArray := Any.slices_Compact_int Try.laysNm220 blk off cap zs w hH hsz hcap
open Go.RowKit Go.Lib Go.Sort in
theorem Try.slices_Compact_int_empty (a : Option Addr) (cap : Nat) (w : World) :
  Calls Try.prog 24 #[.slice a 0 cap] w fun e w' => e = .returned (.slice a 0 cap) ∧ w' = w := Any.slices_Compact_int_empty Try.laysNm220 a cap w
open Go.RowKit Go.Sort in
theorem Try.slices_Sort_int_none (p : Option Addr) (cap : Nat) (w : World) :
  Calls Try.prog 23 #[.slice p 0 cap] w fun e w' => e = .returned (.tuple #[]) ∧ w' = w := Any.slices_Sort_int_none Try.lays189 p cap w
end Go.Proofs
namespace Go.Proofs.Ytjjcnbfmmhokeaa.X
open Go.Shelf Go.RowKit Go.Sort Go.Proofs.YtjjcnbfmmhokeaaW.PrintWords Go.Proofs.YtjjcnbfmmhokeaaW.PrintLast Go.Proofs.YtjjcnbfmmhokeaaW.PrintMore
set_option linter.all false
def slices_Sort_int_int.f (l0 : List Int) : Option (List Int) := if l0.length ≤ 1000000 then some (l0.mergeSort fun x y => decide (x ≤ y)) else none
def slices_Compact_int_int.f (l0 : List Int) : Option (List Int) := if l0.length ≤ 1000000 then some (Lib.compact l0) else none
theorem R_laid {W : World} {base g cap : Nat} {ok : Nat → Prop} {l ts : List Int} (h : Kd.R (Kd.int .i64) 3 W base ok (.slice (some ⟨g, 0, none⟩) l.length cap) l) (hl : ts.length = l.length) (n : Nat) (os : Array Obj) :
  Kd.R (Kd.int .i64) 3 (grow (putRow (Value.int .i64) (Sort.ahead W n) g 0 ts.toArray) os) base ok (.slice (some ⟨g, 0, none⟩) l.length cap) ts := by
 have ho := Kd.own_of_R (enc := Value.int .i64) h
 obtain ⟨_, ho2⟩ := ho
 rcases ho2 with ⟨hv, _⟩ | ⟨g', cap', cur, hv, hb, hh, hnc, hcm, hcs, ht⟩
 ·cases hv
 injection hv with ha _ hc
 injection ha with ha
 injection ha with hg
 subst hg; subst hc
 have := ownsRow_sortedI (n := n) (os := os) (ss := l) hl hb hh hnc hcm hcs
 refine Kd.R_of_own (enc := Value.int .i64) ?_ h.1
 rw [hl]
 exact this
theorem R_holds {W : World} {base g cap : Nat} {ok : Nat → Prop} {l : List Int} (h : Kd.R (Kd.int .i64) 3 W base ok (.slice (some ⟨g, 0, none⟩) l.length cap) l) : Holds (Value.int .i64) W g 0 l.toArray := by
 have ho := Kd.own_of_R (enc := Value.int .i64) h
 obtain ⟨_, ho2⟩ := ho
 rcases ho2 with ⟨hv, _⟩ | ⟨g', cap', cur, hv, hb, hh, hnc, hcm, hcs, ht⟩
 ·cases hv
 injection hv with ha _ hc
 injection ha with ha
 injection ha with hg
 subst hg
 refine holds_of_blockI hh ?_
 rw [Nat.mul_one] at ht
 exact ht
theorem slices_Sort_int_int.calls (P0_ : Nat → Prop) (u9000_ : Value) (l0 : List Int) (r : List Int) (w0 w : World) (hB : Below w0.heap.size w0 w) (ho0 : Kd.R (Kd.int .i64) 3 w w0.heap.size P0_ u9000_ l0) (h : slices_Sort_int_int.f l0 = some r) :
  Calls Try.prog 23 #[u9000_] w fun e w' => e = .returned (.tuple #[]) ∧ Kd.R (Kd.int .i64) 3 w' w0.heap.size (fun k_ => (P0_ k_ ∨ w.heap.size ≤ k_)) u9000_ r ∧ Below w0.heap.size w0 w' ∧ Kept w w' (fun k_ => P0_ k_) := by
 unfold slices_Sort_int_int.f at h
 by_cases hl : l0.length ≤ 1000000
 ·rw [if_pos hl] at h
  obtain rfl := Option.some.inj h
  by_cases h0 : l0.length = 0
  ·obtain ⟨A, c, rfl, hc, hC⟩ := Kd.R_reads ho0
   obtain rfl := List.eq_nil_of_length_eq_zero h0
   refine (Try.slices_Sort_int_none A c w).mono ?_
   rintro e w' ⟨rfl, rfl⟩
   refine ⟨rfl, ?_, hB, ⟨Nat.le_refl _, fun _ _ _ => rfl⟩⟩
   simpa using Kd.R_mono ho0 (fun k hk => .inl hk)
  ·obtain ⟨go, co, rfl, gb, gl, cl, hg⟩ := Kd.R_form ho0 (by omega)
   refine (Try.slices_Sort_int go 0 co l0 w (R_holds ho0) gl (by omega)).mono ?_
   rintro e w' ⟨rfl, n, os, rfl⟩
   have hgr := grownBy_sortedI (w := w) (g := go) (n := n) (os := os) (l0.mergeSort fun x y => decide (x ≤ y)).toArray
   refine ⟨rfl, Kd.R_mono (R_laid ho0 (List.length_mergeSort l0) n os) (fun k hk => .inl hk), hB.grown hgr hB.size (fun k hk => by injection hk with hk; omega), ⟨hgr.size, fun i hi hS => hgr.block i hi (fun he => hS ?_)⟩⟩
   injection he with he
   subst he
   exact ho0.1 i (by simp [Value.ownBlock])
 ·rw [if_neg hl] at h; cases h
theorem compact_len (l : List Int) : (Lib.compact l).length ≤ l.length := by
 unfold Lib.compact Lib.compactUpTo
 rw [List.length_map]
 exact Nat.le_trans (List.length_filter_le _ _) (by simp)
theorem slices_Compact_int_int.calls (P0_ : Nat → Prop) (u9000_ : Value) (l0 : List Int) (r : List Int) (w0 w : World) (hB : Below w0.heap.size w0 w) (ho0 : Kd.R (Kd.int .i64) 3 w w0.heap.size P0_ u9000_ l0) (h : slices_Compact_int_int.f l0 = some r) :
  Calls Try.prog 24 #[u9000_] w fun e w' => ∃ v0_ : Value, e = .returned v0_ ∧ Kd.R (Kd.int .i64) 3 w' w0.heap.size (fun k_ => (P0_ k_ ∨ w.heap.size ≤ k_)) v0_ r ∧ Below w0.heap.size w0 w' ∧ Kept w w' (fun k_ => P0_ k_) := by
 unfold slices_Compact_int_int.f at h
 by_cases hl : l0.length ≤ 1000000
 ·rw [if_pos hl] at h
  obtain rfl := Option.some.inj h
  by_cases h0 : l0.length = 0
  ·obtain ⟨A, c, rfl, hc, hC⟩ := Kd.R_reads ho0
   obtain rfl := List.eq_nil_of_length_eq_zero h0
   refine (Try.slices_Compact_int_empty A c w).mono ?_
   rintro e w' ⟨rfl, rfl⟩
   refine ⟨_, rfl, ?_, hB, ⟨Nat.le_refl _, fun _ _ _ => rfl⟩⟩
   exact Kd.R_mono ho0 (fun k hk => .inl hk)
  ·obtain ⟨go, co, rfl, gb, gl, cl, hg⟩ := Kd.R_form ho0 (by omega)
   refine (Try.slices_Compact_int go 0 co l0 w (R_holds ho0) (by omega) (Kd.R_reads' ho0).2.1).mono ?_
   rintro e w' ⟨rfl, n, rfl⟩
   have hgr := grownBy_sortedI (w := w) (g := go) (n := n) (os := #[]) (Lib.compact l0 ++ List.replicate (l0.length - (Lib.compact l0).length) 0).toArray
   have hR := R_laid ho0 (ts := Lib.compact l0 ++ List.replicate (l0.length - (Lib.compact l0).length) 0) (by have := compact_len l0; simp; omega) n #[]
   rw [grow_empty] at hgr hR
   have hT := Kd.R_take hR (m := (Lib.compact l0).length) (by have := compact_len l0; simp)
   rw [List.take_left] at hT
   refine ⟨_, rfl, Kd.R_mono hT (fun k hk => .inl hk), hB.grown hgr hB.size (fun k hk => by injection hk with hk; omega), ⟨hgr.size, fun i hi hS => hgr.block i hi (fun he => hS ?_)⟩⟩
   injection he with he
   subst he
   exact ho0.1 i (by simp [Value.ownBlock])
 ·rw [if_neg hl] at h; cases h
end Go.Proofs.Ytjjcnbfmmhokeaa.X
namespace Go.Proofs.Ytjjcnbfmmhokeaa.X
open Go.Shelf Go.RowKit Go.Proofs.YtjjcnbfmmhokeaaW.PrintWords Go.Proofs.YtjjcnbfmmhokeaaW.PrintLast Go.Proofs.YtjjcnbfmmhokeaaW.PrintMore
set_option linter.all false
def isB (n : Nat) (k : Int) : Bool := decide (0 ≤ k) && decide (k < (n : Int))
def goIns : List S36 → List Int → Option (List Int)
 | [], out => some out
 | x :: r, out => if x.f0 = 11 then (if out.length < 1000000 then goIns r (out ++ [x.f5]) else none) else goIns r out
def goEnd (b : S44) (out : List Int) : Option (List Int) := if b.f3.f0 = 4 then (if out.length < 1000000 then some (out ++ [b.f3.f3]) else none) else some out
def goBlk : List S44 → List Int → Option (List Int)
 | [], out => some out
 | b :: r, out => (goIns b.f2 out).bind fun o => (goEnd b o).bind fun o2 => goBlk r o2
def calls_Of.f (l0_0 : List S33) (a1 : Int) : Option (List Int) :=
 if isB l0_0.length a1 = true then (goBlk (rd_T33 l0_0 a1).f2 []).bind fun o => if o.length ≤ 1000000 then some (Lib.compact ((o.filter fun k => isB l0_0.length k).mergeSort fun x y => decide (x ≤ y))) else none
 else some []
theorem of_pred (A : Option Addr) (n c : Nat) (k : Int) (g : Nat) (w : World) (hb : w.heap[g]? = some (.cells #[.slice A n c] 24 (0, 0))) :
  Calls Try.prog 22 #[.int .i64 k, .pointer (some ⟨g, 0, none⟩)] w fun e w' => e = .returned (.bool (!isB n k)) ∧ Below w.heap.size w w' := by
 have hcy0 : w.cell? ⟨g, 0, none⟩ = some (.slice A n c) := (blk_cell hb 0).trans rfl
 have hu24 := Try.underlying24
 clear hb
 by_cases h0 : k < 0
 ·have HE := Aside0.mk (show (!isB n k) = true by unfold isB; simp; omega)
  have hd : decide (k < 0) = true := decide_eq_true h0
  clear h0
  go_enter Try.func22, Try.ntmps22
  go_wp2
  go_ret
  exact ⟨by rw [HE.out]; rfl, Below.refl _ _⟩
 ·have hd : decide (k < 0) = false := decide_eq_false h0
  have HK := Aside0.mk (show ¬ k < 0 from h0)
  clear h0
  go_enter Try.func22, Try.ntmps22
  go_wp2
  go_ret
  refine ⟨?_, Below.refl _ _⟩
  have := HK.out
  unfold isB
  show Ending.returned (.bool (decide ((n : Int) ≤ k))) = _
  congr 2
  by_cases h : (n : Int) ≤ k
  ·simp [h]
  ·simp [h]; omega
theorem drop_at {α : Type} (l : List α) (k : Nat) (z : α) (h : k < l.length) : l.drop k = l.getD k z :: l.drop (k + 1) := by
 rw [List.drop_eq_getElem_cons h, List.getD_eq_getElem?_getD, List.getElem?_eq_getElem h]; rfl
theorem alloc_sz (w : World) (o : Obj) : (w.alloc o).heap.size = w.heap.size + 1 := Array.size_push _
def blkCells (b : S44) (A2 : Option Addr) (c2 : Nat) (A5 : Option Addr) (c5 : Nat) (A10 : Option Addr) (c10 : Nat) : Array Value := #[.bool b.f0, .int .i64 b.f1.f0, .slice A2 b.f1.f1.length c2, .bool b.f1.f2, .bool b.f1.f3, .slice A5 b.f2.length c5, .int .i64 b.f3.f0, .int .i64 b.f3.f1, .int .i64 b.f3.f2, .int .i64 b.f3.f3, .slice A10 b.f3.f4.length c10, .int .i64 b.f3.f5, .int .i64 b.f3.f6, .int .i64 b.f3.f7]
set_option maxHeartbeats 16000000 in
set_option maxRecDepth 100000 in
theorem calls_Of.calls (A0_0 : Option Addr) (c0_0 : Nat) (l0_0 : List S33) (a1 : Int) (r : List Int) (w : World) (hr0_0 : Kd.C k33 w A0_0 l0_0.length l0_0) (hc0_0 : l0_0.length ≤ c0_0) (h : calls_Of.f l0_0 a1 = some r) :
  Calls Try.prog 11 #[.agg #[.slice A0_0 l0_0.length c0_0], .int .i64 a1] w fun e w' => ∃ v0_ : Value, e = .returned v0_ ∧ Kd.R (Kd.int .i64) 3 w' w.heap.size (fun _ => True) v0_ r ∧ Below w.heap.size w w' := by
 have HR := Aside0.mk hr0_0
 have HM := Aside0.mk (show l0_0.length ≤ 9223372036854775807 from hr0_0.2.1)
 have hu24 := Try.underlying24
 have hu33 := Try.underlying33
 have hu44 := Try.underlying44
 have hu36 := Try.underlying36
 clear hr0_0 hc0_0
 unfold calls_Of.f at h
 cases hin : isB l0_0.length a1 with
 | false =>
  rw [hin, if_neg (by simp)] at h
  obtain rfl := Option.some.inj h
  clear h
  by_cases h0 : a1 < 0
  ·have hd : decide (a1 < 0) = true := decide_eq_true h0
   clear h0 hin
   go_enter Try.func11, Try.ntmps11
   go_wp2_with (first | ((with_reducible refine gate_dst (N := 2) rfl ?_); refine box_event ?hg (N := 2) ?hd (cs := #[.slice A0_0 l0_0.length c0_0]) (t := 24) ?hr ?_; (case hd => rfl); (case hg => rfl); (case hr => first | (go_simp; done) | (go_simp; rfl)); intro gb hg w4 hbox hb; have HB := Aside0.mk hb; have hcy0 : w4.cell? ⟨gb, 0, none⟩ = some (.slice A0_0 l0_0.length c0_0) := (blk_cell hbox 0).trans rfl; clear hbox hb hg))
   go_ret
   exact ⟨_, rfl, Kd.R_nil _ _ _ _ _, HB.out⟩
  ·have hd : decide (a1 < 0) = false := decide_eq_false h0
   have hd2 : decide ((l0_0.length : Int) ≤ a1) = true := decide_eq_true (by unfold isB at hin; simp at hin; omega)
   clear h0 hin
   go_enter Try.func11, Try.ntmps11
   go_wp2_with (first | ((with_reducible refine gate_dst (N := 2) rfl ?_); refine box_event ?hg (N := 2) ?hd (cs := #[.slice A0_0 l0_0.length c0_0]) (t := 24) ?hr ?_; (case hd => rfl); (case hg => rfl); (case hr => first | (go_simp; done) | (go_simp; rfl)); intro gb hg w4 hbox hb; have HB := Aside0.mk hb; have hcy0 : w4.cell? ⟨gb, 0, none⟩ = some (.slice A0_0 l0_0.length c0_0) := (blk_cell hbox 0).trans rfl; clear hbox hb hg))
   go_ret
   exact ⟨_, rfl, Kd.R_nil _ _ _ _ _, HB.out⟩
 | true =>
  rw [hin, if_pos rfl] at h
  obtain ⟨O, hO, h⟩ := Option.bind_eq_some_iff.1 h
  by_cases hol : O.length ≤ 1000000
  ·rw [if_pos hol] at h
   have HN := Aside0.mk (Option.some.inj h)
   have h01 : 0 ≤ a1 ∧ a1 < (l0_0.length : Int) := by simpa [isB] using hin
   obtain ⟨p0, q0⟩ := h01
   have hd : decide (a1 < 0) = false := decide_eq_false (by omega)
   have hd2 : decide ((l0_0.length : Int) ≤ a1) = false := decide_eq_false (by omega)
   obtain ⟨bs, hbs⟩ : ∃ bs, bs = (rd_T33 l0_0 a1).f2 := ⟨_, rfl⟩
   rw [← hbs] at hO
   have HO0 := Aside0.mk hO
   have HOL := Aside0.mk hol
   have HBS := Aside0.mk hbs
   have HPQ := Aside0.mk (And.intro p0 q0)
   obtain ⟨ad, Ab, cb, e9, hx0, hx1, hx2, hlb, hib⟩ := at_T33 HR.out a1 p0 q0
   cases e9
   rw [← HBS.out] at hx2 hlb hib
   have HIB := Aside0.mk hib
   have HX2 := Aside0.mk hx2
   have HBL := Aside0.mk hib.2.1
   clear hib hlb hx0 hx1 hx2
   clear h hin hO hol hbs
   replace p0 := eq_true p0
   replace q0 := eq_true q0
   go_enter Try.func11, Try.ntmps11
   go_wp2_with (first | ((with_reducible refine gate_dst (N := 2) rfl ?_); refine box_event ?hg (N := 2) ?hd (cs := #[.slice (some ad) l0_0.length c0_0]) (t := 24) ?hr ?_; (case hd => rfl); (case hg => rfl); (case hr => first | (go_simp; done) | (go_simp; rfl)); intro gb hg w4 hbox hb; have BK := Aside0.mk hbox; have HB := Aside0.mk hb; have hcy0 : w4.cell? ⟨gb, 0, none⟩ = some (.slice (some ad) l0_0.length c0_0) := (blk_cell hbox 0).trans rfl; clear hbox hb hg; have hx2 := pw_cell_below HB.out HX2.out))
   clear hx2 hcy0 hd hd2 p0 q0
   go_loopg [5, 26] bs.length (fun gg s5 s26 wr => ∃ (x : Nat) (v : Value) (out : List Int), s26 = .int .i64 x ∧ s5 = v ∧ bs.length - x ≤ gg ∧ Aside0 (x ≤ bs.length) ∧ Aside0 (goBlk (bs.drop x) out = some O) ∧ Aside0 (Kd.R (Kd.int .i64) 3 wr w.heap.size (fun _ => True) v out) ∧ Aside0 (wr.heap[gb]? = some (.cells #[.slice (some ad) l0_0.length c0_0] 24 (0, 0))) ∧ Aside0 (Below w.heap.size w wr))
   case atStart => exact ⟨0, _, [], rfl, rfl, by omega, ⟨Nat.zero_le _⟩, HO0, ⟨Kd.R_nil _ _ _ _ _⟩, BK, HB⟩
   case round =>
    clear HO0 BK HB
    obtain ⟨x, v, out, rfl, rfl, hgg, HX, HG, HO, BK, HB⟩ := hrel
    by_cases hlt : x < bs.length
    ·have hltz : (x : Int) < (bs.length : Int) := by omega
     obtain ⟨ad4, A2, c2, A5, c5, A10, c10, e4, y0, y1, y2, y3, y4, y5, y6, y7, y8, y9, y10, y11, y12, y13, k1, k2, k3, k4, k5, k6⟩ := at_T44 HIB.out (x : Int) (by omega) hltz
     cases e4
     obtain ⟨u, hu⟩ : ∃ u, bs.getD x z44 = u := ⟨_, rfl⟩
     rw [show rd_T44 bs (x : Int) = u by unfold rd_T44; rw [Int.toNat_natCast]; exact hu, Int.toNat_natCast] at y0 y1 y2 y3 y4 y5 y6 y7 y8 y9 y10 y11 y12 y13
     rw [show rd_T44 bs (x : Int) = u by unfold rd_T44; rw [Int.toNat_natCast]; exact hu] at k1 k2 k3 k4 k5 k6
     have hdr := drop_at bs x z44 hlt
     rw [hu] at hdr
     have hG := HG.out
     rw [hdr, goBlk] at hG
     obtain ⟨o1, hg1, hG⟩ := Option.bind_eq_some_iff.1 hG
     obtain ⟨o2, hg2, hG⟩ := Option.bind_eq_some_iff.1 hG
     have HG1 := Aside0.mk hg1
     have HG2 := Aside0.mk hg2
     have HG3 := Aside0.mk hG
     have K4 := Aside0.mk k4
     have K4L := Aside0.mk k4.2.1
     clear hg1 hg2 hG HG hdr hu k1 k2 k3 k4 k5 k6
     have z0 := pw_cell_below HB.out y0
     have z1 := pw_cell_below HB.out y1
     have z2 := pw_cell_below HB.out y2
     have z3 := pw_cell_below HB.out y3
     have z4 := pw_cell_below HB.out y4
     have z5 := pw_cell_below HB.out y5
     have z6 := pw_cell_below HB.out y6
     have z7 := pw_cell_below HB.out y7
     have z8 := pw_cell_below HB.out y8
     have z9 := pw_cell_below HB.out y9
     have z10 := pw_cell_below HB.out y10
     have z11 := pw_cell_below HB.out y11
     have z12 := pw_cell_below HB.out y12
     have z13 := pw_cell_below HB.out y13
     clear y0 y1 y2 y3 y4 y5 y6 y7 y8 y9 y10 y11 y12 y13
     have p0 : (0 ≤ (x : Int)) = True := eq_true (by omega)
     go_wp2
     clear z0 z1 z2 z3 z4 z5 z6 z7 z8 z9 z10 z11 z12 z13 p0 hltz
     obtain ⟨gbb, hgbb⟩ : ∃ gbb, gbb = wr.heap.size := ⟨_, rfl⟩
     have BKb := Aside0.mk (show (wr.alloc (.cells #[.bool u.f0, .int .i64 u.f1.f0, .slice A2 u.f1.f1.length c2, .bool u.f1.f2, .bool u.f1.f3, .slice A5 u.f2.length c5, .int .i64 u.f3.f0, .int .i64 u.f3.f1, .int .i64 u.f3.f2, .int .i64 u.f3.f3, .slice A10 u.f3.f4.length c10, .int .i64 u.f3.f5, .int .i64 u.f3.f6, .int .i64 u.f3.f7] 44)).heap[gbb]? = some (.cells (blkCells u A2 c2 A5 c5 A10 c10) 44 (0, 0)) by rw [hgbb]; exact blk_new wr _)
     have BK1 := Aside0.mk (blk_alloc BK.out (.cells #[.bool u.f0, .int .i64 u.f1.f0, .slice A2 u.f1.f1.length c2, .bool u.f1.f2, .bool u.f1.f3, .slice A5 u.f2.length c5, .int .i64 u.f3.f0, .int .i64 u.f3.f1, .int .i64 u.f3.f2, .int .i64 u.f3.f3, .slice A10 u.f3.f4.length c10, .int .i64 u.f3.f5, .int .i64 u.f3.f6, .int .i64 u.f3.f7] 44))
     have HO1 := Aside0.mk (Kd.R_alloc HO.out (.cells #[.bool u.f0, .int .i64 u.f1.f0, .slice A2 u.f1.f1.length c2, .bool u.f1.f2, .bool u.f1.f3, .slice A5 u.f2.length c5, .int .i64 u.f3.f0, .int .i64 u.f3.f1, .int .i64 u.f3.f2, .int .i64 u.f3.f3, .slice A10 u.f3.f4.length c10, .int .i64 u.f3.f5, .int .i64 u.f3.f6, .int .i64 u.f3.f7] 44))
     have HB1 := Aside0.mk (below_alloc HB.out (.cells #[.bool u.f0, .int .i64 u.f1.f0, .slice A2 u.f1.f1.length c2, .bool u.f1.f2, .bool u.f1.f3, .slice A5 u.f2.length c5, .int .i64 u.f3.f0, .int .i64 u.f3.f1, .int .i64 u.f3.f2, .int .i64 u.f3.f3, .slice A10 u.f3.f4.length c10, .int .i64 u.f3.f5, .int .i64 u.f3.f6, .int .i64 u.f3.f7] 44))
     obtain ⟨wz, hwz⟩ : ∃ wz, wr.alloc (.cells #[.bool u.f0, .int .i64 u.f1.f0, .slice A2 u.f1.f1.length c2, .bool u.f1.f2, .bool u.f1.f3, .slice A5 u.f2.length c5, .int .i64 u.f3.f0, .int .i64 u.f3.f1, .int .i64 u.f3.f2, .int .i64 u.f3.f3, .slice A10 u.f3.f4.length c10, .int .i64 u.f3.f5, .int .i64 u.f3.f6, .int .i64 u.f3.f7] 44) = wz := ⟨_, rfl⟩
     rw [hwz, ← hgbb]
     rw [hwz] at BKb BK1 HO1 HB1
     clear hwz hgbb HO BK HB
     go_loopg [5, 33] u.f2.length (fun gg s5 s33 ws => ∃ (y : Nat) (v : Value) (out : List Int), s33 = .int .i64 y ∧ s5 = v ∧ u.f2.length - y ≤ gg ∧ Aside0 (y ≤ u.f2.length) ∧ Aside0 (goIns (u.f2.drop y) out = some o1) ∧ Aside0 (Kd.R (Kd.int .i64) 3 ws w.heap.size (fun _ => True) v out) ∧ Aside0 (ws.heap[gb]? = some (.cells #[.slice (some ad) l0_0.length c0_0] 24 (0, 0))) ∧ Aside0 (ws.heap[gbb]? = some (.cells (blkCells u A2 c2 A5 c5 A10 c10) 44 (0, 0))) ∧ Aside0 (Below w.heap.size w ws))
     case atStart => exact ⟨0, _, out, rfl, rfl, by omega, ⟨Nat.zero_le _⟩, HG1, HO1, BK1, BKb, HB1⟩
     case round =>
      clear HG1 HO1 BK1 BKb HB1
      obtain ⟨y, v, out, rfl, rfl, hgg2, HY, HG1, HO, BK, BKb, HB⟩ := hrel
      by_cases hlt2 : y < u.f2.length
      ·have hltz2 : (y : Int) < (u.f2.length : Int) := by omega
       obtain ⟨ad6, A6, c6, e6, y0, y1, y2, y3, y4, y5, y6, k1, k2⟩ := at_T36 K4.out (y : Int) (by omega) hltz2
       cases e6
       obtain ⟨q, hq⟩ : ∃ q, u.f2.getD y z36 = q := ⟨_, rfl⟩
       rw [show rd_T36 u.f2 (y : Int) = q by unfold rd_T36; rw [Int.toNat_natCast]; exact hq, Int.toNat_natCast] at y0 y1 y2 y3 y4 y5 y6
       have hdr := drop_at u.f2 y z36 hlt2
       rw [hq] at hdr
       have hG := HG1.out
       rw [hdr, goIns] at hG
       clear hdr hq k1 k2 HG1
       have z0 := pw_cell_below HB.out y0
       have z1 := pw_cell_below HB.out y1
       have z2 := pw_cell_below HB.out y2
       have z3 := pw_cell_below HB.out y3
       have z4 := pw_cell_below HB.out y4
       have z5 := pw_cell_below HB.out y5
       have z6 := pw_cell_below HB.out y6
       clear y0 y1 y2 y3 y4 y5 y6
       have p0 : (0 ≤ (y : Int)) = True := eq_true (by omega)
       have BK2 := Aside0.mk (blk_alloc BK.out (.cells #[.int .i64 q.f0, .int .i64 q.f1, .int .i64 q.f2, .int .i64 q.f3, .int .u16 q.f4, .int .i64 q.f5, .slice A6 q.f6.length c6] 36))
       have BKb2 := Aside0.mk (blk_alloc BKb.out (.cells #[.int .i64 q.f0, .int .i64 q.f1, .int .i64 q.f2, .int .i64 q.f3, .int .u16 q.f4, .int .i64 q.f5, .slice A6 q.f6.length c6] 36))
       have HO2 := Aside0.mk (Kd.R_alloc HO.out (.cells #[.int .i64 q.f0, .int .i64 q.f1, .int .i64 q.f2, .int .i64 q.f3, .int .u16 q.f4, .int .i64 q.f5, .slice A6 q.f6.length c6] 36))
       have HB2 := Aside0.mk (below_alloc HB.out (.cells #[.int .i64 q.f0, .int .i64 q.f1, .int .i64 q.f2, .int .i64 q.f3, .int .u16 q.f4, .int .i64 q.f5, .slice A6 q.f6.length c6] 36))
       by_cases hop : q.f0 = 11
       ·have hb11 : (q.f0 == 11) = true := beq_iff_eq.mpr hop
        rw [if_pos hop] at hG
        by_cases hol2 : out.length < 1000000
        ·rw [if_pos hol2] at hG
         have HLT := Aside0.mk hol2
         have HG1 := Aside0.mk hG
         clear hG hop hol2
         go_wp2_with (first | ((with_reducible refine gate_builtin (b := .append) (xs := #[.tmp 40, .tmp 43]) rfl ?_); at_builtin; go_loud (refine Kd.R_append (Kd.int .i64) (w0 := w) w.heap.size rfl (.tmp 40) (.tmp 43) 29 3 (.int .i64 0) 8 rfl Try.underlying29 info3 rfl (by decide) (by omega) _ out q.f5 [.int .i64 q.f5] (fun _ => True) (fun _ => False) rfl (by rw [alloc_sz]; rfl) ?aP (fun _ hk => hk.elim) ?aF ?aO ?aB ?aS ?aL ?_; (case aP => exact rfl); (case aB => exact HB2.out); (case aF => exact (fun _ _ => trivial)); (case aO => exact HO2.out); (case aS => exact (below_size HB2.out)); (case aL => have := HLT.out; omega); intro vq wq ho hb hg hat; have BK3 := Aside0.mk (blk_grown BK2.out hg (Kd.R_ne HO2.out BK2.out (by decide))); have BKb3 := Aside0.mk (blk_grown BKb2.out hg (Kd.R_ne HO2.out BKb2.out (by decide))); have HO3 := Aside0.mk ho; have HB3 := Aside0.mk hb; clear ho hb hg hat)))
         go_roundg (u.f2.length - (y + 1))
         case measure => omega
         case rel => exact ⟨y + 1, _, out ++ [q.f5], (by first | go_num | (rw [wrap64_small _ (by have := K4L.out; omega) (by have := K4L.out; omega)]; go_num)), rfl, Nat.le_refl _, ⟨by omega⟩, HG1, HO3, BK3, BKb3, HB3⟩
        ·rw [if_neg hol2] at hG; cases hG
       ·have hb11 : (q.f0 == 11) = false := beq_eq_false_iff_ne.mpr hop
        rw [if_neg hop] at hG
        have HG1 := Aside0.mk hG
        clear hG hop
        go_wp2
        go_roundg (u.f2.length - (y + 1))
        case measure => omega
        case rel => exact ⟨y + 1, _, out, (by first | go_num | (rw [wrap64_small _ (by have := K4L.out; omega) (by have := K4L.out; omega)]; go_num)), rfl, Nat.le_refl _, ⟨by omega⟩, HG1, HO2, BK2, BKb2, HB2⟩
      ·have HYE := Aside0.mk (show y = u.f2.length by have := HY.out; omega)
       have hltz2 : ¬ (y : Int) < (u.f2.length : Int) := by omega
       have hdd : decide ((y : Int) < (u.f2.length : Int)) = false := decide_eq_false hltz2
       have hG := HG1.out
       rw [HYE.out, List.drop_length, goIns] at hG
       obtain rfl := Option.some.inj hG
       clear hG HG1 hltz2
       have hk6 : wr.cell? ⟨gbb, 6, none⟩ = some (.int .i64 u.f3.f0) := (blk_cell BKb.out 6).trans rfl
       have hk9 : wr.cell? ⟨gbb, 9, none⟩ = some (.int .i64 u.f3.f3) := (blk_cell BKb.out 9).trans rfl
       have hE := HG2.out
       unfold goEnd at hE
       by_cases hkd : u.f3.f0 = 4
       ·have hb4 : (u.f3.f0 == 4) = true := beq_iff_eq.mpr hkd
        rw [if_pos hkd] at hE
        by_cases hol2 : out.length < 1000000
        ·rw [if_pos hol2] at hE
         have HLT := Aside0.mk hol2
         have HE2 := Aside0.mk (Option.some.inj hE)
         clear hE hkd hol2
         go_wp2_with (first | ((with_reducible refine gate_builtin (b := .append) (xs := #[.tmp 50, .tmp 54]) rfl ?_); at_builtin; go_loud (refine Kd.R_append (Kd.int .i64) (w0 := w) w.heap.size rfl (.tmp 50) (.tmp 54) 29 3 (.int .i64 0) 8 rfl Try.underlying29 info3 rfl (by decide) (by omega) _ out u.f3.f3 [.int .i64 u.f3.f3] (fun _ => True) (fun _ => False) rfl rfl ?aP (fun _ hk => hk.elim) ?aF ?aO ?aB ?aS ?aL ?_; (case aP => exact rfl); (case aB => exact HB.out); (case aF => exact (fun _ _ => trivial)); (case aO => exact HO.out); (case aS => exact (below_size HB.out)); (case aL => have := HLT.out; omega); intro vq wq ho hb hg hat; have BK3 := Aside0.mk (blk_grown BK.out hg (Kd.R_ne HO.out BK.out (by decide))); have BKb3 := Aside0.mk (blk_grown BKb.out hg (Kd.R_ne HO.out BKb.out (by decide))); have HO3 := Aside0.mk ho; have HB3 := Aside0.mk hb; clear ho hb hg hat)))
         go_roundg (bs.length - (x + 1))
         case measure => omega
         case rel => exact ⟨x + 1, _, out ++ [u.f3.f3], (by first | go_num | (rw [wrap64_small _ (by have := HBL.out; omega) (by have := HBL.out; omega)]; go_num)), rfl, Nat.le_refl _, ⟨by omega⟩, ⟨by rw [HE2.out]; exact HG3.out⟩, HO3, BK3, HB3⟩
        ·rw [if_neg hol2] at hE; cases hE
       ·have hb4 : (u.f3.f0 == 4) = false := beq_eq_false_iff_ne.mpr hkd
        rw [if_neg hkd] at hE
        have HE2 := Aside0.mk (Option.some.inj hE)
        clear hE hkd
        go_wp2
        go_roundg (bs.length - (x + 1))
        case measure => omega
        case rel => exact ⟨x + 1, _, out, (by first | go_num | (rw [wrap64_small _ (by have := HBL.out; omega) (by have := HBL.out; omega)]; go_num)), rfl, Nat.le_refl _, ⟨by omega⟩, ⟨by rw [HE2.out]; exact HG3.out⟩, HO, BK, HB⟩
    ·have HXE := Aside0.mk (show x = bs.length by have := HX.out; omega)
     have hltz : ¬ (x : Int) < (bs.length : Int) := by omega
     have hdd : decide ((x : Int) < (bs.length : Int)) = false := decide_eq_false hltz
     have hG := HG.out
     rw [HXE.out, List.drop_length, goBlk] at hG
     obtain rfl := Option.some.inj hG
     clear hG HG hltz
     have hfl : (out.filter fun x => !(!isB l0_0.length x)).length ≤ 1000000 := Nat.le_trans (List.length_filter_le _ _) HOL.out
     have HS1 := Aside0.mk (show slices_Sort_int_int.f (out.filter fun x => !(!isB l0_0.length x)) = some ((out.filter fun x => !(!isB l0_0.length x)).mergeSort fun x y => decide (x ≤ y)) by unfold slices_Sort_int_int.f; rw [if_pos hfl])
     have HS2 := Aside0.mk (show slices_Compact_int_int.f ((out.filter fun x => !(!isB l0_0.length x)).mergeSort fun x y => decide (x ≤ y)) = some (Lib.compact ((out.filter fun x => !(!isB l0_0.length x)).mergeSort fun x y => decide (x ≤ y))) by unfold slices_Compact_int_int.f; rw [if_pos (by rw [List.length_mergeSort]; exact hfl)])
     clear hfl
     go_wp2_with (first | (go_at_call 21; refine (sl_DeleteFunc_int _ out w.heap.size (fun _ => True) 22 #[.pointer (some ⟨gb, 0, none⟩)] (fun k => !isB l0_0.length k) _ (enters_of Try.func22 (by kernel_rfl) rfl) HO.out (fun k _ W hW => of_pred (some ad) l0_0.length c0_0 k gb W (blk_grown BK.out hW (Kd.R_ne HO.out BK.out (by decide))))).mono ?_; rintro e w5 ⟨v5, rfl, ho, hg, _⟩; have HO5 := Aside0.mk ho; have HB5 := Aside0.mk (HB.out.grown hg (below_size HB.out) (Kd.R_base HO.out)); clear ho hg) | (go_at_call 23; refine (slices_Sort_int_int.calls (fun _ => True) v5 _ _ w _ HB5.out HO5.out HS1.out).mono ?_; rintro e w6 ⟨rfl, ho, hb, _⟩; have HO6 := Aside0.mk ho; have HB6 := Aside0.mk hb; clear ho hb) | (go_at_call 24; refine (slices_Compact_int_int.calls _ v5 _ _ w _ HB6.out HO6.out HS2.out).mono ?_; rintro e w7 ⟨v7, rfl, ho, hb, _⟩; have HO7 := Aside0.mk (Kd.R_mono ho (fun _ _ => trivial)); have HB7 := Aside0.mk hb; clear ho hb))
     go_ret
     exact ⟨_, rfl, by rw [← HN.out]; simpa using HO7.out, HB7.out⟩
  ·rw [if_neg hol] at h; cases h
end Go.Proofs.Ytjjcnbfmmhokeaa.X
