/- Part 3 of the proof of the statement LoopNone: the words of the walks, the walks through the functions that it reaches, and the plain laws of what they compute. -/
import Derived.Test.YtilopoegoddggaaMLoopNone1
import Derived.RowKit
namespace Go.Proofs.Ytilopoegoddggaa.X
open Go.RowKit Go.Proofs.YtilopoegoddggaaW.PrintWords Go.Proofs.YtilopoegoddggaaW.PrintLast Go.Proofs.YtilopoegoddggaaW.PrintMore
attribute [local go_sem] max2_int min2_int max_two min_two max_three min_three max_four min_four
set_option linter.all false
noncomputable section
mutual
def davitlaw09_LoopNone.l0 : Nat → Int → Int → Int → Int → Int → List (S50) → Option (Bool)
 | 0, _, _, _, _, _, _ => none
 | k + 1, x1, x5, x7, x463000, x463001, x463002 => if x7 < x5 then (if x463002.length < 925904528653 then (davitlaw09_LoopNone.l0 k x1 x5 (wrap64 (x7 + 1)) x463000 x463001 (x463002 ++ [(⟨false, (⟨0, ([] : List Int), false, false⟩ : S47), ([] : List (S117)), (⟨2, 0, 0, 0, ([] : List Int), wrap64 (x7 + 1), 0, 0⟩ : S44)⟩ : S50)])) else (none)) else (if x463002.length < 925904528653 then ((some (x463002 ++ [(⟨false, (⟨0, ([] : List Int), false, false⟩ : S47), ([] : List (S117)), (⟨1, 0, 0, 0, ([] : List Int), 0, 0, 0⟩ : S44)⟩ : S50)] : List (S50))).bind fun y466 => ((loop_All.f k x463000 x463001 y466).bind fun t469 => (if (t469.length : Int) = 0 then (if x5 = 0 then (none) else (if 0 ≤ (wrap64 (x5 - 1)) then (if (wrap64 (x5 - 1)) < (y466.length : Int) then ((some (y466.set ((wrap64 (x5 - 1)) : Int).toNat (⟨(rd_T50 y466 (wrap64 (x5 - 1))).f0, (⟨(rd_T50 y466 (wrap64 (x5 - 1))).f1.f0, (rd_T50 y466 (wrap64 (x5 - 1))).f1.f1, (rd_T50 y466 (wrap64 (x5 - 1))).f1.f2, (rd_T50 y466 (wrap64 (x5 - 1))).f1.f3⟩ : S47), (rd_T50 y466 (wrap64 (x5 - 1))).f2, (⟨3, 0, 0, 0, ([] : List Int), Int.tmod (wrap64 (x1)) x5, x5, 0⟩ : S44)⟩ : S50) : List (S50))).bind fun y472 => ((loop_All.f k x463000 x463001 y472).bind fun t473 => (if (t473.length : Int) = 1 then (if 0 < (t473.length : Int) then (if ((rd_T40 t473 0).f0) = (Int.tmod (wrap64 (x1)) x5) then (davitlaw09_LoopNone.j1 k x5 (Int.tmod (wrap64 (x1)) x5) ((((rd_T40 t473 0).f1).length : Int) != (wrap64 (x5 - (Int.tmod (wrap64 (x1)) x5)))) x463000 x463001 y472) else (davitlaw09_LoopNone.j1 k x5 (Int.tmod (wrap64 (x1)) x5) true x463000 x463001 y472)) else (none)) else (davitlaw09_LoopNone.j1 k x5 (Int.tmod (wrap64 (x1)) x5) true x463000 x463001 y472)))) else (none)) else (none))) else (some false)))) else (none))
def davitlaw09_LoopNone.j1 : Nat → Int → Int → Bool → Int → Int → List (S50) → Option (Bool)
 | 0, _, _, _, _, _, _ => none
 | k + 1, x5, x8, x80, x463000, x463001, x463002 => if x80 = true then (some false) else (davitlaw09_LoopNone.l1 k x5 x8 0 x463000 x463001 x463002)
def davitlaw09_LoopNone.l1 : Nat → Int → Int → Int → Int → Int → List (S50) → Option (Bool)
 | 0, _, _, _, _, _, _ => none
 | k + 1, x5, x8, x10, x463000, x463001, x463002 => if x10 ≤ x5 then (if x10 ≥ x8 then (davitlaw09_LoopNone.j3 k x5 x8 x10 0 (decide (x10 < x5)) x463000 x463001 x463002) else (davitlaw09_LoopNone.j3 k x5 x8 x10 0 false x463000 x463001 x463002)) else (some true)
def davitlaw09_LoopNone.j3 : Nat → Int → Int → Int → Int → Bool → Int → Int → List (S50) → Option (Bool)
 | 0, _, _, _, _, _, _, _, _ => none
 | k + 1, x5, x8, x10, x11, x93, x463000, x463001, x463002 => if x93 = true then ((loop_Deep.f k x463000 x463001 x463002 x10).bind fun t478 => (if t478 = 1 then (davitlaw09_LoopNone.l1 k x5 x8 (wrap64 (x10 + 1)) x463000 x463001 x463002) else (some false))) else ((loop_Deep.f k x463000 x463001 x463002 x10).bind fun t479 => (if t479 = x11 then (davitlaw09_LoopNone.l1 k x5 x8 (wrap64 (x10 + 1)) x463000 x463001 x463002) else (some false)))
end
def davitlaw09_LoopNone.f (k : Nat) (a0 : Int) (a1 : Int) : Option (Bool) := (davitlaw09_awake.f k).bind fun t461 => (if t461 = true then (davitlaw09_LoopNone.l0 k a1 (wrap64 ((wrap64 (Int.tmod a0 10)) + 2)) 0 0 1 ([] : List (S50))) else (some false))
theorem davitlaw09_LoopNone.mono_l : ∀ k, (∀ y0 y1 y2 y3 y4 y5, LeO (davitlaw09_LoopNone.l0 k y0 y1 y2 y3 y4 y5) (davitlaw09_LoopNone.l0 (k + 1) y0 y1 y2 y3 y4 y5)) ∧ (∀ y0 y1 y2 y3 y4 y5, LeO (davitlaw09_LoopNone.j1 k y0 y1 y2 y3 y4 y5) (davitlaw09_LoopNone.j1 (k + 1) y0 y1 y2 y3 y4 y5)) ∧ (∀ y0 y1 y2 y3 y4 y5, LeO (davitlaw09_LoopNone.l1 k y0 y1 y2 y3 y4 y5) (davitlaw09_LoopNone.l1 (k + 1) y0 y1 y2 y3 y4 y5)) ∧ (∀ y0 y1 y2 y3 y4 y5 y6 y7, LeO (davitlaw09_LoopNone.j3 k y0 y1 y2 y3 y4 y5 y6 y7) (davitlaw09_LoopNone.j3 (k + 1) y0 y1 y2 y3 y4 y5 y6 y7))
 | 0 => ⟨fun _ _ _ _ _ _ r h => by simp [davitlaw09_LoopNone.l0] at h, fun _ _ _ _ _ _ r h => by simp [davitlaw09_LoopNone.j1] at h, fun _ _ _ _ _ _ r h => by simp [davitlaw09_LoopNone.l1] at h, fun _ _ _ _ _ _ _ _ r h => by simp [davitlaw09_LoopNone.j3] at h⟩
 | k + 1 => by
  obtain ⟨ih0, ih1, ih2, ih3⟩ := davitlaw09_LoopNone.mono_l k
  refine ⟨?_, ?_, ?_, ?_⟩
  ·intro y0 y1 y2 y3 y4 y5
   unfold davitlaw09_LoopNone.l0
   repeat' first
   | (with_reducible exact ih0 _ _ _ _ _ _)
   | (with_reducible exact ih1 _ _ _ _ _ _)
   | (with_reducible exact ih2 _ _ _ _ _ _)
   | (with_reducible exact ih3 _ _ _ _ _ _ _ _)
   | (with_reducible exact davitlaw09_awake.mono _)
   | (with_reducible exact loop_All.mono _ _ _ _)
   | (with_reducible exact loop_Deep.mono _ _ _ _ _)
   | (with_reducible exact LeO.refl _)
   | (with_reducible exact LeO.none _)
   | (with_reducible refine LeO.ite ?_ ?_)
   | (with_reducible refine LeO.bind ?_ (fun _ => ?_))
   | exact ih0 _ _ _ _ _ _
   | exact ih1 _ _ _ _ _ _
   | exact ih2 _ _ _ _ _ _
   | exact ih3 _ _ _ _ _ _ _ _
   | exact davitlaw09_awake.mono _
   | exact loop_All.mono _ _ _ _
   | exact loop_Deep.mono _ _ _ _ _
   | exact LeO.none _
   | refine LeO.ite ?_ ?_
   | refine LeO.bind ?_ (fun _ => ?_)
  ·intro y0 y1 y2 y3 y4 y5
   unfold davitlaw09_LoopNone.j1
   repeat' first
   | (with_reducible exact ih0 _ _ _ _ _ _)
   | (with_reducible exact ih1 _ _ _ _ _ _)
   | (with_reducible exact ih2 _ _ _ _ _ _)
   | (with_reducible exact ih3 _ _ _ _ _ _ _ _)
   | (with_reducible exact davitlaw09_awake.mono _)
   | (with_reducible exact loop_All.mono _ _ _ _)
   | (with_reducible exact loop_Deep.mono _ _ _ _ _)
   | (with_reducible exact LeO.refl _)
   | (with_reducible exact LeO.none _)
   | (with_reducible refine LeO.ite ?_ ?_)
   | (with_reducible refine LeO.bind ?_ (fun _ => ?_))
   | exact ih0 _ _ _ _ _ _
   | exact ih1 _ _ _ _ _ _
   | exact ih2 _ _ _ _ _ _
   | exact ih3 _ _ _ _ _ _ _ _
   | exact davitlaw09_awake.mono _
   | exact loop_All.mono _ _ _ _
   | exact loop_Deep.mono _ _ _ _ _
   | exact LeO.none _
   | refine LeO.ite ?_ ?_
   | refine LeO.bind ?_ (fun _ => ?_)
  ·intro y0 y1 y2 y3 y4 y5
   unfold davitlaw09_LoopNone.l1
   repeat' first
   | (with_reducible exact ih0 _ _ _ _ _ _)
   | (with_reducible exact ih1 _ _ _ _ _ _)
   | (with_reducible exact ih2 _ _ _ _ _ _)
   | (with_reducible exact ih3 _ _ _ _ _ _ _ _)
   | (with_reducible exact davitlaw09_awake.mono _)
   | (with_reducible exact loop_All.mono _ _ _ _)
   | (with_reducible exact loop_Deep.mono _ _ _ _ _)
   | (with_reducible exact LeO.refl _)
   | (with_reducible exact LeO.none _)
   | (with_reducible refine LeO.ite ?_ ?_)
   | (with_reducible refine LeO.bind ?_ (fun _ => ?_))
   | exact ih0 _ _ _ _ _ _
   | exact ih1 _ _ _ _ _ _
   | exact ih2 _ _ _ _ _ _
   | exact ih3 _ _ _ _ _ _ _ _
   | exact davitlaw09_awake.mono _
   | exact loop_All.mono _ _ _ _
   | exact loop_Deep.mono _ _ _ _ _
   | exact LeO.none _
   | refine LeO.ite ?_ ?_
   | refine LeO.bind ?_ (fun _ => ?_)
  ·intro y0 y1 y2 y3 y4 y5 y6 y7
   unfold davitlaw09_LoopNone.j3
   repeat' first
   | (with_reducible exact ih0 _ _ _ _ _ _)
   | (with_reducible exact ih1 _ _ _ _ _ _)
   | (with_reducible exact ih2 _ _ _ _ _ _)
   | (with_reducible exact ih3 _ _ _ _ _ _ _ _)
   | (with_reducible exact davitlaw09_awake.mono _)
   | (with_reducible exact loop_All.mono _ _ _ _)
   | (with_reducible exact loop_Deep.mono _ _ _ _ _)
   | (with_reducible exact LeO.refl _)
   | (with_reducible exact LeO.none _)
   | (with_reducible refine LeO.ite ?_ ?_)
   | (with_reducible refine LeO.bind ?_ (fun _ => ?_))
   | exact ih0 _ _ _ _ _ _
   | exact ih1 _ _ _ _ _ _
   | exact ih2 _ _ _ _ _ _
   | exact ih3 _ _ _ _ _ _ _ _
   | exact davitlaw09_awake.mono _
   | exact loop_All.mono _ _ _ _
   | exact loop_Deep.mono _ _ _ _ _
   | exact LeO.none _
   | refine LeO.ite ?_ ?_
   | refine LeO.bind ?_ (fun _ => ?_)
theorem davitlaw09_LoopNone.mono : ∀ a0 a1 k, LeO (davitlaw09_LoopNone.f k a0 a1) (davitlaw09_LoopNone.f (k + 1) a0 a1) := by
 intro a0 a1 k
 obtain ⟨ih0, ih1, ih2, ih3⟩ := davitlaw09_LoopNone.mono_l k
 unfold davitlaw09_LoopNone.f
 repeat' first
   | (with_reducible exact ih0 _ _ _ _ _ _)
   | (with_reducible exact ih1 _ _ _ _ _ _)
   | (with_reducible exact ih2 _ _ _ _ _ _)
   | (with_reducible exact ih3 _ _ _ _ _ _ _ _)
   | (with_reducible exact davitlaw09_awake.mono _)
   | (with_reducible exact loop_All.mono _ _ _ _)
   | (with_reducible exact loop_Deep.mono _ _ _ _ _)
   | (with_reducible exact LeO.refl _)
   | (with_reducible exact LeO.none _)
   | (with_reducible refine LeO.ite ?_ ?_)
   | (with_reducible refine LeO.bind ?_ (fun _ => ?_))
   | exact ih0 _ _ _ _ _ _
   | exact ih1 _ _ _ _ _ _
   | exact ih2 _ _ _ _ _ _
   | exact ih3 _ _ _ _ _ _ _ _
   | exact davitlaw09_awake.mono _
   | exact loop_All.mono _ _ _ _
   | exact loop_Deep.mono _ _ _ _ _
   | exact LeO.none _
   | refine LeO.ite ?_ ?_
   | refine LeO.bind ?_ (fun _ => ?_)
set_option maxHeartbeats 8000000 in
set_option maxRecDepth 100000 in
theorem davitlaw09_LoopNone.calls (k : Nat) (a0 : Int) (a1 : Int) (r : Bool) (w : World) (h : davitlaw09_LoopNone.f k a0 a1 = some r) :
  Calls Try.prog 10 #[.int .u8 a0, .int .u8 a1] w fun e w' => e = .returned (.bool r) ∧ Below w.heap.size w w' := by
 have hu24 := Try.underlying24
 have hu44 := Try.underlying44
 have hu50 := Try.underlying50
 have HB := Aside0.mk (Below.refl w.heap.size w)
 have H : ((davitlaw09_awake.f k).bind fun t461 => (if t461 = true then (davitlaw09_LoopNone.l0 k a1 (wrap64 ((wrap64 (Int.tmod a0 10)) + 2)) 0 0 1 ([] : List (S50))) else (some false))) = some r := h
 clear h
 replace H := Option.bind_eq_some_iff.mp H
 obtain ⟨t461, A30, H⟩ := H
 replace H : (if t461 = true then (davitlaw09_LoopNone.l0 k a1 (wrap64 ((wrap64 (Int.tmod a0 10)) + 2)) 0 0 1 ([] : List (S50))) else (some false)) = some r := H
 have A3 := Aside0.mk A30
 clear A30
 by_cases c4 : t461 = true
 ·subst c4
  have H1 : (davitlaw09_LoopNone.l0 k a1 (wrap64 ((wrap64 (Int.tmod a0 10)) + 2)) 0 0 1 ([] : List (S50))) = some r := by rw [if_pos rfl] at H; exact H
  clear H
  have H := H1
  clear H1
  have H' := Aside0.mk H
  clear H
  go_enter Try.func10, Try.ntmps10
  go_wp2_with (first | ((with_reducible refine gate_callee (f := 22) rfl ?_); refine goesL_ (some 12) rfl rfl Try.func22 (by kernel_rfl) rfl #[] rfl (by (try simp only [List.map_toArray, List.map_cons, List.map_nil]); first | done | rfl | (simp only [List.length_drop, List.length_take]; rfl)) ?_; (with_reducible refine (davitlaw09_awake.calls k  true _ A3.out).mono ?_); rintro e w5 ⟨rfl, hb⟩; refine ⟨_, rfl, ?_⟩; have n0_ := Aside0.mk (below_step (by repeat (first | (with_reducible first | exact HB.out | apply below_alloc | apply pw_below_drewN | apply below_drew1) | exact HB.out)) hb); clear HB; have HB := n0_; clear n0_; (try clear hb); (try clear hb2); (try clear hk); (try clear hi)) | ((with_reducible refine gate_dst (N := 6) rfl ?_); (try (refine gate_guard (by rfl) ?_; dsimp only)); refine box_event ?hg (N := 6) ?hd (cs := #[.int .i64 0, .int .i64 0, .slice none 0 0]) (t := 24) ?hr ?_; (case hd => rfl); (case hg => rfl); (case hr => first | (go_simp; done) | (go_simp; rfl)); intro gb462 hg w6 hbox hb; have n0_ := Aside0.mk (below_step (by repeat (first | (with_reducible first | exact HB.out | apply below_alloc | apply pw_below_drewN | apply below_drew1) | exact HB.out)) hb); have n1_ := Aside0.mk (hbox); have n2_ := Aside0.mk ((by rw [hg]; exact (below_size (by repeat (first | (with_reducible first | exact HB.out | apply below_alloc | apply pw_below_drewN | apply below_drew1) | exact HB.out))) : w.heap.size ≤ gb462)); have n3_ := Aside0.mk ((by rw [hg]; exact (below_size (by repeat (first | (with_reducible first | exact HB.out | apply below_alloc | apply pw_below_drewN | apply below_drew1) | exact HB.out))) : w.heap.size ≤ gb462)); clear HB; have HB := n0_; have BK462 := n1_; have GW462 := n2_; have GE462 := n3_; clear n0_ n1_ n2_ n3_; clear hb hbox hg; have hcz7_0 : w6.cell? ⟨gb462, 0, none⟩ = some (.int .i64 0) := (blk_cell BK462.out 0).trans rfl; have hcz7_1 : w6.cell? ⟨gb462, 1, none⟩ = some (.int .i64 0) := (blk_cell BK462.out 1).trans rfl; have hcz7_2 : w6.cell? ⟨gb462, 2, none⟩ = some (.slice none 0 0) := (blk_cell BK462.out 2).trans rfl; have hfz7_0 := blk_frozen BK462.out 0; have hfz7_1 := blk_frozen BK462.out 1; have hfz7_2 := blk_frozen BK462.out 2))
  go_loopg [7] k (fun kq v7 w' => ∃ (x7_1 : Int) (x463002_1 : List (S50)) (u463002 : Value), v7 = .int .i64 x7_1 ∧ Aside0 (davitlaw09_LoopNone.l0 kq a1 (wrap64 ((wrap64 (Int.tmod a0 10)) + 2)) x7_1 0 1 x463002_1 = some r) ∧ Aside0 (kq ≤ k) ∧ Aside0 (Kd.R k50 50 w' w.heap.size (fun _ => True) u463002 x463002_1) ∧ Aside0 (w'.heap[gb462]? = some (.cells #[.int .i64 0, .int .i64 1, u463002] 24 (0, 0))) ∧ Aside0 (Below w.heap.size w w'))
  case atStart => exact ⟨(0), (([] : List (S50))), (.slice none 0 0), (by first | rfl | (simp; done) | (simp [*]; done)), H', ⟨Nat.le_refl _⟩, ⟨by first | exact Kd.R_nil _ _ _ _ _ | exact Kd.N_nil _ _ _ _ _ | exact Kd.V_nil _ _ _ _ _ | exact Kd.Q_nil _ _ _ _ _ | exact Kd.S_nil _ _ _ _ _⟩, ⟨by (with_reducible repeat (first | refine blk_drewN ?_ _ | refine blk_drew ?_ | refine blk_alloc ?_ _)); refine blk_put (cs := #[.int .i64 0, .int .i64 1, .slice none 0 0]) ?_ 2 _ rfl; (with_reducible repeat (first | refine blk_drewN ?_ _ | refine blk_drew ?_ | refine blk_alloc ?_ _)); refine blk_put (cs := #[.int .i64 0, .int .i64 0, .slice none 0 0]) ?_ 1 _ rfl; (with_reducible repeat (first | refine blk_drewN ?_ _ | refine blk_drew ?_ | refine blk_alloc ?_ _)); refine blk_put (cs := #[.int .i64 0, .int .i64 0, .slice none 0 0]) ?_ 0 _ rfl; (with_reducible repeat (first | refine blk_drewN ?_ _ | refine blk_drew ?_ | refine blk_alloc ?_ _)); exact BK462.out⟩, ⟨by repeat (first | (with_reducible first | exact HB.out | apply below_alloc | apply pw_below_drewN | apply below_drew1 | refine below_set ?_ GE462.out) | exact HB.out)⟩⟩
  case round =>
   clear H'
   try clear c1
   try clear c2
   try clear p2
   try clear c4
   try clear p6
   try clear hcz7_0
   try clear hcz7_1
   try clear hcz7_2
   try clear hfz7_0
   try clear hfz7_1
   try clear hfz7_2
   obtain ⟨x7_1, x463002_1, u463002, rfl, HA, HK1, HO_463002, BK462, HB⟩ := hrel
   cases gk with
   | zero => exact absurd HA.out (by simp [davitlaw09_LoopNone.l0])
   | succ k1 =>
    have H := HA.out
    clear HA
    simp only [davitlaw09_LoopNone.l0] at H
    by_cases c8 : x7_1 < (wrap64 ((wrap64 (Int.tmod a0 10)) + 2))
    ·rw [if_pos c8] at H
     have c8b0 : decide (x7_1 < (wrap64 ((wrap64 (Int.tmod a0 10)) + 2))) = true := decide_eq_true c8
     clear c8
     by_cases c9 : x463002_1.length < 925904528653
     ·rw [if_pos c9] at H
      have LMc9 := Aside0.mk c9
      clear c9
      obtain ⟨y463, hy463⟩ : ∃ y_ : List (S50), y_ = (x463002_1 ++ [(⟨false, (⟨0, ([] : List Int), false, false⟩ : S47), ([] : List (S117)), (⟨2, 0, 0, 0, ([] : List Int), wrap64 (x7_1 + 1), 0, 0⟩ : S44)⟩ : S50)]) := ⟨_, rfl⟩
      replace H : (davitlaw09_LoopNone.l0 k1 a1 (wrap64 ((wrap64 (Int.tmod a0 10)) + 2)) (wrap64 (x7_1 + 1)) 0 1 y463) = some r := by first | (rw [hy463]; with_reducible exact H) | (have H2_ := (Option.bind_some _ _).symm.trans H; rw [hy463]; with_reducible exact H2_) | (have H2_ := (Option.bind_some _ _).symm.trans H; with_reducible exact H2_) | with_reducible exact H | (rw [hy463]; exact H) | exact H
      have Ny463 := Aside0.mk hy463
      clear hy463
      have H' := Aside0.mk H
      clear H
      have hcz10_0 : wr.cell? ⟨gb462, 0, none⟩ = some (.int .i64 0) := (blk_cell BK462.out 0).trans rfl
      have hcz10_1 : wr.cell? ⟨gb462, 1, none⟩ = some (.int .i64 1) := (blk_cell BK462.out 1).trans rfl
      have hcz10_2 : wr.cell? ⟨gb462, 2, none⟩ = some (u463002) := (blk_cell BK462.out 2).trans rfl
      have hfz10_0 := blk_frozen BK462.out 0
      have hfz10_1 := blk_frozen BK462.out 1
      have hfz10_2 := blk_frozen BK462.out 2
      go_wp2_with (first | ((with_reducible refine gate_builtin (b := .append) (xs := #[.tmp 25, .tmp 30]) rfl ?_); (try (refine gate_guard (by rfl) ?_; dsimp only)); at_builtin; refine Kd.R_append k50 (w0 := w) w.heap.size rfl (.tmp 25) (.tmp 30) 22 50 (.agg #[(.bool false), (.int .i64 0), (.slice none 0 0), (.bool false), (.bool false), (.slice none 0 0), (.int .i64 0), (.int .i64 0), (.int .i64 0), (.int .i64 0), (.slice none 0 0), (.int .i64 0), (.int .i64 0), (.int .i64 0)]) 152 rfl Try.underlying22 info50 rfl (by decide) (by omega) u463002 x463002_1 (⟨false, (⟨0, ([] : List Int), false, false⟩ : S47), ([] : List (S117)), (⟨2, 0, 0, 0, ([] : List Int), wrap64 (x7_1 + 1), 0, 0⟩ : S44)⟩ : S50) [.bool false, .int .i64 0, .slice none 0 0, .bool false, .bool false, .slice none 0 0, .int .i64 2, .int .i64 0, .int .i64 0, .int .i64 0, .slice none 0 0, .int .i64 (wrap64 (x7_1 + 1)), .int .i64 0, .int .i64 0] (fun _ => True) (fun k_ => ((fun _ => True)) k_ ∧ some k_ ≠ (u463002 : Value).ownBlock) rfl rfl ?aP (fun _ hk => hk) ?aF ?aO ?aB ?aS ?aL ?_; (case aP => exact k50_mkM _ _ _ (⟨false, (⟨0, ([] : List Int), false, false⟩ : S47), ([] : List (S117)), (⟨2, 0, 0, 0, ([] : List Int), wrap64 (x7_1 + 1), 0, 0⟩ : S44)⟩ : S50) (Kd.R_nil _ _ _ _ _) (Kd.R_nil _ _ _ _ _) (Kd.R_nil _ _ _ _ _)); (case aB => exact (by repeat (first | (with_reducible first | exact HB.out | apply below_alloc | apply pw_below_drewN | apply below_drew1 | refine below_set ?_ GE462.out) | exact HB.out))); (case aF => exact (fun _ _ => trivial)); (case aO => exact (by (with_reducible repeat (first | apply Kd.R_alloc | apply Kd.R_drewN | apply Kd.R_drew)); exact HO_463002.out)); (case aS => exact (below_size (by repeat (first | (with_reducible first | exact HB.out | apply below_alloc | apply pw_below_drewN | apply below_drew1 | refine below_set ?_ GE462.out) | exact HB.out)))); (case aL => have := LMc9.out; omega); intro v464 w11 ho hb hg hat; rw [← Ny463.out] at ho; have n0_ := Aside0.mk (blk_grown (g := gb462) (o := .cells #[.int .i64 0, .int .i64 1, u463002] 24 (0, 0)) (by (with_reducible repeat (first | refine blk_drewN ?_ _ | refine blk_drew ?_ | refine blk_alloc ?_ _)); exact BK462.out) hg (Kd.R_ne HO_463002.out BK462.out (by decide))); have n1_ := Aside0.mk (hb); have n2_ := Aside0.mk (ho); clear BK462; clear HB; clear HO_463002; have BK462 := n0_; have HB := n1_; have HO465 := n2_; clear n0_ n1_ n2_; clear ho hb hg hat; obtain ⟨Ao12, co12, eo12⟩ := Kd.R_slice HO465.out; subst eo12; have hcz13_0 : w11.cell? ⟨gb462, 0, none⟩ = some (.int .i64 0) := (blk_cell BK462.out 0).trans rfl; have hcz13_1 : w11.cell? ⟨gb462, 1, none⟩ = some (.int .i64 1) := (blk_cell BK462.out 1).trans rfl; have hcz13_2 : w11.cell? ⟨gb462, 2, none⟩ = some (u463002) := (blk_cell BK462.out 2).trans rfl; have hfz13_0 := blk_frozen BK462.out 0; have hfz13_1 := blk_frozen BK462.out 1; have hfz13_2 := blk_frozen BK462.out 2))
      go_roundg k1
      case measure => have := HK1.out; omega
      case rel => exact ⟨(wrap64 (x7_1 + 1)), (y463), (.slice Ao12 y463.length co12), (by first | rfl | (simp; done) | (simp [*]; done)), H', ⟨by have := HK1.out; omega⟩, ⟨by (with_reducible repeat (first | apply Kd.R_alloc | apply Kd.R_drewN | apply Kd.R_drew)); exact Kd.R_mono (Kd.R_far (p := ⟨gb462, 2, none⟩) (Kd.R_types HO465.out BK462.out (by decide)) (fun _ hk => hk.2) (.slice Ao12 y463.length co12)) (fun _ hk => trivial)⟩, ⟨by (with_reducible repeat (first | refine blk_drewN ?_ _ | refine blk_drew ?_ | refine blk_alloc ?_ _)); refine blk_put (cs := #[.int .i64 0, .int .i64 1, u463002]) ?_ 2 _ rfl; (with_reducible repeat (first | refine blk_drewN ?_ _ | refine blk_drew ?_ | refine blk_alloc ?_ _)); exact BK462.out⟩, ⟨by repeat (first | (with_reducible first | exact HB.out | apply below_alloc | apply pw_below_drewN | apply below_drew1 | refine below_set ?_ GE462.out) | exact HB.out)⟩⟩
     ·rw [if_neg c9] at H
      exact absurd H (by simp)
    ·rw [if_neg c8] at H
     have c8b0 : decide (x7_1 < (wrap64 ((wrap64 (Int.tmod a0 10)) + 2))) = false := decide_eq_false c8
     clear c8
     by_cases c14 : x463002_1.length < 925904528653
     ·rw [if_pos c14] at H
      have LMc14 := Aside0.mk c14
      clear c14
      obtain ⟨y466, hy466⟩ : ∃ y_ : List (S50), y_ = (x463002_1 ++ [(⟨false, (⟨0, ([] : List Int), false, false⟩ : S47), ([] : List (S117)), (⟨1, 0, 0, 0, ([] : List Int), 0, 0, 0⟩ : S44)⟩ : S50)]) := ⟨_, rfl⟩
      replace H : ((loop_All.f k1 0 1 y466).bind fun t469 => (if (t469.length : Int) = 0 then (if (wrap64 ((wrap64 (Int.tmod a0 10)) + 2)) = 0 then (none) else (if 0 ≤ (wrap64 ((wrap64 ((wrap64 (Int.tmod a0 10)) + 2)) - 1)) then (if (wrap64 ((wrap64 ((wrap64 (Int.tmod a0 10)) + 2)) - 1)) < (y466.length : Int) then ((some (y466.set ((wrap64 ((wrap64 ((wrap64 (Int.tmod a0 10)) + 2)) - 1)) : Int).toNat (⟨(rd_T50 y466 (wrap64 ((wrap64 ((wrap64 (Int.tmod a0 10)) + 2)) - 1))).f0, (⟨(rd_T50 y466 (wrap64 ((wrap64 ((wrap64 (Int.tmod a0 10)) + 2)) - 1))).f1.f0, (rd_T50 y466 (wrap64 ((wrap64 ((wrap64 (Int.tmod a0 10)) + 2)) - 1))).f1.f1, (rd_T50 y466 (wrap64 ((wrap64 ((wrap64 (Int.tmod a0 10)) + 2)) - 1))).f1.f2, (rd_T50 y466 (wrap64 ((wrap64 ((wrap64 (Int.tmod a0 10)) + 2)) - 1))).f1.f3⟩ : S47), (rd_T50 y466 (wrap64 ((wrap64 ((wrap64 (Int.tmod a0 10)) + 2)) - 1))).f2, (⟨3, 0, 0, 0, ([] : List Int), Int.tmod (wrap64 (a1)) (wrap64 ((wrap64 (Int.tmod a0 10)) + 2)), (wrap64 ((wrap64 (Int.tmod a0 10)) + 2)), 0⟩ : S44)⟩ : S50) : List (S50))).bind fun y472 => ((loop_All.f k1 0 1 y472).bind fun t473 => (if (t473.length : Int) = 1 then (if 0 < (t473.length : Int) then (if ((rd_T40 t473 0).f0) = (Int.tmod (wrap64 (a1)) (wrap64 ((wrap64 (Int.tmod a0 10)) + 2))) then (davitlaw09_LoopNone.j1 k1 (wrap64 ((wrap64 (Int.tmod a0 10)) + 2)) (Int.tmod (wrap64 (a1)) (wrap64 ((wrap64 (Int.tmod a0 10)) + 2))) ((((rd_T40 t473 0).f1).length : Int) != (wrap64 ((wrap64 ((wrap64 (Int.tmod a0 10)) + 2)) - (Int.tmod (wrap64 (a1)) (wrap64 ((wrap64 (Int.tmod a0 10)) + 2)))))) 0 1 y472) else (davitlaw09_LoopNone.j1 k1 (wrap64 ((wrap64 (Int.tmod a0 10)) + 2)) (Int.tmod (wrap64 (a1)) (wrap64 ((wrap64 (Int.tmod a0 10)) + 2))) true 0 1 y472)) else (none)) else (davitlaw09_LoopNone.j1 k1 (wrap64 ((wrap64 (Int.tmod a0 10)) + 2)) (Int.tmod (wrap64 (a1)) (wrap64 ((wrap64 (Int.tmod a0 10)) + 2))) true 0 1 y472)))) else (none)) else (none))) else (some false))) = some r := by first | (rw [hy466]; with_reducible exact H) | (have H2_ := (Option.bind_some _ _).symm.trans H; rw [hy466]; with_reducible exact H2_) | (have H2_ := (Option.bind_some _ _).symm.trans H; with_reducible exact H2_) | with_reducible exact H | (rw [hy466]; exact H) | exact H
      have Ny466 := Aside0.mk hy466
      clear hy466
      replace H := Option.bind_eq_some_iff.mp H
      obtain ⟨t469, A150, H⟩ := H
      replace H : (if (t469.length : Int) = 0 then (if (wrap64 ((wrap64 (Int.tmod a0 10)) + 2)) = 0 then (none) else (if 0 ≤ (wrap64 ((wrap64 ((wrap64 (Int.tmod a0 10)) + 2)) - 1)) then (if (wrap64 ((wrap64 ((wrap64 (Int.tmod a0 10)) + 2)) - 1)) < (y466.length : Int) then ((some (y466.set ((wrap64 ((wrap64 ((wrap64 (Int.tmod a0 10)) + 2)) - 1)) : Int).toNat (⟨(rd_T50 y466 (wrap64 ((wrap64 ((wrap64 (Int.tmod a0 10)) + 2)) - 1))).f0, (⟨(rd_T50 y466 (wrap64 ((wrap64 ((wrap64 (Int.tmod a0 10)) + 2)) - 1))).f1.f0, (rd_T50 y466 (wrap64 ((wrap64 ((wrap64 (Int.tmod a0 10)) + 2)) - 1))).f1.f1, (rd_T50 y466 (wrap64 ((wrap64 ((wrap64 (Int.tmod a0 10)) + 2)) - 1))).f1.f2, (rd_T50 y466 (wrap64 ((wrap64 ((wrap64 (Int.tmod a0 10)) + 2)) - 1))).f1.f3⟩ : S47), (rd_T50 y466 (wrap64 ((wrap64 ((wrap64 (Int.tmod a0 10)) + 2)) - 1))).f2, (⟨3, 0, 0, 0, ([] : List Int), Int.tmod (wrap64 (a1)) (wrap64 ((wrap64 (Int.tmod a0 10)) + 2)), (wrap64 ((wrap64 (Int.tmod a0 10)) + 2)), 0⟩ : S44)⟩ : S50) : List (S50))).bind fun y472 => ((loop_All.f k1 0 1 y472).bind fun t473 => (if (t473.length : Int) = 1 then (if 0 < (t473.length : Int) then (if ((rd_T40 t473 0).f0) = (Int.tmod (wrap64 (a1)) (wrap64 ((wrap64 (Int.tmod a0 10)) + 2))) then (davitlaw09_LoopNone.j1 k1 (wrap64 ((wrap64 (Int.tmod a0 10)) + 2)) (Int.tmod (wrap64 (a1)) (wrap64 ((wrap64 (Int.tmod a0 10)) + 2))) ((((rd_T40 t473 0).f1).length : Int) != (wrap64 ((wrap64 ((wrap64 (Int.tmod a0 10)) + 2)) - (Int.tmod (wrap64 (a1)) (wrap64 ((wrap64 (Int.tmod a0 10)) + 2)))))) 0 1 y472) else (davitlaw09_LoopNone.j1 k1 (wrap64 ((wrap64 (Int.tmod a0 10)) + 2)) (Int.tmod (wrap64 (a1)) (wrap64 ((wrap64 (Int.tmod a0 10)) + 2))) true 0 1 y472)) else (none)) else (davitlaw09_LoopNone.j1 k1 (wrap64 ((wrap64 (Int.tmod a0 10)) + 2)) (Int.tmod (wrap64 (a1)) (wrap64 ((wrap64 (Int.tmod a0 10)) + 2))) true 0 1 y472)))) else (none)) else (none))) else (some false)) = some r := H
      have A15 := Aside0.mk A150
      clear A150
      by_cases c16 : (t469.length : Int) = 0
      ·rw [if_pos c16] at H
       have c16b0 : ((t469.length : Int) == 0) = true := beq_iff_eq.mpr c16
       have c16b1 : ((t469.length : Int) != 0) = false := bne_eq_false_iff_eq.mpr c16
       clear c16
       by_cases c17 : (wrap64 ((wrap64 (Int.tmod a0 10)) + 2)) = 0
       ·rw [if_pos c17] at H
        exact absurd H (by simp)
       ·rw [if_neg c17] at H
        have c17b0 : ((wrap64 ((wrap64 (Int.tmod a0 10)) + 2)) == 0) = false := beq_eq_false_iff_ne.mpr c17
        have c17b1 : ((wrap64 ((wrap64 (Int.tmod a0 10)) + 2)) != 0) = true := bne_iff_ne.mpr c17
        obtain ⟨ji18, hji18⟩ : ∃ j_ : Int, (wrap64 ((wrap64 ((wrap64 (Int.tmod a0 10)) + 2)) - 1)) = j_ := ⟨_, rfl⟩
        replace H : (if 0 ≤ (ji18) then (if (ji18) < (y466.length : Int) then ((some (y466.set ((ji18) : Int).toNat (⟨(rd_T50 y466 (ji18)).f0, (⟨(rd_T50 y466 (ji18)).f1.f0, (rd_T50 y466 (ji18)).f1.f1, (rd_T50 y466 (ji18)).f1.f2, (rd_T50 y466 (ji18)).f1.f3⟩ : S47), (rd_T50 y466 (ji18)).f2, (⟨3, 0, 0, 0, ([] : List Int), Int.tmod (wrap64 (a1)) (wrap64 ((wrap64 (Int.tmod a0 10)) + 2)), (wrap64 ((wrap64 (Int.tmod a0 10)) + 2)), 0⟩ : S44)⟩ : S50) : List (S50))).bind fun y472 => ((loop_All.f k1 0 1 y472).bind fun t473 => (if (t473.length : Int) = 1 then (if 0 < (t473.length : Int) then (if ((rd_T40 t473 0).f0) = (Int.tmod (wrap64 (a1)) (wrap64 ((wrap64 (Int.tmod a0 10)) + 2))) then (davitlaw09_LoopNone.j1 k1 (wrap64 ((wrap64 (Int.tmod a0 10)) + 2)) (Int.tmod (wrap64 (a1)) (wrap64 ((wrap64 (Int.tmod a0 10)) + 2))) ((((rd_T40 t473 0).f1).length : Int) != (wrap64 ((wrap64 ((wrap64 (Int.tmod a0 10)) + 2)) - (Int.tmod (wrap64 (a1)) (wrap64 ((wrap64 (Int.tmod a0 10)) + 2)))))) 0 1 y472) else (davitlaw09_LoopNone.j1 k1 (wrap64 ((wrap64 (Int.tmod a0 10)) + 2)) (Int.tmod (wrap64 (a1)) (wrap64 ((wrap64 (Int.tmod a0 10)) + 2))) true 0 1 y472)) else (none)) else (davitlaw09_LoopNone.j1 k1 (wrap64 ((wrap64 (Int.tmod a0 10)) + 2)) (Int.tmod (wrap64 (a1)) (wrap64 ((wrap64 (Int.tmod a0 10)) + 2))) true 0 1 y472)))) else (none)) else (none)) = some r := by first | (rw [hji18] at H; exact H) | (simp only [hji18] at H ⊢; exact H)
        (try rw [hji18] at A15)
        have hji18w : (IntKind.i64.wrap ((wrap64 ((wrap64 (Int.tmod a0 10)) + 2)) - 1)) = ji18 := (i64_w _).trans hji18
        by_cases c19 : 0 ≤ (ji18)
        ·rw [if_pos c19] at H
         have c19b0 : decide (0 ≤ (ji18)) = true := decide_eq_true c19
         clear c19
         by_cases c20 : (ji18) < (y466.length : Int)
         ·rw [if_pos c20] at H
          have c20b0 : decide ((ji18) < (y466.length : Int)) = true := decide_eq_true c20
          clear c20
          obtain ⟨y472, hy472⟩ : ∃ y_ : List (S50), y_ = (y466.set ((ji18) : Int).toNat (⟨(rd_T50 y466 (ji18)).f0, (⟨(rd_T50 y466 (ji18)).f1.f0, (rd_T50 y466 (ji18)).f1.f1, (rd_T50 y466 (ji18)).f1.f2, (rd_T50 y466 (ji18)).f1.f3⟩ : S47), (rd_T50 y466 (ji18)).f2, (⟨3, 0, 0, 0, ([] : List Int), Int.tmod (wrap64 (a1)) (wrap64 ((wrap64 (Int.tmod a0 10)) + 2)), (wrap64 ((wrap64 (Int.tmod a0 10)) + 2)), 0⟩ : S44)⟩ : S50)) := ⟨_, rfl⟩
          replace H : ((loop_All.f k1 0 1 y472).bind fun t473 => (if (t473.length : Int) = 1 then (if 0 < (t473.length : Int) then (if ((rd_T40 t473 0).f0) = (Int.tmod (wrap64 (a1)) (wrap64 ((wrap64 (Int.tmod a0 10)) + 2))) then (davitlaw09_LoopNone.j1 k1 (wrap64 ((wrap64 (Int.tmod a0 10)) + 2)) (Int.tmod (wrap64 (a1)) (wrap64 ((wrap64 (Int.tmod a0 10)) + 2))) ((((rd_T40 t473 0).f1).length : Int) != (wrap64 ((wrap64 ((wrap64 (Int.tmod a0 10)) + 2)) - (Int.tmod (wrap64 (a1)) (wrap64 ((wrap64 (Int.tmod a0 10)) + 2)))))) 0 1 y472) else (davitlaw09_LoopNone.j1 k1 (wrap64 ((wrap64 (Int.tmod a0 10)) + 2)) (Int.tmod (wrap64 (a1)) (wrap64 ((wrap64 (Int.tmod a0 10)) + 2))) true 0 1 y472)) else (none)) else (davitlaw09_LoopNone.j1 k1 (wrap64 ((wrap64 (Int.tmod a0 10)) + 2)) (Int.tmod (wrap64 (a1)) (wrap64 ((wrap64 (Int.tmod a0 10)) + 2))) true 0 1 y472))) = some r := by first | (rw [hy472]; with_reducible exact H) | (have H2_ := (Option.bind_some _ _).symm.trans H; rw [hy472]; with_reducible exact H2_) | (have H2_ := (Option.bind_some _ _).symm.trans H; with_reducible exact H2_) | with_reducible exact H | (rw [hy472]; exact H) | exact H
          have Ny472 := Aside0.mk hy472
          clear hy472
          replace H := Option.bind_eq_some_iff.mp H
          obtain ⟨t473, A220, H⟩ := H
          replace H : (if (t473.length : Int) = 1 then (if 0 < (t473.length : Int) then (if ((rd_T40 t473 0).f0) = (Int.tmod (wrap64 (a1)) (wrap64 ((wrap64 (Int.tmod a0 10)) + 2))) then (davitlaw09_LoopNone.j1 k1 (wrap64 ((wrap64 (Int.tmod a0 10)) + 2)) (Int.tmod (wrap64 (a1)) (wrap64 ((wrap64 (Int.tmod a0 10)) + 2))) ((((rd_T40 t473 0).f1).length : Int) != (wrap64 ((wrap64 ((wrap64 (Int.tmod a0 10)) + 2)) - (Int.tmod (wrap64 (a1)) (wrap64 ((wrap64 (Int.tmod a0 10)) + 2)))))) 0 1 y472) else (davitlaw09_LoopNone.j1 k1 (wrap64 ((wrap64 (Int.tmod a0 10)) + 2)) (Int.tmod (wrap64 (a1)) (wrap64 ((wrap64 (Int.tmod a0 10)) + 2))) true 0 1 y472)) else (none)) else (davitlaw09_LoopNone.j1 k1 (wrap64 ((wrap64 (Int.tmod a0 10)) + 2)) (Int.tmod (wrap64 (a1)) (wrap64 ((wrap64 (Int.tmod a0 10)) + 2))) true 0 1 y472)) = some r := H
          have A22 := Aside0.mk A220
          clear A220
          have HC23 := Aside0.mk H
          clear H
          have hcz24_0 : wr.cell? ⟨gb462, 0, none⟩ = some (.int .i64 0) := (blk_cell BK462.out 0).trans rfl
          have hcz24_1 : wr.cell? ⟨gb462, 1, none⟩ = some (.int .i64 1) := (blk_cell BK462.out 1).trans rfl
          have hcz24_2 : wr.cell? ⟨gb462, 2, none⟩ = some (u463002) := (blk_cell BK462.out 2).trans rfl
          have hfz24_0 := blk_frozen BK462.out 0
          have hfz24_1 := blk_frozen BK462.out 1
          have hfz24_2 := blk_frozen BK462.out 2
          go_upto_region 15 with (first | ((with_reducible refine gate_builtin (b := .append) (xs := #[.tmp 34, .tmp 37]) rfl ?_); (try (refine gate_guard (by rfl) ?_; dsimp only)); at_builtin; refine Kd.R_append k50 (w0 := w) w.heap.size rfl (.tmp 34) (.tmp 37) 22 50 (.agg #[(.bool false), (.int .i64 0), (.slice none 0 0), (.bool false), (.bool false), (.slice none 0 0), (.int .i64 0), (.int .i64 0), (.int .i64 0), (.int .i64 0), (.slice none 0 0), (.int .i64 0), (.int .i64 0), (.int .i64 0)]) 152 rfl Try.underlying22 info50 rfl (by decide) (by omega) u463002 x463002_1 (⟨false, (⟨0, ([] : List Int), false, false⟩ : S47), ([] : List (S117)), (⟨1, 0, 0, 0, ([] : List Int), 0, 0, 0⟩ : S44)⟩ : S50) [.bool false, .int .i64 0, .slice none 0 0, .bool false, .bool false, .slice none 0 0, .int .i64 1, .int .i64 0, .int .i64 0, .int .i64 0, .slice none 0 0, .int .i64 0, .int .i64 0, .int .i64 0] (fun _ => True) (fun k_ => ((fun _ => True)) k_ ∧ some k_ ≠ (u463002 : Value).ownBlock) rfl rfl ?aP (fun _ hk => hk) ?aF ?aO ?aB ?aS ?aL ?_; (case aP => exact k50_mkM _ _ _ (⟨false, (⟨0, ([] : List Int), false, false⟩ : S47), ([] : List (S117)), (⟨1, 0, 0, 0, ([] : List Int), 0, 0, 0⟩ : S44)⟩ : S50) (Kd.R_nil _ _ _ _ _) (Kd.R_nil _ _ _ _ _) (Kd.R_nil _ _ _ _ _)); (case aB => exact (by repeat (first | (with_reducible first | exact HB.out | apply below_alloc | apply pw_below_drewN | apply below_drew1 | refine below_set ?_ GE462.out) | exact HB.out))); (case aF => exact (fun _ _ => trivial)); (case aO => exact (by (with_reducible repeat (first | apply Kd.R_alloc | apply Kd.R_drewN | apply Kd.R_drew)); exact HO_463002.out)); (case aS => exact (below_size (by repeat (first | (with_reducible first | exact HB.out | apply below_alloc | apply pw_below_drewN | apply below_drew1 | refine below_set ?_ GE462.out) | exact HB.out)))); (case aL => have := LMc14.out; omega); intro v467 w25 ho hb hg hat; rw [← Ny466.out] at ho; have n0_ := Aside0.mk (blk_grown (g := gb462) (o := .cells #[.int .i64 0, .int .i64 1, u463002] 24 (0, 0)) (by (with_reducible repeat (first | refine blk_drewN ?_ _ | refine blk_drew ?_ | refine blk_alloc ?_ _)); exact BK462.out) hg (Kd.R_ne HO_463002.out BK462.out (by decide))); have n1_ := Aside0.mk (hb); have n2_ := Aside0.mk (ho); clear BK462; clear HB; clear HO_463002; have BK462 := n0_; have HB := n1_; have HO468 := n2_; clear n0_ n1_ n2_; clear ho hb hg hat; obtain ⟨Ao26, co26, eo26⟩ := Kd.R_slice HO468.out; subst eo26; have hcz27_0 : w25.cell? ⟨gb462, 0, none⟩ = some (.int .i64 0) := (blk_cell BK462.out 0).trans rfl; have hcz27_1 : w25.cell? ⟨gb462, 1, none⟩ = some (.int .i64 1) := (blk_cell BK462.out 1).trans rfl; have hcz27_2 : w25.cell? ⟨gb462, 2, none⟩ = some (u463002) := (blk_cell BK462.out 2).trans rfl; have hfz27_0 := blk_frozen BK462.out 0; have hfz27_1 := blk_frozen BK462.out 1; have hfz27_2 := blk_frozen BK462.out 2) | ((with_reducible refine gate_callee (f := 23) rfl ?_); refine goesL_ (some 41) rfl rfl Try.func23 (by kernel_rfl) rfl #[.agg #[.int .i64 0, .int .i64 1, .slice Ao26 y466.length co26]] rfl (by (try simp only [List.map_toArray, List.map_cons, List.map_nil]); first | done | rfl | (simp only [List.length_drop, List.length_take]; rfl)) ?_; (with_reducible refine (loop_All.calls k1 0 1 _ _ y466 t469 _ ?side1 ?side2 A15.out).mono ?_); (case side1 => refine (Kd.R_reads' (e := 50) (base := w.heap.size) (ok := fun k_ => True) (n := y466.length) (c := co26) ?_).2.2; exact (by (with_reducible repeat (first | apply Kd.R_alloc | apply Kd.R_drewN | apply Kd.R_drew)); exact (Kd.R_mono (Kd.R_far (p := ⟨gb462, 2, none⟩) (Kd.R_types HO468.out BK462.out (by decide)) (fun _ hk => hk.2) (.slice Ao26 y466.length co26)) (fun _ h_ => h_.1)))); (case side2 => exact (Kd.R_reads' HO468.out).2.1); rintro e w28 ⟨v470, rfl, ho0, hb⟩; refine ⟨_, rfl, ?_⟩; have n0_ := Aside0.mk (Kd.R_below (by (with_reducible repeat (first | apply Kd.R_alloc | apply Kd.R_drewN | apply Kd.R_drew)); exact (Kd.R_mono (Kd.R_far (p := ⟨gb462, 2, none⟩) (Kd.R_types HO468.out BK462.out (by decide)) (fun _ hk => hk.2) (.slice Ao26 y466.length co26)) (fun _ h_ => h_.1))) hb); have n1_ := Aside0.mk (Kd.S_lower ho0 (below_size (by repeat (first | (with_reducible first | exact HB.out | apply below_alloc | apply pw_below_drewN | apply below_drew1 | refine below_set ?_ GE462.out) | exact HB.out)))); have n2_ := Aside0.mk (blk_below (g := gb462) (o := .cells #[.int .i64 0, .int .i64 1, .slice Ao26 y466.length co26] 24 (0, 0)) (by (with_reducible repeat (first | refine blk_drewN ?_ _ | refine blk_drew ?_ | refine blk_alloc ?_ _)); refine blk_put (cs := #[.int .i64 0, .int .i64 1, u463002]) ?_ 2 _ rfl; (with_reducible repeat (first | refine blk_drewN ?_ _ | refine blk_drew ?_ | refine blk_alloc ?_ _)); exact BK462.out) hb); have n3_ := Aside0.mk (below_step (by repeat (first | (with_reducible first | exact HB.out | apply below_alloc | apply pw_below_drewN | apply below_drew1 | refine below_set ?_ GE462.out) | exact HB.out)) hb); clear HO468; clear BK462; clear HB; have HO468 := n0_; have HO471 := n1_; have BK462 := n2_; have HB := n3_; clear n0_ n1_ n2_ n3_; (try clear hb); (try clear hb2); (try clear hk); (try clear hi); (try clear ho0); obtain ⟨Ao29, co29, eo29⟩ := Kd.S_slice HO471.out; subst eo29; have hcz30_0 : w28.cell? ⟨gb462, 0, none⟩ = some (.int .i64 0) := (blk_cell BK462.out 0).trans rfl; have hcz30_1 : w28.cell? ⟨gb462, 1, none⟩ = some (.int .i64 1) := (blk_cell BK462.out 1).trans rfl; have hcz30_2 : w28.cell? ⟨gb462, 2, none⟩ = some (.slice Ao26 y466.length co26) := (blk_cell BK462.out 2).trans rfl; have hfz30_0 := blk_frozen BK462.out 0; have hfz30_1 := blk_frozen BK462.out 1; have hfz30_2 := blk_frozen BK462.out 2; have p21 : 0 ≤ ((ji18) : Int) := of_decide_eq_true (by first | (with_reducible assumption) | assumption); have q21 : ((ji18) : Int) < ((y466.length : Int) : Int) := of_decide_eq_true (by first | (with_reducible assumption) | assumption); obtain ⟨go21, co21, eo21, gb21, gl21, cl21, HG21⟩ := Kd.R_form HO468.out (by omega); (first | cases eo21 | (injection eo21 with ea_ en_ ec_; (first | subst ea_ | (injection ea_ with ea_; subst ea_)); subst ec_; clear en_)); have GB21 := Aside0.mk gb21; have GG21 := Aside0.mk HG21; clear gb21 gl21 HG21; obtain ⟨ce21, hcl21, hM21, hcc21, hfr21⟩ := Kd.R_elem HO468.out z50 ((ji18) : Int) p21 q21; obtain ⟨ve21_2, ve21_5, ve21_10, rfl, ge21_2, ge21_5, ge21_10⟩ := k50_openM hM21; have hx21_0 : w28.cell? ⟨go21, ((ji18) : Int).toNat * 14, none⟩ = some (.bool ((rd_T50 y466 (ji18)).f0)) := hcc21 0 _ rfl; have hx21_1 : w28.cell? ⟨go21, ((ji18) : Int).toNat * 14 + 1, none⟩ = some (.int .i64 ((rd_T50 y466 (ji18)).f1.f0)) := hcc21 1 _ rfl; have hx21_2 : w28.cell? ⟨go21, ((ji18) : Int).toNat * 14 + 2, none⟩ = some (ve21_2) := hcc21 2 _ rfl; have hx21_3 : w28.cell? ⟨go21, ((ji18) : Int).toNat * 14 + 3, none⟩ = some (.bool ((rd_T50 y466 (ji18)).f1.f2)) := hcc21 3 _ rfl; have hx21_4 : w28.cell? ⟨go21, ((ji18) : Int).toNat * 14 + 4, none⟩ = some (.bool ((rd_T50 y466 (ji18)).f1.f3)) := hcc21 4 _ rfl; have hx21_5 : w28.cell? ⟨go21, ((ji18) : Int).toNat * 14 + 5, none⟩ = some (ve21_5) := hcc21 5 _ rfl; have hx21_6 : w28.cell? ⟨go21, ((ji18) : Int).toNat * 14 + 6, none⟩ = some (.int .i64 ((rd_T50 y466 (ji18)).f3.f0)) := hcc21 6 _ rfl; have hx21_7 : w28.cell? ⟨go21, ((ji18) : Int).toNat * 14 + 7, none⟩ = some (.int .i64 ((rd_T50 y466 (ji18)).f3.f1)) := hcc21 7 _ rfl; have hx21_8 : w28.cell? ⟨go21, ((ji18) : Int).toNat * 14 + 8, none⟩ = some (.int .i64 ((rd_T50 y466 (ji18)).f3.f2)) := hcc21 8 _ rfl; have hx21_9 : w28.cell? ⟨go21, ((ji18) : Int).toNat * 14 + 9, none⟩ = some (.int .i64 ((rd_T50 y466 (ji18)).f3.f3)) := hcc21 9 _ rfl; have hx21_10 : w28.cell? ⟨go21, ((ji18) : Int).toNat * 14 + 10, none⟩ = some (ve21_10) := hcc21 10 _ rfl; have hx21_11 : w28.cell? ⟨go21, ((ji18) : Int).toNat * 14 + 11, none⟩ = some (.int .i64 ((rd_T50 y466 (ji18)).f3.f5)) := hcc21 11 _ rfl; have hx21_12 : w28.cell? ⟨go21, ((ji18) : Int).toNat * 14 + 12, none⟩ = some (.int .i64 ((rd_T50 y466 (ji18)).f3.f6)) := hcc21 12 _ rfl; have hx21_13 : w28.cell? ⟨go21, ((ji18) : Int).toNat * 14 + 13, none⟩ = some (.int .i64 ((rd_T50 y466 (ji18)).f3.f7)) := hcc21 13 _ rfl; have hf21_0 : w28.frozen? ⟨go21, ((ji18) : Int).toNat * 14, none⟩ = false := hfr21 0; have hf21_1 : w28.frozen? ⟨go21, ((ji18) : Int).toNat * 14 + 1, none⟩ = false := hfr21 1; have hf21_2 : w28.frozen? ⟨go21, ((ji18) : Int).toNat * 14 + 2, none⟩ = false := hfr21 2; have hf21_3 : w28.frozen? ⟨go21, ((ji18) : Int).toNat * 14 + 3, none⟩ = false := hfr21 3; have hf21_4 : w28.frozen? ⟨go21, ((ji18) : Int).toNat * 14 + 4, none⟩ = false := hfr21 4; have hf21_5 : w28.frozen? ⟨go21, ((ji18) : Int).toNat * 14 + 5, none⟩ = false := hfr21 5; have hf21_6 : w28.frozen? ⟨go21, ((ji18) : Int).toNat * 14 + 6, none⟩ = false := hfr21 6; have hf21_7 : w28.frozen? ⟨go21, ((ji18) : Int).toNat * 14 + 7, none⟩ = false := hfr21 7; have hf21_8 : w28.frozen? ⟨go21, ((ji18) : Int).toNat * 14 + 8, none⟩ = false := hfr21 8; have hf21_9 : w28.frozen? ⟨go21, ((ji18) : Int).toNat * 14 + 9, none⟩ = false := hfr21 9; have hf21_10 : w28.frozen? ⟨go21, ((ji18) : Int).toNat * 14 + 10, none⟩ = false := hfr21 10; have hf21_11 : w28.frozen? ⟨go21, ((ji18) : Int).toNat * 14 + 11, none⟩ = false := hfr21 11; have hf21_12 : w28.frozen? ⟨go21, ((ji18) : Int).toNat * 14 + 12, none⟩ = false := hfr21 12; have hf21_13 : w28.frozen? ⟨go21, ((ji18) : Int).toNat * 14 + 13, none⟩ = false := hfr21 13; clear hcl21 hcc21 hfr21 hM21; replace p21 := eq_true p21; replace q21 := eq_true q21; have HX31 := Aside0.mk (show Kd.R k50 50 w28 w.heap.size (fun _ => True) (.slice (some ⟨go21, 0, none⟩) y466.length co26) y466 from (by (with_reducible repeat (first | apply Kd.R_alloc | apply Kd.R_drewN | apply Kd.R_drew)); exact HO468.out)); obtain ⟨ce31, hcl31, hM31, hcc31, hfr31⟩ := Kd.R_elem HX31.out z50 ((ji18) : Int) (of_decide_eq_true (by first | (with_reducible assumption) | assumption)) (by have h_ : ((ji18) : Int) < ((y466.length : Int) : Int) := of_decide_eq_true (by first | (with_reducible assumption) | assumption); first | exact h_ | (have e_ := (Kd.R_reads' HO468.out).1; omega) | simpa using h_); obtain ⟨ve31_2, ve31_5, ve31_10, rfl, ge31_2, ge31_5, ge31_10⟩ := k50_openM hM31; have HP31 := Kd.R_seg HX31.out ((ji18) : Int) (of_decide_eq_true (by first | (with_reducible assumption) | assumption)) (by have h_ : ((ji18) : Int) < ((y466.length : Int) : Int) := of_decide_eq_true (by first | (with_reducible assumption) | assumption); first | exact h_ | (have e_ := (Kd.R_reads' HO468.out).1; omega) | simpa using h_) (seg := [.int .i64 3, .int .i64 0, .int .i64 0, .int .i64 0, .slice none 0 0, .int .i64 (Int.tmod (wrap64 (a1)) (wrap64 ((wrap64 (Int.tmod a0 10)) + 2))), .int .i64 (wrap64 ((wrap64 (Int.tmod a0 10)) + 2)), .int .i64 0]) (j := 6) hcl31 hcc31 (show 14 ≤ 14 from by decide) (x' := (⟨(rd_T50 y466 (ji18)).f0, (⟨(rd_T50 y466 (ji18)).f1.f0, (rd_T50 y466 (ji18)).f1.f1, (rd_T50 y466 (ji18)).f1.f2, (rd_T50 y466 (ji18)).f1.f3⟩ : S47), (rd_T50 y466 (ji18)).f2, (⟨3, 0, 0, 0, ([] : List Int), Int.tmod (wrap64 (a1)) (wrap64 ((wrap64 (Int.tmod a0 10)) + 2)), (wrap64 ((wrap64 (Int.tmod a0 10)) + 2)), 0⟩ : S44)⟩ : S50)) (k50_mkM _ _ _ (⟨(rd_T50 y466 (ji18)).f0, (⟨(rd_T50 y466 (ji18)).f1.f0, (rd_T50 y466 (ji18)).f1.f1, (rd_T50 y466 (ji18)).f1.f2, (rd_T50 y466 (ji18)).f1.f3⟩ : S47), (rd_T50 y466 (ji18)).f2, (⟨3, 0, 0, 0, ([] : List Int), Int.tmod (wrap64 (a1)) (wrap64 ((wrap64 (Int.tmod a0 10)) + 2)), (wrap64 ((wrap64 (Int.tmod a0 10)) + 2)), 0⟩ : S44)⟩ : S50) ge31_2 ge31_5 (Kd.R_nil _ _ _ _ _)) (fun _ hk => hk); have hx31_6 := hcc31 6 _ rfl; (try simp only [show (k50).sz = 14 from rfl, Nat.mul_one, Nat.add_zero] at hx31_6); have hf31_6 := hfr31 6; (try simp only [show (k50).sz = 14 from rfl, Nat.mul_one, Nat.add_zero] at hf31_6); have hx31_7 := hcc31 7 _ rfl; (try simp only [show (k50).sz = 14 from rfl, Nat.mul_one, Nat.add_zero] at hx31_7); have hf31_7 := hfr31 7; (try simp only [show (k50).sz = 14 from rfl, Nat.mul_one, Nat.add_zero] at hf31_7); have hx31_8 := hcc31 8 _ rfl; (try simp only [show (k50).sz = 14 from rfl, Nat.mul_one, Nat.add_zero] at hx31_8); have hf31_8 := hfr31 8; (try simp only [show (k50).sz = 14 from rfl, Nat.mul_one, Nat.add_zero] at hf31_8); have hx31_9 := hcc31 9 _ rfl; (try simp only [show (k50).sz = 14 from rfl, Nat.mul_one, Nat.add_zero] at hx31_9); have hf31_9 := hfr31 9; (try simp only [show (k50).sz = 14 from rfl, Nat.mul_one, Nat.add_zero] at hf31_9); have hx31_10 := hcc31 10 _ rfl; (try simp only [show (k50).sz = 14 from rfl, Nat.mul_one, Nat.add_zero] at hx31_10); have hf31_10 := hfr31 10; (try simp only [show (k50).sz = 14 from rfl, Nat.mul_one, Nat.add_zero] at hf31_10); have hx31_11 := hcc31 11 _ rfl; (try simp only [show (k50).sz = 14 from rfl, Nat.mul_one, Nat.add_zero] at hx31_11); have hf31_11 := hfr31 11; (try simp only [show (k50).sz = 14 from rfl, Nat.mul_one, Nat.add_zero] at hf31_11); have hx31_12 := hcc31 12 _ rfl; (try simp only [show (k50).sz = 14 from rfl, Nat.mul_one, Nat.add_zero] at hx31_12); have hf31_12 := hfr31 12; (try simp only [show (k50).sz = 14 from rfl, Nat.mul_one, Nat.add_zero] at hf31_12); have hx31_13 := hcc31 13 _ rfl; (try simp only [show (k50).sz = 14 from rfl, Nat.mul_one, Nat.add_zero] at hx31_13); have hf31_13 := hfr31 13; (try simp only [show (k50).sz = 14 from rfl, Nat.mul_one, Nat.add_zero] at hf31_13); clear hcl31 hcc31 hfr31 hM31) | ((with_reducible refine gate_store (t := 44) (p := 56) rfl ?_); refine store_event (t := 44) (p := 56) (v := ?vo_w32) (w1 := ((((((((w28.setCell ⟨go21, ((ji18) : Int).toNat * 14 + 6, none⟩ (.int .i64 3)).setCell ⟨go21, ((ji18) : Int).toNat * 14 + 7, none⟩ (.int .i64 0)).setCell ⟨go21, ((ji18) : Int).toNat * 14 + 8, none⟩ (.int .i64 0)).setCell ⟨go21, ((ji18) : Int).toNat * 14 + 9, none⟩ (.int .i64 0)).setCell ⟨go21, ((ji18) : Int).toNat * 14 + 10, none⟩ (.slice none 0 0)).setCell ⟨go21, ((ji18) : Int).toNat * 14 + 11, none⟩ (.int .i64 (Int.tmod (wrap64 (a1)) (wrap64 ((wrap64 (Int.tmod a0 10)) + 2))))).setCell ⟨go21, ((ji18) : Int).toNat * 14 + 12, none⟩ (.int .i64 (wrap64 ((wrap64 (Int.tmod a0 10)) + 2)))).setCell ⟨go21, ((ji18) : Int).toNat * 14 + 13, none⟩ (.int .i64 0))) ?hg ?ho ?hn ?hr ?_; (case ho => rfl); (case hg => rfl); (case hn => rfl); (case hr => first | (go_simp; done) | (go_simp; rfl)); intro w32 hw; have hg : w28.grownBy w32 (some go21) := (by rw [hw]; exact HP31.2); have hp_ : Kd.R k50 50 w32 w.heap.size (fun _ => True) (.slice (some ⟨go21, 0, none⟩) y466.length co26) y472 := (by rw [hw, Ny472.out]; exact HP31.1); clear HP31; have n0_ := Aside0.mk (blk_grown (g := gb462) (o := .cells #[.int .i64 0, .int .i64 1, .slice (some ⟨go21, 0, none⟩) y466.length co26] 24 (0, 0)) (by (with_reducible repeat (first | refine blk_drewN ?_ _ | refine blk_drew ?_ | refine blk_alloc ?_ _)); exact BK462.out) hg (Kd.R_ne HO468.out BK462.out (by decide))); have n1_ := Aside0.mk (hp_); have n2_ := Aside0.mk (Kd.S_over' (v := (.slice (some ⟨go21, 0, none⟩) y466.length co26)) (by (with_reducible repeat (first | apply Kd.S_alloc | apply Kd.S_drewN | apply Kd.S_drew)); exact HO471.out) (Kd.R_typed HO468.out) (by decide) hg); have n3_ := Aside0.mk ((by rw [hw]; exact below_set (below_set (below_set (below_set (below_set (below_set (below_set (below_set (HB.out) GB21.out) GB21.out) GB21.out) GB21.out) GB21.out) GB21.out) GB21.out) GB21.out : Below w.heap.size w w32)); clear BK462; clear HO468; clear HO471; clear HB; have BK462 := n0_; have HO468 := n1_; have HO471 := n2_; have HB := n3_; clear n0_ n1_ n2_ n3_; clear hg hw hp_; have hcz33_0 : w32.cell? ⟨gb462, 0, none⟩ = some (.int .i64 0) := (blk_cell BK462.out 0).trans rfl; have hcz33_1 : w32.cell? ⟨gb462, 1, none⟩ = some (.int .i64 1) := (blk_cell BK462.out 1).trans rfl; have hcz33_2 : w32.cell? ⟨gb462, 2, none⟩ = some (.slice (some ⟨go21, 0, none⟩) y466.length co26) := (blk_cell BK462.out 2).trans rfl; have hfz33_0 := blk_frozen BK462.out 0; have hfz33_1 := blk_frozen BK462.out 1; have hfz33_2 := blk_frozen BK462.out 2) | ((with_reducible refine gate_callee (f := 23) rfl ?_); refine goesL_ (some 58) rfl rfl Try.func23 (by kernel_rfl) rfl #[.agg #[.int .i64 0, .int .i64 1, .slice (some ⟨go21, 0, none⟩) y472.length co26]] rfl (by (try simp only [List.map_toArray, List.map_cons, List.map_nil]); first | done | (rw [show y472.length = y466.length from (Kd.R_reads' HO468.out).1.symm] <;> rfl) | rfl | (simp only [List.length_drop, List.length_take]; rfl)) ?_; (with_reducible refine (loop_All.calls k1 0 1 _ _ y472 t473 _ ?side1 ?side2 A22.out).mono ?_); (case side1 => repeat (first | exact (Kd.R_reads' HO468.out).2.2 | (with_reducible refine Kd.C_alloc ?_ _) | (with_reducible refine Kd.C_drewN ?_ _) | (with_reducible refine Kd.C_drew ?_))); (case side2 => rw [show y472.length = y466.length from (Kd.R_reads' HO468.out).1.symm]; exact (Kd.R_reads' HO468.out).2.1); rintro e w34 ⟨v474, rfl, ho0, hb⟩; refine ⟨_, rfl, ?_⟩; have n0_ := Aside0.mk (Kd.R_below (by (with_reducible repeat (first | apply Kd.R_alloc | apply Kd.R_drewN | apply Kd.R_drew)); exact HO468.out) hb); have n1_ := Aside0.mk (Kd.S_elder' (by (with_reducible repeat (first | apply Kd.S_alloc | apply Kd.S_drewN | apply Kd.S_drew)); exact HO471.out) (Kd.S_base ho0) hb); have n2_ := Aside0.mk (Kd.S_lower (Kd.S_new' ho0 (Kd.S_lt (by (with_reducible repeat (first | apply Kd.S_alloc | apply Kd.S_drewN | apply Kd.S_drew)); exact HO471.out))) (below_size (by repeat (first | (with_reducible first | exact HB.out | apply below_alloc | apply pw_below_drewN | apply below_drew1 | refine below_set ?_ GE462.out) | exact HB.out)))); have n3_ := Aside0.mk (blk_below (g := gb462) (o := .cells #[.int .i64 0, .int .i64 1, .slice (some ⟨go21, 0, none⟩) y466.length co26] 24 (0, 0)) (by (with_reducible repeat (first | refine blk_drewN ?_ _ | refine blk_drew ?_ | refine blk_alloc ?_ _)); exact BK462.out) hb); have n4_ := Aside0.mk (below_step (by repeat (first | (with_reducible first | exact HB.out | apply below_alloc | apply pw_below_drewN | apply below_drew1 | refine below_set ?_ GE462.out) | exact HB.out)) hb); clear HO468; clear HO471; clear BK462; clear HB; have HO468 := n0_; have HO471 := n1_; have HO475 := n2_; have BK462 := n3_; have HB := n4_; clear n0_ n1_ n2_ n3_ n4_; (try clear hb); (try clear hb2); (try clear hk); (try clear hi); (try clear ho0)))
          (try simp only [Act.put, List.setIfInBounds_toArray, List.set_cons_zero, List.set_cons_succ])
          go_cut [80] (fun v80 wc => ∃ (kq : Nat) (x80_22 : Bool), v80 = .bool x80_22 ∧ Aside0 (davitlaw09_LoopNone.j1 kq (wrap64 ((wrap64 (Int.tmod a0 10)) + 2)) (Int.tmod (wrap64 (a1)) (wrap64 ((wrap64 (Int.tmod a0 10)) + 2))) x80_22 0 1 y472 = some r) ∧ Aside0 (kq ≤ k1) ∧ Aside0 (Kd.R k50 50 wc w.heap.size (fun _ => True) (.slice (some ⟨go21, 0, none⟩) y466.length co26) y472) ∧ Aside0 (wc.heap[gb462]? = some (.cells #[.int .i64 0, .int .i64 1, (.slice (some ⟨go21, 0, none⟩) y466.length co26)] 24 (0, 0))) ∧ Aside0 (Below w.heap.size w wc))
          case first =>
           have H := HC23.out
           clear HC23
           by_cases c35 : (t473.length : Int) = 1
           ·rw [if_pos c35] at H
            have c35b0 : ((t473.length : Int) == 1) = true := beq_iff_eq.mpr c35
            have c35b1 : ((t473.length : Int) != 1) = false := bne_eq_false_iff_eq.mpr c35
            clear c35
            (first | rw [c35b0] | (simp only [i64_w, i32_w]; rw [c35b0]) | skip)
            by_cases c36 : 0 < (t473.length : Int)
            ·rw [if_pos c36] at H
             have c36b0 : decide (0 < (t473.length : Int)) = true := decide_eq_true c36
             have c36b1 : decide (0 < t473.length) = true := decide_eq_true (by omega)
             clear c36
             by_cases c37 : ((rd_T40 t473 0).f0) = (Int.tmod (wrap64 (a1)) (wrap64 ((wrap64 (Int.tmod a0 10)) + 2)))
             ·rw [if_pos c37] at H
              have c37b0 : (((rd_T40 t473 0).f0) == (Int.tmod (wrap64 (a1)) (wrap64 ((wrap64 (Int.tmod a0 10)) + 2)))) = true := beq_iff_eq.mpr c37
              have c37b1 : (((rd_T40 t473 0).f0) != (Int.tmod (wrap64 (a1)) (wrap64 ((wrap64 (Int.tmod a0 10)) + 2)))) = false := bne_eq_false_iff_eq.mpr c37
              clear c37
              have H' := Aside0.mk H
              clear H
              obtain ⟨Ao38, co38, eo38⟩ := Kd.S_slice HO475.out
              subst eo38
              have p476 : 0 ≤ (0 : Int) := (by omega)
              have q476 : 0 < (t473.length : Int) := of_decide_eq_true (by first | (with_reducible assumption) | assumption)
              obtain ⟨ad476, A476_1, c476_1, e476, hx476_0, hx476_1, hl476_1, hi476_1⟩ := at_T40 (Kd.S_reads' HO475.out).2.2 0 p476 q476
              cases e476
              obtain ⟨ce476, hce476, hMe476, hcc476⟩ := Kd.S_get HO475.out z40 0 p476 (by first | exact q476 | exact of_decide_eq_true (by first | (with_reducible assumption) | assumption) | (have e_ := (Kd.S_reads' HO475.out).1; omega))
              obtain ⟨ve476_1, rfl, ge476_1⟩ := k40_openM hMe476
              have hv476_1 := hcc476 1 _ rfl
              rw [add_field _ _ 1 (by omega)] at hv476_1
              replace hv476_1 := Option.some.inj (hv476_1.symm.trans hx476_1)
              rw [hv476_1] at ge476_1
              have HL476_1 := Aside0.mk (show Kd.R (Kd.int .i64) 3 _ _ _ _ ((rd_T40 t473 0).f1) from ge476_1)
              clear hv476_1 ge476_1
              clear hcc476 hce476
              have qi476 : (0 < t473.length) = True := eq_true (by omega)
              (try rw [show ((0 : Int)).toNat = 0 from rfl] at hx476_0)
              (try rw [show 0 * 2 = 0 from rfl] at hx476_0)
              (try rw [Addr.add_zero'] at hx476_0)
              (try rw [show ((0 : Int)).toNat = 0 from rfl] at hx476_1)
              (try rw [show 0 * 2 = 0 from rfl] at hx476_1)
              (try rw [Addr.add_zero'] at hx476_1)
              have HR476_1 := Aside0.mk hi476_1
              have HC476_1 := Aside0.mk hl476_1
              clear hi476_1 hl476_1
              replace p476 := eq_true p476
              replace q476 := eq_true q476
              have p477 : 0 ≤ (0 : Int) := (by omega)
              have q477 : 0 < (t473.length : Int) := of_decide_eq_true (by first | (with_reducible assumption) | assumption)
              obtain ⟨ad477, A477_1, c477_1, e477, hx477_0, hx477_1, hl477_1, hi477_1⟩ := at_T40 (Kd.S_reads' HO475.out).2.2 0 p477 q477
              obtain rfl : ad476 = ad477 := (by injection e477)
              obtain ⟨ce477, hce477, hMe477, hcc477⟩ := Kd.S_get HO475.out z40 0 p477 (by first | exact q477 | exact of_decide_eq_true (by first | (with_reducible assumption) | assumption) | (have e_ := (Kd.S_reads' HO475.out).1; omega))
              obtain ⟨ve477_1, rfl, ge477_1⟩ := k40_openM hMe477
              have hv477_1 := hcc477 1 _ rfl
              rw [add_field _ _ 1 (by omega)] at hv477_1
              replace hv477_1 := Option.some.inj (hv477_1.symm.trans hx477_1)
              rw [hv477_1] at ge477_1
              have HL477_1 := Aside0.mk (show Kd.R (Kd.int .i64) 3 _ _ _ _ ((rd_T40 t473 0).f1) from ge477_1)
              clear hv477_1 ge477_1
              clear hcc477 hce477
              have qi477 : (0 < t473.length) = True := eq_true (by omega)
              (try rw [show ((0 : Int)).toNat = 0 from rfl] at hx477_0)
              (try rw [show 0 * 2 = 0 from rfl] at hx477_0)
              (try rw [Addr.add_zero'] at hx477_0)
              (try rw [show ((0 : Int)).toNat = 0 from rfl] at hx477_1)
              (try rw [show 0 * 2 = 0 from rfl] at hx477_1)
              (try rw [Addr.add_zero'] at hx477_1)
              have HR477_1 := Aside0.mk hi477_1
              have HC477_1 := Aside0.mk hl477_1
              clear hi477_1 hl477_1
              replace p477 := eq_true p477
              replace q477 := eq_true q477
              have ea_ := Option.some.inj (hx476_1.symm.trans hx477_1)
              injection ea_ with ea_ en_ ec_
              subst ea_
              subst ec_
              clear en_
              go_wp2
              go_meet
              case rel => exact ⟨_, (((((rd_T40 t473 0).f1).length : Int) != (wrap64 ((wrap64 ((wrap64 (Int.tmod a0 10)) + 2)) - (Int.tmod (wrap64 (a1)) (wrap64 ((wrap64 (Int.tmod a0 10)) + 2))))))), (by first | rfl | (simp; done) | (simp [*]; done)), H', ⟨by have := HK1.out; first | omega | exact Nat.le_refl _⟩, ⟨by (with_reducible repeat (first | apply Kd.R_alloc | apply Kd.R_drewN | apply Kd.R_drew)); exact HO468.out⟩, ⟨by (with_reducible repeat (first | refine blk_drewN ?_ _ | refine blk_drew ?_ | refine blk_alloc ?_ _)); exact BK462.out⟩, ⟨by repeat (first | (with_reducible first | exact HB.out | apply below_alloc | apply pw_below_drewN | apply below_drew1 | refine below_set ?_ GE462.out) | exact HB.out)⟩⟩
             ·rw [if_neg c37] at H
              have c37b0 : (((rd_T40 t473 0).f0) == (Int.tmod (wrap64 (a1)) (wrap64 ((wrap64 (Int.tmod a0 10)) + 2)))) = false := beq_eq_false_iff_ne.mpr c37
              have c37b1 : (((rd_T40 t473 0).f0) != (Int.tmod (wrap64 (a1)) (wrap64 ((wrap64 (Int.tmod a0 10)) + 2)))) = true := bne_iff_ne.mpr c37
              have H' := Aside0.mk H
              clear H
              obtain ⟨Ao39, co39, eo39⟩ := Kd.S_slice HO475.out
              subst eo39
              have p476 : 0 ≤ (0 : Int) := (by omega)
              have q476 : 0 < (t473.length : Int) := of_decide_eq_true (by first | (with_reducible assumption) | assumption)
              obtain ⟨ad476, A476_1, c476_1, e476, hx476_0, hx476_1, hl476_1, hi476_1⟩ := at_T40 (Kd.S_reads' HO475.out).2.2 0 p476 q476
              cases e476
              obtain ⟨ce476, hce476, hMe476, hcc476⟩ := Kd.S_get HO475.out z40 0 p476 (by first | exact q476 | exact of_decide_eq_true (by first | (with_reducible assumption) | assumption) | (have e_ := (Kd.S_reads' HO475.out).1; omega))
              obtain ⟨ve476_1, rfl, ge476_1⟩ := k40_openM hMe476
              have hv476_1 := hcc476 1 _ rfl
              rw [add_field _ _ 1 (by omega)] at hv476_1
              replace hv476_1 := Option.some.inj (hv476_1.symm.trans hx476_1)
              rw [hv476_1] at ge476_1
              have HL476_1 := Aside0.mk (show Kd.R (Kd.int .i64) 3 _ _ _ _ ((rd_T40 t473 0).f1) from ge476_1)
              clear hv476_1 ge476_1
              clear hcc476 hce476
              have qi476 : (0 < t473.length) = True := eq_true (by omega)
              (try rw [show ((0 : Int)).toNat = 0 from rfl] at hx476_0)
              (try rw [show 0 * 2 = 0 from rfl] at hx476_0)
              (try rw [Addr.add_zero'] at hx476_0)
              (try rw [show ((0 : Int)).toNat = 0 from rfl] at hx476_1)
              (try rw [show 0 * 2 = 0 from rfl] at hx476_1)
              (try rw [Addr.add_zero'] at hx476_1)
              have HR476_1 := Aside0.mk hi476_1
              have HC476_1 := Aside0.mk hl476_1
              clear hi476_1 hl476_1
              replace p476 := eq_true p476
              replace q476 := eq_true q476
              go_wp2
              go_meet
              case rel => exact ⟨_, (true), (by first | rfl | (simp; done) | (simp [*]; done)), H', ⟨by have := HK1.out; first | omega | exact Nat.le_refl _⟩, ⟨by (with_reducible repeat (first | apply Kd.R_alloc | apply Kd.R_drewN | apply Kd.R_drew)); exact HO468.out⟩, ⟨by (with_reducible repeat (first | refine blk_drewN ?_ _ | refine blk_drew ?_ | refine blk_alloc ?_ _)); exact BK462.out⟩, ⟨by repeat (first | (with_reducible first | exact HB.out | apply below_alloc | apply pw_below_drewN | apply below_drew1 | refine below_set ?_ GE462.out) | exact HB.out)⟩⟩
            ·rw [if_neg c36] at H
             exact absurd H (by simp)
           ·rw [if_neg c35] at H
            have c35b0 : ((t473.length : Int) == 1) = false := beq_eq_false_iff_ne.mpr c35
            have c35b1 : ((t473.length : Int) != 1) = true := bne_iff_ne.mpr c35
            (first | rw [c35b0] | (simp only [i64_w, i32_w]; rw [c35b0]) | skip)
            have H' := Aside0.mk H
            clear H
            obtain ⟨Ao40, co40, eo40⟩ := Kd.S_slice HO475.out
            subst eo40
            go_wp2
            go_meet
            case rel => exact ⟨_, (true), (by first | rfl | (simp; done) | (simp [*]; done)), H', ⟨by have := HK1.out; first | omega | exact Nat.le_refl _⟩, ⟨by (with_reducible repeat (first | apply Kd.R_alloc | apply Kd.R_drewN | apply Kd.R_drew)); exact HO468.out⟩, ⟨by (with_reducible repeat (first | refine blk_drewN ?_ _ | refine blk_drew ?_ | refine blk_alloc ?_ _)); exact BK462.out⟩, ⟨by repeat (first | (with_reducible first | exact HB.out | apply below_alloc | apply pw_below_drewN | apply below_drew1 | refine below_set ?_ GE462.out) | exact HB.out)⟩⟩
          case rest =>
           clear HC23
           try clear c1
           try clear c2
           try clear p2
           try clear q2
           try clear hx2
           try clear hf2
           try clear c3
           try clear hx3
           try clear hf3
           try clear c4
           try clear p4
           try clear q4
           try clear hx4
           try clear qi4
           try clear p6
           try clear c8
           try clear c8b0
           try clear c9
           try clear c10
           try clear c14
           try clear c16
           try clear c16b0
           try clear c16b1
           try clear c17
           try clear c17b0
           try clear c17b1
           try clear c19
           try clear c19b0
           try clear c20
           try clear c20b0
           try clear c21
           try clear p21
           try clear q21
           try clear hx21
           try clear hf21
           try clear c22
           try clear c23
           try clear c31
           try clear hx31
           try clear hf31
           try clear c35
           try clear c35b0
           try clear c35b1
           try clear c36
           try clear c36b0
           try clear c36b1
           try clear c37
           try clear c37b0
           try clear c37b1
           try clear hcz10_0
           try clear hcz10_1
           try clear hcz10_2
           try clear hcz13_0
           try clear hcz13_1
           try clear hcz13_2
           try clear hcz24_0
           try clear hcz24_1
           try clear hcz24_2
           try clear hcz27_0
           try clear hcz27_1
           try clear hcz27_2
           try clear hcz30_0
           try clear hcz30_1
           try clear hcz30_2
           try clear hcz33_0
           try clear hcz33_1
           try clear hcz33_2
           try clear hcz7_0
           try clear hcz7_1
           try clear hcz7_2
           try clear hfz10_0
           try clear hfz10_1
           try clear hfz10_2
           try clear hfz13_0
           try clear hfz13_1
           try clear hfz13_2
           try clear hfz24_0
           try clear hfz24_1
           try clear hfz24_2
           try clear hfz27_0
           try clear hfz27_1
           try clear hfz27_2
           try clear hfz30_0
           try clear hfz30_1
           try clear hfz30_2
           try clear hfz33_0
           try clear hfz33_1
           try clear hfz33_2
           try clear hfz7_0
           try clear hfz7_1
           try clear hfz7_2
           try clear hx21_0
           try clear hx21_1
           try clear hx21_10
           try clear hx21_11
           try clear hx21_12
           try clear hx21_13
           try clear hx21_2
           try clear hx21_3
           try clear hx21_4
           try clear hx21_5
           try clear hx21_6
           try clear hx21_7
           try clear hx21_8
           try clear hx21_9
           try clear hx31_10
           try clear hx31_11
           try clear hx31_12
           try clear hx31_13
           try clear hx31_6
           try clear hx31_7
           try clear hx31_8
           try clear hx31_9
           try clear hx476_0
           try clear hx476_1
           try clear hx477_0
           try clear hx477_1
           try clear p2
           try clear p21
           try clear p476
           try clear p477
           try clear p6
           try clear q21
           try clear q476
           try clear q477
           obtain ⟨kq, x80_22, rfl, HA, HJ22, HO_463002, BK462, HB⟩ := hcut
           have hl463002_22 := (Kd.R_reads' HO_463002.out).1
           rw [hl463002_22] at HO_463002
           (try simp only [hl463002_22])
           (try simp only [hl463002_22] at BK462)
           cases kq with
           | zero => exact absurd HA.out (by simp [davitlaw09_LoopNone.j1])
           | succ kj22 =>
            have H := HA.out
            clear HA
            simp only [davitlaw09_LoopNone.j1] at H
            by_cases c41 : x80_22 = true
            ·subst c41
             have H1 : (some false) = some r := by rw [if_pos rfl] at H; exact H
             clear H
             have H := H1
             clear H1
             obtain rfl := Option.some.inj H
             go_wp2
             go_ret
             exact ⟨by first | rfl | (simp [errW_none, errW_some] <;> rfl) | (simp only [← hji18]; first | rfl | (simp [errW_none, errW_some] <;> rfl)) | (simp [*, errW_none, errW_some] <;> rfl), by repeat (first | (with_reducible first | exact HB.out | apply below_alloc | apply pw_below_drewN | apply below_drew1 | refine below_set ?_ GE462.out) | exact HB.out)⟩
            ·replace c41 := Bool.eq_false_iff.mpr c41
             subst c41
             have H1 : (davitlaw09_LoopNone.l1 kj22 (wrap64 ((wrap64 (Int.tmod a0 10)) + 2)) (Int.tmod (wrap64 (a1)) (wrap64 ((wrap64 (Int.tmod a0 10)) + 2))) 0 0 1 y472) = some r := by rw [if_neg (show ¬ (false = true) by decide)] at H; exact H
             clear H
             have H := H1
             clear H1
             have H' := Aside0.mk H
             clear H
             go_wp2
             go_loopg [10] kj22 (fun kq v10 w' => ∃ (x10_3 : Int), v10 = .int .i64 x10_3 ∧ Aside0 (davitlaw09_LoopNone.l1 kq (wrap64 ((wrap64 (Int.tmod a0 10)) + 2)) (Int.tmod (wrap64 (a1)) (wrap64 ((wrap64 (Int.tmod a0 10)) + 2))) x10_3 0 1 y472 = some r) ∧ Aside0 (kq ≤ kj22) ∧ Aside0 (Kd.R k50 50 w' w.heap.size (fun _ => True) (.slice (some ⟨go21, 0, none⟩) y472.length co26) y472) ∧ Aside0 (w'.heap[gb462]? = some (.cells #[.int .i64 0, .int .i64 1, (.slice (some ⟨go21, 0, none⟩) y472.length co26)] 24 (0, 0))) ∧ Aside0 (Below w.heap.size w w'))
             case atStart => exact ⟨(0), (by first | rfl | (simp; done) | (simp [*]; done)), H', ⟨Nat.le_refl _⟩, ⟨by (try simp only [hl463002_22]); (with_reducible repeat (first | apply Kd.R_alloc | apply Kd.R_drewN | apply Kd.R_drew)); exact HO_463002.out⟩, ⟨by (try simp only [hl463002_22]); (with_reducible repeat (first | refine blk_drewN ?_ _ | refine blk_drew ?_ | refine blk_alloc ?_ _)); exact BK462.out⟩, ⟨by repeat (first | (with_reducible first | exact HB.out | apply below_alloc | apply pw_below_drewN | apply below_drew1 | refine below_set ?_ GE462.out) | exact HB.out)⟩⟩
             case round =>
              clear H'
              try clear c1
              try clear c2
              try clear p2
              try clear q2
              try clear hx2
              try clear hf2
              try clear c3
              try clear hx3
              try clear hf3
              try clear c4
              try clear p4
              try clear q4
              try clear hx4
              try clear qi4
              try clear p6
              try clear c8
              try clear c8b0
              try clear c9
              try clear c10
              try clear c14
              try clear c16
              try clear c16b0
              try clear c16b1
              try clear c17
              try clear c17b0
              try clear c17b1
              try clear c19
              try clear c19b0
              try clear c20
              try clear c20b0
              try clear c21
              try clear p21
              try clear q21
              try clear hx21
              try clear hf21
              try clear c22
              try clear c23
              try clear c31
              try clear hx31
              try clear hf31
              try clear c35
              try clear c35b0
              try clear c35b1
              try clear c36
              try clear c36b0
              try clear c36b1
              try clear c37
              try clear c37b0
              try clear c37b1
              try clear c41
              try clear hcz10_0
              try clear hcz10_1
              try clear hcz10_2
              try clear hcz13_0
              try clear hcz13_1
              try clear hcz13_2
              try clear hcz24_0
              try clear hcz24_1
              try clear hcz24_2
              try clear hcz27_0
              try clear hcz27_1
              try clear hcz27_2
              try clear hcz30_0
              try clear hcz30_1
              try clear hcz30_2
              try clear hcz33_0
              try clear hcz33_1
              try clear hcz33_2
              try clear hcz7_0
              try clear hcz7_1
              try clear hcz7_2
              try clear hfz10_0
              try clear hfz10_1
              try clear hfz10_2
              try clear hfz13_0
              try clear hfz13_1
              try clear hfz13_2
              try clear hfz24_0
              try clear hfz24_1
              try clear hfz24_2
              try clear hfz27_0
              try clear hfz27_1
              try clear hfz27_2
              try clear hfz30_0
              try clear hfz30_1
              try clear hfz30_2
              try clear hfz33_0
              try clear hfz33_1
              try clear hfz33_2
              try clear hfz7_0
              try clear hfz7_1
              try clear hfz7_2
              try clear hx21_0
              try clear hx21_1
              try clear hx21_10
              try clear hx21_11
              try clear hx21_12
              try clear hx21_13
              try clear hx21_2
              try clear hx21_3
              try clear hx21_4
              try clear hx21_5
              try clear hx21_6
              try clear hx21_7
              try clear hx21_8
              try clear hx21_9
              try clear hx31_10
              try clear hx31_11
              try clear hx31_12
              try clear hx31_13
              try clear hx31_6
              try clear hx31_7
              try clear hx31_8
              try clear hx31_9
              try clear hx476_0
              try clear hx476_1
              try clear hx477_0
              try clear hx477_1
              try clear p2
              try clear p21
              try clear p4
              try clear p476
              try clear p477
              try clear p6
              try clear q2
              try clear q21
              try clear q4
              try clear q476
              try clear q477
              obtain ⟨x10_3, rfl, HA, HK3, HO_463002, BK462, HB⟩ := hrel
              cases gk with
              | zero => exact absurd HA.out (by simp [davitlaw09_LoopNone.l1])
              | succ k3 =>
               have H := HA.out
               clear HA
               simp only [davitlaw09_LoopNone.l1] at H
               by_cases c42 : x10_3 ≤ (wrap64 ((wrap64 (Int.tmod a0 10)) + 2))
               ·rw [if_pos c42] at H
                have c42b0 : decide (x10_3 ≤ (wrap64 ((wrap64 (Int.tmod a0 10)) + 2))) = true := decide_eq_true c42
                clear c42
                have HC43 := Aside0.mk H
                clear H
                go_upto_region 21 with (fail)
                go_cut [93] (fun v93 wc => ∃ (kq : Nat) (x93_42 : Bool), v93 = .bool x93_42 ∧ Aside0 (davitlaw09_LoopNone.j3 kq (wrap64 ((wrap64 (Int.tmod a0 10)) + 2)) (Int.tmod (wrap64 (a1)) (wrap64 ((wrap64 (Int.tmod a0 10)) + 2))) x10_3 0 x93_42 0 1 y472 = some r) ∧ Aside0 (kq ≤ k3) ∧ Aside0 (Kd.R k50 50 wc w.heap.size (fun _ => True) (.slice (some ⟨go21, 0, none⟩) y472.length co26) y472) ∧ Aside0 (wc.heap[gb462]? = some (.cells #[.int .i64 0, .int .i64 1, (.slice (some ⟨go21, 0, none⟩) y472.length co26)] 24 (0, 0))) ∧ Aside0 (Below w.heap.size w wc))
                case first =>
                 have H := HC43.out
                 clear HC43
                 by_cases c44 : x10_3 ≥ (Int.tmod (wrap64 (a1)) (wrap64 ((wrap64 (Int.tmod a0 10)) + 2)))
                 ·rw [if_pos c44] at H
                  have c44b0 : decide ((Int.tmod (wrap64 (a1)) (wrap64 ((wrap64 (Int.tmod a0 10)) + 2))) ≤ x10_3) = true := decide_eq_true c44
                  clear c44
                  (first | rw [c44b0] | (simp only [i64_w, i32_w]; rw [c44b0]) | skip)
                  have H' := Aside0.mk H
                  clear H
                  go_wp2
                  go_meet
                  case rel => exact ⟨_, (decide (x10_3 < (wrap64 ((wrap64 (Int.tmod a0 10)) + 2)))), (by first | rfl | (simp; done) | (simp [*]; done)), H', ⟨by have := HK1.out; have := HJ22.out; have := HK3.out; first | omega | exact Nat.le_refl _⟩, ⟨by (try simp only [hl463002_22]); (with_reducible repeat (first | apply Kd.R_alloc | apply Kd.R_drewN | apply Kd.R_drew)); exact HO_463002.out⟩, ⟨by (try simp only [hl463002_22]); (with_reducible repeat (first | refine blk_drewN ?_ _ | refine blk_drew ?_ | refine blk_alloc ?_ _)); exact BK462.out⟩, ⟨by repeat (first | (with_reducible first | exact HB.out | apply below_alloc | apply pw_below_drewN | apply below_drew1 | refine below_set ?_ GE462.out) | exact HB.out)⟩⟩
                 ·rw [if_neg c44] at H
                  have c44b0 : decide ((Int.tmod (wrap64 (a1)) (wrap64 ((wrap64 (Int.tmod a0 10)) + 2))) ≤ x10_3) = false := decide_eq_false c44
                  clear c44
                  (first | rw [c44b0] | (simp only [i64_w, i32_w]; rw [c44b0]) | skip)
                  have H' := Aside0.mk H
                  clear H
                  go_wp2
                  go_meet
                  case rel => exact ⟨_, (false), (by first | rfl | (simp; done) | (simp [*]; done)), H', ⟨by have := HK1.out; have := HJ22.out; have := HK3.out; first | omega | exact Nat.le_refl _⟩, ⟨by (try simp only [hl463002_22]); (with_reducible repeat (first | apply Kd.R_alloc | apply Kd.R_drewN | apply Kd.R_drew)); exact HO_463002.out⟩, ⟨by (try simp only [hl463002_22]); (with_reducible repeat (first | refine blk_drewN ?_ _ | refine blk_drew ?_ | refine blk_alloc ?_ _)); exact BK462.out⟩, ⟨by repeat (first | (with_reducible first | exact HB.out | apply below_alloc | apply pw_below_drewN | apply below_drew1 | refine below_set ?_ GE462.out) | exact HB.out)⟩⟩
                case rest =>
                 clear HC43
                 try clear c1
                 try clear c2
                 try clear p2
                 try clear q2
                 try clear hx2
                 try clear hf2
                 try clear c3
                 try clear hx3
                 try clear hf3
                 try clear c4
                 try clear p4
                 try clear q4
                 try clear hx4
                 try clear qi4
                 try clear p6
                 try clear c8
                 try clear c8b0
                 try clear c9
                 try clear c10
                 try clear c14
                 try clear c16
                 try clear c16b0
                 try clear c16b1
                 try clear c17
                 try clear c17b0
                 try clear c17b1
                 try clear c19
                 try clear c19b0
                 try clear c20
                 try clear c20b0
                 try clear c21
                 try clear p21
                 try clear q21
                 try clear hx21
                 try clear hf21
                 try clear c22
                 try clear c23
                 try clear c31
                 try clear hx31
                 try clear hf31
                 try clear c35
                 try clear c35b0
                 try clear c35b1
                 try clear c36
                 try clear c36b0
                 try clear c36b1
                 try clear c37
                 try clear c37b0
                 try clear c37b1
                 try clear c41
                 try clear c42
                 try clear c42b0
                 try clear c44
                 try clear c44b0
                 try clear hcz10_0
                 try clear hcz10_1
                 try clear hcz10_2
                 try clear hcz13_0
                 try clear hcz13_1
                 try clear hcz13_2
                 try clear hcz24_0
                 try clear hcz24_1
                 try clear hcz24_2
                 try clear hcz27_0
                 try clear hcz27_1
                 try clear hcz27_2
                 try clear hcz30_0
                 try clear hcz30_1
                 try clear hcz30_2
                 try clear hcz33_0
                 try clear hcz33_1
                 try clear hcz33_2
                 try clear hcz7_0
                 try clear hcz7_1
                 try clear hcz7_2
                 try clear hfz10_0
                 try clear hfz10_1
                 try clear hfz10_2
                 try clear hfz13_0
                 try clear hfz13_1
                 try clear hfz13_2
                 try clear hfz24_0
                 try clear hfz24_1
                 try clear hfz24_2
                 try clear hfz27_0
                 try clear hfz27_1
                 try clear hfz27_2
                 try clear hfz30_0
                 try clear hfz30_1
                 try clear hfz30_2
                 try clear hfz33_0
                 try clear hfz33_1
                 try clear hfz33_2
                 try clear hfz7_0
                 try clear hfz7_1
                 try clear hfz7_2
                 try clear hx21_0
                 try clear hx21_1
                 try clear hx21_10
                 try clear hx21_11
                 try clear hx21_12
                 try clear hx21_13
                 try clear hx21_2
                 try clear hx21_3
                 try clear hx21_4
                 try clear hx21_5
                 try clear hx21_6
                 try clear hx21_7
                 try clear hx21_8
                 try clear hx21_9
                 try clear hx31_10
                 try clear hx31_11
                 try clear hx31_12
                 try clear hx31_13
                 try clear hx31_6
                 try clear hx31_7
                 try clear hx31_8
                 try clear hx31_9
                 try clear hx476_0
                 try clear hx476_1
                 try clear hx477_0
                 try clear hx477_1
                 try clear p2
                 try clear p21
                 try clear p4
                 try clear p476
                 try clear p477
                 try clear p6
                 try clear q2
                 try clear q21
                 try clear q4
                 try clear q476
                 try clear q477
                 obtain ⟨kq, x93_42, rfl, HA, HJ42, HO_463002, BK462, HB⟩ := hcut
                 cases kq with
                 | zero => exact absurd HA.out (by simp [davitlaw09_LoopNone.j3])
                 | succ kj42 =>
                  have H := HA.out
                  clear HA
                  simp only [davitlaw09_LoopNone.j3] at H
                  by_cases c45 : x93_42 = true
                  ·subst c45
                   have H1 : ((loop_Deep.f kj42 0 1 y472 x10_3).bind fun t478 => (if t478 = 1 then (davitlaw09_LoopNone.l1 kj42 (wrap64 ((wrap64 (Int.tmod a0 10)) + 2)) (Int.tmod (wrap64 (a1)) (wrap64 ((wrap64 (Int.tmod a0 10)) + 2))) (wrap64 (x10_3 + 1)) 0 1 y472) else (some false))) = some r := by rw [if_pos rfl] at H; exact H
                   clear H
                   have H := H1
                   clear H1
                   replace H := Option.bind_eq_some_iff.mp H
                   obtain ⟨t478, A460, H⟩ := H
                   replace H : (if t478 = 1 then (davitlaw09_LoopNone.l1 kj42 (wrap64 ((wrap64 (Int.tmod a0 10)) + 2)) (Int.tmod (wrap64 (a1)) (wrap64 ((wrap64 (Int.tmod a0 10)) + 2))) (wrap64 (x10_3 + 1)) 0 1 y472) else (some false)) = some r := H
                   have A46 := Aside0.mk A460
                   clear A460
                   by_cases c47 : t478 = 1
                   ·rw [if_pos c47] at H
                    have c47b0 : (t478 == 1) = true := beq_iff_eq.mpr c47
                    have c47b1 : (t478 != 1) = false := bne_eq_false_iff_eq.mpr c47
                    clear c47
                    have H' := Aside0.mk H
                    clear H
                    have hcz48_0 : wc.cell? ⟨gb462, 0, none⟩ = some (.int .i64 0) := (blk_cell BK462.out 0).trans rfl
                    have hcz48_1 : wc.cell? ⟨gb462, 1, none⟩ = some (.int .i64 1) := (blk_cell BK462.out 1).trans rfl
                    have hcz48_2 : wc.cell? ⟨gb462, 2, none⟩ = some (.slice (some ⟨go21, 0, none⟩) y472.length co26) := (blk_cell BK462.out 2).trans rfl
                    have hfz48_0 := blk_frozen BK462.out 0
                    have hfz48_1 := blk_frozen BK462.out 1
                    have hfz48_2 := blk_frozen BK462.out 2
                    go_wp2_with (first | ((with_reducible refine gate_callee (f := 25) rfl ?_); refine goesL_ (some 96) rfl rfl Try.func25 (by kernel_rfl) rfl #[.agg #[.int .i64 0, .int .i64 1, .slice (some ⟨go21, 0, none⟩) y472.length co26], .int .i64 x10_3] rfl (by (try simp only [List.map_toArray, List.map_cons, List.map_nil]); first | done | rfl | (simp only [List.length_drop, List.length_take]; rfl)) ?_; (with_reducible refine (loop_Deep.calls kj42 0 1 _ _ y472 x10_3 t478 _ ?side1 ?side2 A46.out).mono ?_); (case side1 => repeat (first | exact (Kd.R_reads' HO_463002.out).2.2 | (with_reducible refine Kd.C_alloc ?_ _) | (with_reducible refine Kd.C_drewN ?_ _) | (with_reducible refine Kd.C_drew ?_))); (case side2 => exact (Kd.R_reads' HO_463002.out).2.1); rintro e w49 ⟨rfl, hb⟩; refine ⟨_, rfl, ?_⟩; have n0_ := Aside0.mk (Kd.R_below (by (with_reducible repeat (first | apply Kd.R_alloc | apply Kd.R_drewN | apply Kd.R_drew)); exact HO_463002.out) hb); have n1_ := Aside0.mk (blk_below (g := gb462) (o := .cells #[.int .i64 0, .int .i64 1, .slice (some ⟨go21, 0, none⟩) y472.length co26] 24 (0, 0)) (by (with_reducible repeat (first | refine blk_drewN ?_ _ | refine blk_drew ?_ | refine blk_alloc ?_ _)); exact BK462.out) hb); have n2_ := Aside0.mk (below_step (by repeat (first | (with_reducible first | exact HB.out | apply below_alloc | apply pw_below_drewN | apply below_drew1 | refine below_set ?_ GE462.out) | exact HB.out)) hb); clear HO_463002; clear BK462; clear HB; have HO_463002 := n0_; have BK462 := n1_; have HB := n2_; clear n0_ n1_ n2_; (try clear hb); (try clear hb2); (try clear hk); (try clear hi)))
                    go_roundg kj42
                    case measure => have := HK1.out; have := HJ22.out; have := HK3.out; have := HJ42.out; omega
                    case rel => exact ⟨(wrap64 (x10_3 + 1)), (by first | rfl | (simp; done) | (simp [*]; done)), H', ⟨by have := HK1.out; have := HJ22.out; have := HK3.out; have := HJ42.out; omega⟩, ⟨by (try simp only [hl463002_22]); (with_reducible repeat (first | apply Kd.R_alloc | apply Kd.R_drewN | apply Kd.R_drew)); exact HO_463002.out⟩, ⟨by (try simp only [hl463002_22]); (with_reducible repeat (first | refine blk_drewN ?_ _ | refine blk_drew ?_ | refine blk_alloc ?_ _)); exact BK462.out⟩, ⟨by repeat (first | (with_reducible first | exact HB.out | apply below_alloc | apply pw_below_drewN | apply below_drew1 | refine below_set ?_ GE462.out) | exact HB.out)⟩⟩
                   ·rw [if_neg c47] at H
                    have c47b0 : (t478 == 1) = false := beq_eq_false_iff_ne.mpr c47
                    have c47b1 : (t478 != 1) = true := bne_iff_ne.mpr c47
                    obtain rfl := Option.some.inj H
                    have hcz50_0 : wc.cell? ⟨gb462, 0, none⟩ = some (.int .i64 0) := (blk_cell BK462.out 0).trans rfl
                    have hcz50_1 : wc.cell? ⟨gb462, 1, none⟩ = some (.int .i64 1) := (blk_cell BK462.out 1).trans rfl
                    have hcz50_2 : wc.cell? ⟨gb462, 2, none⟩ = some (.slice (some ⟨go21, 0, none⟩) y472.length co26) := (blk_cell BK462.out 2).trans rfl
                    have hfz50_0 := blk_frozen BK462.out 0
                    have hfz50_1 := blk_frozen BK462.out 1
                    have hfz50_2 := blk_frozen BK462.out 2
                    go_wp2_with (first | ((with_reducible refine gate_callee (f := 25) rfl ?_); refine goesL_ (some 96) rfl rfl Try.func25 (by kernel_rfl) rfl #[.agg #[.int .i64 0, .int .i64 1, .slice (some ⟨go21, 0, none⟩) y472.length co26], .int .i64 x10_3] rfl (by (try simp only [List.map_toArray, List.map_cons, List.map_nil]); first | done | rfl | (simp only [List.length_drop, List.length_take]; rfl)) ?_; (with_reducible refine (loop_Deep.calls kj42 0 1 _ _ y472 x10_3 t478 _ ?side1 ?side2 A46.out).mono ?_); (case side1 => repeat (first | exact (Kd.R_reads' HO_463002.out).2.2 | (with_reducible refine Kd.C_alloc ?_ _) | (with_reducible refine Kd.C_drewN ?_ _) | (with_reducible refine Kd.C_drew ?_))); (case side2 => exact (Kd.R_reads' HO_463002.out).2.1); rintro e w51 ⟨rfl, hb⟩; refine ⟨_, rfl, ?_⟩; have n0_ := Aside0.mk (Kd.R_below (by (with_reducible repeat (first | apply Kd.R_alloc | apply Kd.R_drewN | apply Kd.R_drew)); exact HO_463002.out) hb); have n1_ := Aside0.mk (blk_below (g := gb462) (o := .cells #[.int .i64 0, .int .i64 1, .slice (some ⟨go21, 0, none⟩) y472.length co26] 24 (0, 0)) (by (with_reducible repeat (first | refine blk_drewN ?_ _ | refine blk_drew ?_ | refine blk_alloc ?_ _)); exact BK462.out) hb); have n2_ := Aside0.mk (below_step (by repeat (first | (with_reducible first | exact HB.out | apply below_alloc | apply pw_below_drewN | apply below_drew1 | refine below_set ?_ GE462.out) | exact HB.out)) hb); clear HO_463002; clear BK462; clear HB; have HO_463002 := n0_; have BK462 := n1_; have HB := n2_; clear n0_ n1_ n2_; (try clear hb); (try clear hb2); (try clear hk); (try clear hi)))
                    go_ret
                    exact ⟨by first | rfl | (simp [errW_none, errW_some] <;> rfl) | (simp only [← hji18]; first | rfl | (simp [errW_none, errW_some] <;> rfl)) | (simp [*, errW_none, errW_some] <;> rfl), by repeat (first | (with_reducible first | exact HB.out | apply below_alloc | apply pw_below_drewN | apply below_drew1 | refine below_set ?_ GE462.out) | exact HB.out)⟩
                  ·replace c45 := Bool.eq_false_iff.mpr c45
                   subst c45
                   have H1 : ((loop_Deep.f kj42 0 1 y472 x10_3).bind fun t479 => (if t479 = 0 then (davitlaw09_LoopNone.l1 kj42 (wrap64 ((wrap64 (Int.tmod a0 10)) + 2)) (Int.tmod (wrap64 (a1)) (wrap64 ((wrap64 (Int.tmod a0 10)) + 2))) (wrap64 (x10_3 + 1)) 0 1 y472) else (some false))) = some r := by rw [if_neg (show ¬ (false = true) by decide)] at H; exact H
                   clear H
                   have H := H1
                   clear H1
                   replace H := Option.bind_eq_some_iff.mp H
                   obtain ⟨t479, A520, H⟩ := H
                   replace H : (if t479 = 0 then (davitlaw09_LoopNone.l1 kj42 (wrap64 ((wrap64 (Int.tmod a0 10)) + 2)) (Int.tmod (wrap64 (a1)) (wrap64 ((wrap64 (Int.tmod a0 10)) + 2))) (wrap64 (x10_3 + 1)) 0 1 y472) else (some false)) = some r := H
                   have A52 := Aside0.mk A520
                   clear A520
                   by_cases c53 : t479 = 0
                   ·rw [if_pos c53] at H
                    have c53b0 : (t479 == 0) = true := beq_iff_eq.mpr c53
                    have c53b1 : (t479 != 0) = false := bne_eq_false_iff_eq.mpr c53
                    clear c53
                    have H' := Aside0.mk H
                    clear H
                    have hcz54_0 : wc.cell? ⟨gb462, 0, none⟩ = some (.int .i64 0) := (blk_cell BK462.out 0).trans rfl
                    have hcz54_1 : wc.cell? ⟨gb462, 1, none⟩ = some (.int .i64 1) := (blk_cell BK462.out 1).trans rfl
                    have hcz54_2 : wc.cell? ⟨gb462, 2, none⟩ = some (.slice (some ⟨go21, 0, none⟩) y472.length co26) := (blk_cell BK462.out 2).trans rfl
                    have hfz54_0 := blk_frozen BK462.out 0
                    have hfz54_1 := blk_frozen BK462.out 1
                    have hfz54_2 := blk_frozen BK462.out 2
                    go_wp2_with (first | ((with_reducible refine gate_callee (f := 25) rfl ?_); refine goesL_ (some 96) rfl rfl Try.func25 (by kernel_rfl) rfl #[.agg #[.int .i64 0, .int .i64 1, .slice (some ⟨go21, 0, none⟩) y472.length co26], .int .i64 x10_3] rfl (by (try simp only [List.map_toArray, List.map_cons, List.map_nil]); first | done | rfl | (simp only [List.length_drop, List.length_take]; rfl)) ?_; (with_reducible refine (loop_Deep.calls kj42 0 1 _ _ y472 x10_3 t479 _ ?side1 ?side2 A52.out).mono ?_); (case side1 => repeat (first | exact (Kd.R_reads' HO_463002.out).2.2 | (with_reducible refine Kd.C_alloc ?_ _) | (with_reducible refine Kd.C_drewN ?_ _) | (with_reducible refine Kd.C_drew ?_))); (case side2 => exact (Kd.R_reads' HO_463002.out).2.1); rintro e w55 ⟨rfl, hb⟩; refine ⟨_, rfl, ?_⟩; have n0_ := Aside0.mk (Kd.R_below (by (with_reducible repeat (first | apply Kd.R_alloc | apply Kd.R_drewN | apply Kd.R_drew)); exact HO_463002.out) hb); have n1_ := Aside0.mk (blk_below (g := gb462) (o := .cells #[.int .i64 0, .int .i64 1, .slice (some ⟨go21, 0, none⟩) y472.length co26] 24 (0, 0)) (by (with_reducible repeat (first | refine blk_drewN ?_ _ | refine blk_drew ?_ | refine blk_alloc ?_ _)); exact BK462.out) hb); have n2_ := Aside0.mk (below_step (by repeat (first | (with_reducible first | exact HB.out | apply below_alloc | apply pw_below_drewN | apply below_drew1 | refine below_set ?_ GE462.out) | exact HB.out)) hb); clear HO_463002; clear BK462; clear HB; have HO_463002 := n0_; have BK462 := n1_; have HB := n2_; clear n0_ n1_ n2_; (try clear hb); (try clear hb2); (try clear hk); (try clear hi)))
                    go_roundg kj42
                    case measure => have := HK1.out; have := HJ22.out; have := HK3.out; have := HJ42.out; omega
                    case rel => exact ⟨(wrap64 (x10_3 + 1)), (by first | rfl | (simp; done) | (simp [*]; done)), H', ⟨by have := HK1.out; have := HJ22.out; have := HK3.out; have := HJ42.out; omega⟩, ⟨by (try simp only [hl463002_22]); (with_reducible repeat (first | apply Kd.R_alloc | apply Kd.R_drewN | apply Kd.R_drew)); exact HO_463002.out⟩, ⟨by (try simp only [hl463002_22]); (with_reducible repeat (first | refine blk_drewN ?_ _ | refine blk_drew ?_ | refine blk_alloc ?_ _)); exact BK462.out⟩, ⟨by repeat (first | (with_reducible first | exact HB.out | apply below_alloc | apply pw_below_drewN | apply below_drew1 | refine below_set ?_ GE462.out) | exact HB.out)⟩⟩
                   ·rw [if_neg c53] at H
                    have c53b0 : (t479 == 0) = false := beq_eq_false_iff_ne.mpr c53
                    have c53b1 : (t479 != 0) = true := bne_iff_ne.mpr c53
                    obtain rfl := Option.some.inj H
                    have hcz56_0 : wc.cell? ⟨gb462, 0, none⟩ = some (.int .i64 0) := (blk_cell BK462.out 0).trans rfl
                    have hcz56_1 : wc.cell? ⟨gb462, 1, none⟩ = some (.int .i64 1) := (blk_cell BK462.out 1).trans rfl
                    have hcz56_2 : wc.cell? ⟨gb462, 2, none⟩ = some (.slice (some ⟨go21, 0, none⟩) y472.length co26) := (blk_cell BK462.out 2).trans rfl
                    have hfz56_0 := blk_frozen BK462.out 0
                    have hfz56_1 := blk_frozen BK462.out 1
                    have hfz56_2 := blk_frozen BK462.out 2
                    go_wp2_with (first | ((with_reducible refine gate_callee (f := 25) rfl ?_); refine goesL_ (some 96) rfl rfl Try.func25 (by kernel_rfl) rfl #[.agg #[.int .i64 0, .int .i64 1, .slice (some ⟨go21, 0, none⟩) y472.length co26], .int .i64 x10_3] rfl (by (try simp only [List.map_toArray, List.map_cons, List.map_nil]); first | done | rfl | (simp only [List.length_drop, List.length_take]; rfl)) ?_; (with_reducible refine (loop_Deep.calls kj42 0 1 _ _ y472 x10_3 t479 _ ?side1 ?side2 A52.out).mono ?_); (case side1 => repeat (first | exact (Kd.R_reads' HO_463002.out).2.2 | (with_reducible refine Kd.C_alloc ?_ _) | (with_reducible refine Kd.C_drewN ?_ _) | (with_reducible refine Kd.C_drew ?_))); (case side2 => exact (Kd.R_reads' HO_463002.out).2.1); rintro e w57 ⟨rfl, hb⟩; refine ⟨_, rfl, ?_⟩; have n0_ := Aside0.mk (Kd.R_below (by (with_reducible repeat (first | apply Kd.R_alloc | apply Kd.R_drewN | apply Kd.R_drew)); exact HO_463002.out) hb); have n1_ := Aside0.mk (blk_below (g := gb462) (o := .cells #[.int .i64 0, .int .i64 1, .slice (some ⟨go21, 0, none⟩) y472.length co26] 24 (0, 0)) (by (with_reducible repeat (first | refine blk_drewN ?_ _ | refine blk_drew ?_ | refine blk_alloc ?_ _)); exact BK462.out) hb); have n2_ := Aside0.mk (below_step (by repeat (first | (with_reducible first | exact HB.out | apply below_alloc | apply pw_below_drewN | apply below_drew1 | refine below_set ?_ GE462.out) | exact HB.out)) hb); clear HO_463002; clear BK462; clear HB; have HO_463002 := n0_; have BK462 := n1_; have HB := n2_; clear n0_ n1_ n2_; (try clear hb); (try clear hb2); (try clear hk); (try clear hi)))
                    go_ret
                    exact ⟨by first | rfl | (simp [errW_none, errW_some] <;> rfl) | (simp only [← hji18]; first | rfl | (simp [errW_none, errW_some] <;> rfl)) | (simp [*, errW_none, errW_some] <;> rfl), by repeat (first | (with_reducible first | exact HB.out | apply below_alloc | apply pw_below_drewN | apply below_drew1 | refine below_set ?_ GE462.out) | exact HB.out)⟩
               ·rw [if_neg c42] at H
                have c42b0 : decide (x10_3 ≤ (wrap64 ((wrap64 (Int.tmod a0 10)) + 2))) = false := decide_eq_false c42
                clear c42
                obtain rfl := Option.some.inj H
                go_wp2
                go_ret
                exact ⟨by first | rfl | (simp [errW_none, errW_some] <;> rfl) | (simp only [← hji18]; first | rfl | (simp [errW_none, errW_some] <;> rfl)) | (simp [*, errW_none, errW_some] <;> rfl), by repeat (first | (with_reducible first | exact HB.out | apply below_alloc | apply pw_below_drewN | apply below_drew1 | refine below_set ?_ GE462.out) | exact HB.out)⟩
         ·rw [if_neg c20] at H
          exact absurd H (by simp)
        ·rw [if_neg c19] at H
         exact absurd H (by simp)
      ·rw [if_neg c16] at H
       have c16b0 : ((t469.length : Int) == 0) = false := beq_eq_false_iff_ne.mpr c16
       have c16b1 : ((t469.length : Int) != 0) = true := bne_iff_ne.mpr c16
       have c16b2 : ¬ (t469 = []) := fun h_ => c16 (by rw [h_]; rfl)
       obtain rfl := Option.some.inj H
       have hcz58_0 : wr.cell? ⟨gb462, 0, none⟩ = some (.int .i64 0) := (blk_cell BK462.out 0).trans rfl
       have hcz58_1 : wr.cell? ⟨gb462, 1, none⟩ = some (.int .i64 1) := (blk_cell BK462.out 1).trans rfl
       have hcz58_2 : wr.cell? ⟨gb462, 2, none⟩ = some (u463002) := (blk_cell BK462.out 2).trans rfl
       have hfz58_0 := blk_frozen BK462.out 0
       have hfz58_1 := blk_frozen BK462.out 1
       have hfz58_2 := blk_frozen BK462.out 2
       go_wp2_with (first | ((with_reducible refine gate_builtin (b := .append) (xs := #[.tmp 34, .tmp 37]) rfl ?_); (try (refine gate_guard (by rfl) ?_; dsimp only)); at_builtin; refine Kd.R_append k50 (w0 := w) w.heap.size rfl (.tmp 34) (.tmp 37) 22 50 (.agg #[(.bool false), (.int .i64 0), (.slice none 0 0), (.bool false), (.bool false), (.slice none 0 0), (.int .i64 0), (.int .i64 0), (.int .i64 0), (.int .i64 0), (.slice none 0 0), (.int .i64 0), (.int .i64 0), (.int .i64 0)]) 152 rfl Try.underlying22 info50 rfl (by decide) (by omega) u463002 x463002_1 (⟨false, (⟨0, ([] : List Int), false, false⟩ : S47), ([] : List (S117)), (⟨1, 0, 0, 0, ([] : List Int), 0, 0, 0⟩ : S44)⟩ : S50) [.bool false, .int .i64 0, .slice none 0 0, .bool false, .bool false, .slice none 0 0, .int .i64 1, .int .i64 0, .int .i64 0, .int .i64 0, .slice none 0 0, .int .i64 0, .int .i64 0, .int .i64 0] (fun _ => True) (fun k_ => ((fun _ => True)) k_ ∧ some k_ ≠ (u463002 : Value).ownBlock) rfl rfl ?aP (fun _ hk => hk) ?aF ?aO ?aB ?aS ?aL ?_; (case aP => exact k50_mkM _ _ _ (⟨false, (⟨0, ([] : List Int), false, false⟩ : S47), ([] : List (S117)), (⟨1, 0, 0, 0, ([] : List Int), 0, 0, 0⟩ : S44)⟩ : S50) (Kd.R_nil _ _ _ _ _) (Kd.R_nil _ _ _ _ _) (Kd.R_nil _ _ _ _ _)); (case aB => exact (by repeat (first | (with_reducible first | exact HB.out | apply below_alloc | apply pw_below_drewN | apply below_drew1 | refine below_set ?_ GE462.out) | exact HB.out))); (case aF => exact (fun _ _ => trivial)); (case aO => exact (by (with_reducible repeat (first | apply Kd.R_alloc | apply Kd.R_drewN | apply Kd.R_drew)); exact HO_463002.out)); (case aS => exact (below_size (by repeat (first | (with_reducible first | exact HB.out | apply below_alloc | apply pw_below_drewN | apply below_drew1 | refine below_set ?_ GE462.out) | exact HB.out)))); (case aL => have := LMc14.out; omega); intro v467 w59 ho hb hg hat; rw [← Ny466.out] at ho; have n0_ := Aside0.mk (blk_grown (g := gb462) (o := .cells #[.int .i64 0, .int .i64 1, u463002] 24 (0, 0)) (by (with_reducible repeat (first | refine blk_drewN ?_ _ | refine blk_drew ?_ | refine blk_alloc ?_ _)); exact BK462.out) hg (Kd.R_ne HO_463002.out BK462.out (by decide))); have n1_ := Aside0.mk (hb); have n2_ := Aside0.mk (ho); clear BK462; clear HB; clear HO_463002; have BK462 := n0_; have HB := n1_; have HO468 := n2_; clear n0_ n1_ n2_; clear ho hb hg hat; obtain ⟨Ao60, co60, eo60⟩ := Kd.R_slice HO468.out; subst eo60; have hcz61_0 : w59.cell? ⟨gb462, 0, none⟩ = some (.int .i64 0) := (blk_cell BK462.out 0).trans rfl; have hcz61_1 : w59.cell? ⟨gb462, 1, none⟩ = some (.int .i64 1) := (blk_cell BK462.out 1).trans rfl; have hcz61_2 : w59.cell? ⟨gb462, 2, none⟩ = some (u463002) := (blk_cell BK462.out 2).trans rfl; have hfz61_0 := blk_frozen BK462.out 0; have hfz61_1 := blk_frozen BK462.out 1; have hfz61_2 := blk_frozen BK462.out 2) | ((with_reducible refine gate_callee (f := 23) rfl ?_); refine goesL_ (some 41) rfl rfl Try.func23 (by kernel_rfl) rfl #[.agg #[.int .i64 0, .int .i64 1, .slice Ao60 y466.length co60]] rfl (by (try simp only [List.map_toArray, List.map_cons, List.map_nil]); first | done | rfl | (simp only [List.length_drop, List.length_take]; rfl)) ?_; (with_reducible refine (loop_All.calls k1 0 1 _ _ y466 t469 _ ?side1 ?side2 A15.out).mono ?_); (case side1 => refine (Kd.R_reads' (e := 50) (base := w.heap.size) (ok := fun k_ => True) (n := y466.length) (c := co60) ?_).2.2; exact (by (with_reducible repeat (first | apply Kd.R_alloc | apply Kd.R_drewN | apply Kd.R_drew)); exact (Kd.R_mono (Kd.R_far (p := ⟨gb462, 2, none⟩) (Kd.R_types HO468.out BK462.out (by decide)) (fun _ hk => hk.2) (.slice Ao60 y466.length co60)) (fun _ h_ => h_.1)))); (case side2 => exact (Kd.R_reads' HO468.out).2.1); rintro e w62 ⟨v470, rfl, ho0, hb⟩; refine ⟨_, rfl, ?_⟩; have n0_ := Aside0.mk (Kd.R_below (by (with_reducible repeat (first | apply Kd.R_alloc | apply Kd.R_drewN | apply Kd.R_drew)); exact (Kd.R_mono (Kd.R_far (p := ⟨gb462, 2, none⟩) (Kd.R_types HO468.out BK462.out (by decide)) (fun _ hk => hk.2) (.slice Ao60 y466.length co60)) (fun _ h_ => h_.1))) hb); have n1_ := Aside0.mk (Kd.S_lower ho0 (below_size (by repeat (first | (with_reducible first | exact HB.out | apply below_alloc | apply pw_below_drewN | apply below_drew1 | refine below_set ?_ GE462.out) | exact HB.out)))); have n2_ := Aside0.mk (blk_below (g := gb462) (o := .cells #[.int .i64 0, .int .i64 1, .slice Ao60 y466.length co60] 24 (0, 0)) (by (with_reducible repeat (first | refine blk_drewN ?_ _ | refine blk_drew ?_ | refine blk_alloc ?_ _)); refine blk_put (cs := #[.int .i64 0, .int .i64 1, u463002]) ?_ 2 _ rfl; (with_reducible repeat (first | refine blk_drewN ?_ _ | refine blk_drew ?_ | refine blk_alloc ?_ _)); exact BK462.out) hb); have n3_ := Aside0.mk (below_step (by repeat (first | (with_reducible first | exact HB.out | apply below_alloc | apply pw_below_drewN | apply below_drew1 | refine below_set ?_ GE462.out) | exact HB.out)) hb); clear HO468; clear BK462; clear HB; have HO468 := n0_; have HO471 := n1_; have BK462 := n2_; have HB := n3_; clear n0_ n1_ n2_ n3_; (try clear hb); (try clear hb2); (try clear hk); (try clear hi); (try clear ho0); obtain ⟨Ao63, co63, eo63⟩ := Kd.S_slice HO471.out; subst eo63))
       go_ret
       exact ⟨by first | rfl | (simp [errW_none, errW_some] <;> rfl) | (simp [*, errW_none, errW_some] <;> rfl), by repeat (first | (with_reducible first | exact HB.out | apply below_alloc | apply pw_below_drewN | apply below_drew1 | refine below_set ?_ GE462.out) | exact HB.out)⟩
     ·rw [if_neg c14] at H
      exact absurd H (by simp)
 ·replace c4 := Bool.eq_false_iff.mpr c4
  subst c4
  have H1 : (some false) = some r := by rw [if_neg (show ¬ (false = true) by decide)] at H; exact H
  clear H
  have H := H1
  clear H1
  obtain rfl := Option.some.inj H
  go_enter Try.func10, Try.ntmps10
  go_wp2_with (first | ((with_reducible refine gate_callee (f := 22) rfl ?_); refine goesL_ (some 12) rfl rfl Try.func22 (by kernel_rfl) rfl #[] rfl (by (try simp only [List.map_toArray, List.map_cons, List.map_nil]); first | done | rfl | (simp only [List.length_drop, List.length_take]; rfl)) ?_; (with_reducible refine (davitlaw09_awake.calls k  false _ A3.out).mono ?_); rintro e w64 ⟨rfl, hb⟩; refine ⟨_, rfl, ?_⟩; have n0_ := Aside0.mk (below_step (by repeat (first | (with_reducible first | exact HB.out | apply below_alloc | apply pw_below_drewN | apply below_drew1) | exact HB.out)) hb); clear HB; have HB := n0_; clear n0_; (try clear hb); (try clear hb2); (try clear hk); (try clear hi)))
  go_ret
  exact ⟨by first | rfl | (simp [errW_none, errW_some] <;> rfl) | (simp [*, errW_none, errW_some] <;> rfl), by repeat (first | (with_reducible first | exact HB.out | apply below_alloc | apply pw_below_drewN | apply below_drew1) | exact HB.out)⟩
def davitlaw09_LoopNone.Pure : Prop := ∀ (a0 : Int) (a1 : Int), (Lit.int .u8 a0).wf = true → (Lit.int .u8 a1).wf = true → ∃ k, davitlaw09_LoopNone.f k a0 a1 = some true
theorem davitlaw09_LoopNone.walk (P : davitlaw09_LoopNone.Pure) (a0 : Int) (a1 : Int) (w : World) (w0 : (Lit.int .u8 a0).wf = true) (w1 : (Lit.int .u8 a1).wf = true) :
  Calls Try.prog 10 #[.int .u8 a0, .int .u8 a1] w fun e w' => e = .returned (.bool true) ∧ Below w.heap.size w w' := by
 obtain ⟨k, h⟩ := P a0 a1 w0 w1
 refine (davitlaw09_LoopNone.calls k a0 a1 true w h).mono ?_
 rintro e w' ⟨rfl, hd⟩
 exact ⟨rfl, hd⟩
end
end Go.Proofs.Ytilopoegoddggaa.X
namespace Go.Proofs.Ytilopoegoddggaa.G
set_option linter.all false
def Evt {α : Type} (g : Nat → Option α) (r : α) : Prop := ∃ k0, ∀ k, k0 ≤ k → g k = some r
theorem Evt.succ {α : Type} {g : Nat → Option α} {r : α} (h : Evt (fun k => g (k + 1)) r) : Evt g r := by
 obtain ⟨k0, h⟩ := h
 refine ⟨k0 + 1, fun k hk => ?_⟩
 obtain ⟨j, rfl⟩ : ∃ j, k = j + 1 := ⟨k - 1, by omega⟩
 exact h j (by omega)
theorem Evt.bind {α β : Type} {g : Nat → Option α} {h : Nat → α → Option β} {a : α} {r : β} (h1 : Evt g a) (h2 : Evt (fun k => h k a) r) : Evt (fun k => (g k).bind (h k)) r := by
 obtain ⟨k1, h1⟩ := h1
 obtain ⟨k2, h2⟩ := h2
 refine ⟨k1 + k2, fun k hk => ?_⟩
 show (g k).bind (h k) = some r
 rw [h1 k (by omega)]
 exact h2 k (by omega)
theorem Evt.pure {α : Type} (r : α) : Evt (fun _ => some r) r := ⟨0, fun _ _ => rfl⟩
theorem Evt.congr {α : Type} {g g' : Nat → Option α} {r : α} (h : Evt g' r) (e : ∀ k, g k = g' k) : Evt g r := by
 obtain ⟨k0, h⟩ := h
 exact ⟨k0, fun k hk => (e k).trans (h k hk)⟩
theorem Evt.inj {α : Type} {g : Nat → Option α} {r s : α} (h1 : Evt g r) (h2 : Evt g s) : r = s := by
 obtain ⟨k1, h1⟩ := h1
 obtain ⟨k2, h2⟩ := h2
 have e1 := h1 (k1 + k2) (by omega)
 have e2 := h2 (k1 + k2) (by omega)
 rw [e1] at e2
 exact Option.some.inj e2
theorem Evt.ex {α : Type} {g : Nat → Option α} {r : α} (h : Evt g r) : ∃ k, g k = some r := by
 obtain ⟨k0, h⟩ := h
 exact ⟨k0, h k0 (Nat.le_refl _)⟩
inductive Rch (N : Nat) (sc : Int → List Int) (no : Int) : Int → Prop
 | zero : 0 < N → (0 : Int) ≠ no → Rch N sc no 0
 | step {a b : Int} : Rch N sc no a → b ∈ sc a → b ≠ no → Rch N sc no b
def Dom (N : Nat) (sc : Int → List Int) (a b : Int) : Prop := Rch N sc (-1) b ∧ (0 ≤ a ∧ a < N) ∧ (a = b ∨ ¬ Rch N sc a b)
inductive Anc (o : Int → Int) : Int → Int → Prop
 | refl (n : Int) : Anc o n n
 | up {a n : Int} : n ≠ 0 → Anc o a (o n) → Anc o a n
section
variable {N : Nat} {sc : Int → List Int}
def Edges (N : Nat) (sc : Int → List Int) : Prop := ∀ a b, b ∈ sc a → (0 ≤ a ∧ a < N) ∧ (0 ≤ b ∧ b < N)
theorem Rch.inV (he : Edges N sc) {no n : Int} (h : Rch N sc no n) : 0 ≤ n ∧ n < N := by
 cases h with
 | zero h0 _ => omega
 | step _ h _ => exact (he _ _ h).2
theorem Rch.ne {no n : Int} (h : Rch N sc no n) : n ≠ no := by
 cases h with
 | zero _ h => exact h
 | step _ _ h => exact h
theorem Rch.any (he : Edges N sc) {no n : Int} (h : Rch N sc no n) : Rch N sc (-1) n := by
 induction h with
 | zero h0 _ => exact .zero h0 (by omega)
 | step _ hs _ ih => exact .step ih hs (by have := (he _ _ hs).2; omega)
theorem Rch.next (he : Edges N sc) {a b : Int} (h : Rch N sc (-1) a) (hs : b ∈ sc a) : Rch N sc (-1) b := .step h hs (by have := (he _ _ hs).2; omega)
theorem Dom.refl (he : Edges N sc) {a : Int} (h : Rch N sc (-1) a) : Dom N sc a a := ⟨h, h.inV he, .inl rfl⟩
theorem Dom.pred (he : Edges N sc) {x m p : Int} (h : Dom N sc x m) (hne : x ≠ m) (hs : m ∈ sc p) (hp : Rch N sc (-1) p) : Dom N sc x p := by
 obtain ⟨h1, h2, h3⟩ := h
 refine ⟨hp, h2, ?_⟩
 rcases h3 with h3 | h3
 ·exact absurd h3 hne
 ·exact .inr fun h => h3 (.step h hs (fun e => hne e.symm))
theorem Dom.at_zero {x : Int} (h : Dom N sc x 0) : x = 0 := by
 obtain ⟨h1, h2, h3⟩ := h
 rcases h3 with h3 | h3
 ·exact h3
 ·by_cases hx : x = 0
  ·exact hx
  ·exact absurd (.zero (by omega) (fun e => hx e.symm)) h3
theorem no_rch0 {n : Int} (h : Rch N sc 0 n) : False := by
 induction h with
 | zero _ h => exact h rfl
 | step _ _ _ ih => exact ih
theorem Dom.zero {n : Int} (h : Rch N sc (-1) n) (hN : 0 < N) : Dom N sc 0 n := ⟨h, ⟨by omega, by omega⟩, .inr no_rch0⟩
end
section
variable {o : Int → Int}
theorem Anc.trans {a b c : Int} (h1 : Anc o a b) (h2 : Anc o b c) : Anc o a c := by
 induction h2 with
 | refl => exact h1
 | up h0 _ ih => exact .up h0 ih
theorem Anc.at_zero {a : Int} (h : Anc o a 0) : a = 0 := by
 cases h with
 | refl => rfl
 | up h0 _ => exact absurd rfl h0
theorem Anc.total {a b n : Int} (h1 : Anc o a n) (h2 : Anc o b n) : Anc o a b ∨ Anc o b a := by
 induction h1 with
 | refl => exact .inr h2
 | up h0 h1 ih =>
  cases h2 with
  | refl => exact .inl (.up h0 h1)
  | up _ h2 => exact ih h2
theorem Anc.cases_ne {a n : Int} (h : Anc o a n) (hne : a ≠ n) : n ≠ 0 ∧ Anc o a (o n) := by
 cases h with
 | refl => exact absurd rfl hne
 | up h0 h1 => exact ⟨h0, h1⟩
end
section
variable (N : Nat) (sc : Int → List Int) (place : Int → Int)
structure Pl : Prop where
 edge : Edges N sc
 zero : place 0 = 0
 pos : ∀ n, Rch N sc (-1) n → 0 ≤ place n
 inj : ∀ a b, Rch N sc (-1) a → Rch N sc (-1) b → place a = place b → a = b
 pred : ∀ n, Rch N sc (-1) n → n ≠ 0 → ∃ q, Rch N sc (-1) q ∧ n ∈ sc q ∧ place q < place n
structure Tree (o : Int → Int) : Prop where
 zero : o 0 = 0
 neg : ∀ n : Int, 0 ≤ n → n < N → ¬ Rch N sc (-1) n → o n = -1
 low : ∀ n : Int, 0 ≤ n → n < N → -1 ≤ o n
 up : ∀ n, Rch N sc (-1) n → n ≠ 0 → 0 ≤ o n → Rch N sc (-1) (o n) ∧ 0 ≤ o (o n) ∧ place (o n) < place n
structure Inv (o : Int → Int) (i : Int) (fin : Bool) : Prop extends Tree N sc place o where
 P : ∀ m, Rch N sc (-1) m → (place m < i ∨ fin = true) → 0 ≤ o m
 U : ∀ m, Rch N sc (-1) m → 0 ≤ o m → ∀ x, Dom N sc x m → Anc o x m
 K : ∀ m, Rch N sc (-1) m → m ≠ 0 → 0 ≤ o m → ∀ x, (∀ p, m ∈ sc p → Rch N sc (-1) p → 0 ≤ o p → Anc o x p) → Anc o x (o m)
 M : ∀ m q, Rch N sc (-1) m → m ≠ 0 → 0 ≤ o m → m ∈ sc q → Rch N sc (-1) q → place q < place m → 0 ≤ o q ∧ ∀ x, x ≠ m → Anc o x m → (place m < i ∨ i ≤ place x) → Anc o x q
end
section
variable {N : Nat} {sc : Int → List Int} {place o : Int → Int}
theorem Tree.anc (T : Tree N sc place o) {a n : Int} (h : Anc o a n) (hr : Rch N sc (-1) n) (hp : 0 ≤ o n) : Rch N sc (-1) a ∧ 0 ≤ o a ∧ place a ≤ place n := by
 induction h with
 | refl => exact ⟨hr, hp, Int.le_refl _⟩
 | up h0 _ ih =>
  obtain ⟨h1, h2, h3⟩ := T.up _ hr h0 hp
  obtain ⟨r1, r2, r3⟩ := ih h1 h2
  exact ⟨r1, r2, by omega⟩
theorem Tree.lt (T : Tree N sc place o) {a n : Int} (h : Anc o a n) (hne : a ≠ n) (hr : Rch N sc (-1) n) (hp : 0 ≤ o n) : place a < place n := by
 obtain ⟨h0, h1⟩ := h.cases_ne hne
 obtain ⟨r1, r2, r3⟩ := T.up _ hr h0 hp
 have := (T.anc h1 r1 r2).2.2
 omega
theorem Tree.above (T : Tree N sc place o) {a b n : Int} (h1 : Anc o a n) (h2 : Anc o b n) (hr : Rch N sc (-1) n) (hp : 0 ≤ o n) (hl : place a < place b) : Anc o a b := by
 rcases h1.total h2 with h | h
 ·exact h
 ·obtain ⟨r1, r2, _⟩ := T.anc h1 hr hp
  have := (T.anc h r1 r2).2.2
  omega
theorem Tree.root (T : Tree N sc place o) (L : Pl N sc place) : ∀ (j : Nat) (n : Int), (place n).toNat ≤ j → Rch N sc (-1) n → 0 ≤ o n → Anc o 0 n
 | 0, n, hj, hr, hp => by
  by_cases h0 : n = 0
  ·exact h0 ▸ .refl _
  ·obtain ⟨r1, r2, r3⟩ := T.up n hr h0 hp
   have := L.pos _ r1
   omega
 | j + 1, n, hj, hr, hp => by
  by_cases h0 : n = 0
  ·exact h0 ▸ .refl _
  ·obtain ⟨r1, r2, r3⟩ := T.up n hr h0 hp
   have := L.pos _ r1
   exact .up h0 (T.root L j (o n) (by omega) r1 r2)
def upd (o : Int → Int) (n r : Int) : Int → Int := fun x => if x = n then r else o x
theorem upd_self (o : Int → Int) (n r : Int) : upd o n r n = r := by simp [upd]
theorem upd_ne (o : Int → Int) {n r x : Int} (h : x ≠ n) : upd o n r x = o x := by simp [upd, h]
section
variable {i n0 r : Int} {fin : Bool}
structure Best (N : Nat) (sc : Int → List Int) (o : Int → Int) (n0 r : Int) : Prop where
 rch : Rch N sc (-1) r
 done : 0 ≤ o r
 all : ∀ x, Anc o x r ↔ ∀ p, n0 ∈ sc p → Rch N sc (-1) p → 0 ≤ o p → Anc o x p
theorem upd_low (T : Tree N sc place o) {x m : Int} (hr : Rch N sc (-1) m) (hp : 0 ≤ o m) (hl : place m < place n0) : Anc (upd o n0 r) x m ↔ Anc o x m := by
 constructor
 ·intro h
  induction h with
  | refl => exact .refl _
  | up h0 _ ih =>
   rename_i n _
   have hn : n ≠ n0 := fun e => by rw [e] at hl; omega
   rw [upd_ne o hn] at ih
   obtain ⟨r1, r2, r3⟩ := T.up _ hr h0 hp
   exact .up h0 (ih r1 r2 (by omega))
 ·intro h
  induction h with
  | refl => exact .refl _
  | up h0 _ ih =>
   rename_i n _
   have hn : n ≠ n0 := fun e => by rw [e] at hl; omega
   obtain ⟨r1, r2, r3⟩ := T.up _ hr h0 hp
   exact .up h0 (by rw [upd_ne o hn]; exact ih r1 r2 (by omega))
theorem upd_off {x m : Int} (h : Anc o x m) (hn : ¬ Anc o n0 m) : Anc (upd o n0 r) x m := by
 induction h with
 | refl => exact .refl _
 | up h0 _ ih =>
  rename_i n _
  have : n ≠ n0 := fun e => hn (e ▸ .refl _)
  exact .up h0 (by rw [upd_ne o this]; exact ih (fun h => hn (.up h0 h)))
theorem upd_high (T : Tree N sc place o) {x m : Int} (h : Anc o x m) (hr : Rch N sc (-1) m) (hp : 0 ≤ o m) (hl : place n0 ≤ place x) : Anc (upd o n0 r) x m := by
 induction h with
 | refl => exact .refl _
 | up h0 h1 ih =>
  rename_i n
  obtain ⟨r1, r2, r3⟩ := T.up _ hr h0 hp
  have h3 := (T.anc h1 r1 r2).2.2
  have : n ≠ n0 := fun e => by rw [e] at r3 h3; omega
  exact .up h0 (by rw [upd_ne o this]; exact ih r1 r2)
theorem Best.lt (B : Best N sc o n0 r) (I : Inv N sc place o (place n0) fin) (L : Pl N sc place) (hn : Rch N sc (-1) n0) (h0 : n0 ≠ 0) : place r < place n0 := by
 obtain ⟨q, q1, q2, q3⟩ := L.pred n0 hn h0
 have hq := I.P q q1 (.inl q3)
 have h := (B.all r).1 (.refl _) q q2 q1 hq
 have := (I.toTree.anc h q1 hq).2.2
 omega
theorem upd_back (B : Best N sc o n0 r) (I : Inv N sc place o (place n0) fin) (L : Pl N sc place) (hn : Rch N sc (-1) n0) (h0 : n0 ≠ 0) {x m : Int} (h : Anc (upd o n0 r) x m) (hr : Rch N sc (-1) m) (hp : 0 ≤ o m) : Anc o x m := by
 induction h with
 | refl => exact .refl _
 | up hm0 h1 ih =>
  rename_i n
  obtain ⟨r1, r2, r3⟩ := I.up _ hr hm0 hp
  by_cases e : n = n0
  ·subst e
   rw [upd_self] at ih
   have h2 := ih B.rch B.done
   exact .up hm0 (h2.trans (I.K n hr hm0 hp r ((B.all r).1 (.refl _))))
  ·rw [upd_ne o e] at ih
   exact .up hm0 (ih r1 r2)
end
end
end Go.Proofs.Ytilopoegoddggaa.G
namespace Go.Proofs.Ytilopoegoddggaa.G
set_option linter.all false
section
variable {N : Nat} {sc : Int → List Int} {place o : Int → Int} {n0 r : Int} {fin : Bool}
theorem upd_done (hd : 0 ≤ r) {m : Int} (h : 0 ≤ o m) : 0 ≤ upd o n0 r m := by
 unfold upd; split
 ·exact hd
 ·exact h
theorem Inv.step (I : Inv N sc place o (place n0) fin) (L : Pl N sc place) (hn : Rch N sc (-1) n0) (h0 : n0 ≠ 0) (B : Best N sc o n0 r) : Inv N sc place (upd o n0 r) (place n0 + 1) fin := by
 have hlt := B.lt I L hn h0
 have hd : 0 ≤ r := (B.rch.inV L.edge).1
 have hr0 : r ≠ n0 := fun e => by rw [e] at hlt; omega
 have T' : Tree N sc place (upd o n0 r) := by
  refine ⟨?_, fun n a b c => ?_, fun n a b => ?_, fun n a b c => ?_⟩
  ·rw [upd_ne o (fun e => h0 e.symm)]; exact I.zero
  ·rw [upd_ne o (fun e : n = n0 => c (e ▸ hn))]; exact I.neg n a b c
  ·unfold upd; split
   ·omega
   ·exact I.low n a b
  ·by_cases e : n = n0
   ·subst e
    rw [upd_self]
    exact ⟨B.rch, by rw [upd_ne o hr0]; exact B.done, hlt⟩
   ·rw [upd_ne o e] at c ⊢
    obtain ⟨r1, r2, r3⟩ := I.up n a b c
    exact ⟨r1, upd_done hd r2, r3⟩
 have back : ∀ {x m : Int}, Anc (upd o n0 r) x m → Rch N sc (-1) m → 0 ≤ o m → Anc o x m := fun h => upd_back B I L hn h0 h
 have low : ∀ {x m : Int}, Rch N sc (-1) m → 0 ≤ o m → place m < place n0 → (Anc (upd o n0 r) x m ↔ Anc o x m) := fun a b c => upd_low I.toTree a b c
 have high : ∀ {x m : Int}, Anc o x m → Rch N sc (-1) m → 0 ≤ o m → place n0 ≤ place x → Anc (upd o n0 r) x m := fun h a b c => upd_high I.toTree h a b c
 have ndone : ∀ {m : Int}, m ≠ n0 → 0 ≤ upd o n0 r m → 0 ≤ o m := fun hm h => by rw [upd_ne o hm] at h; exact h
 have toR : ∀ {x : Int}, Anc o x r → Anc (upd o n0 r) x r := fun h => (low B.rch B.done hlt).2 h
 have selfUp : ∀ {x : Int}, Anc o x r → Anc (upd o n0 r) x n0 := fun h => .up h0 (by rw [upd_self]; exact toR h)
 have via : ∀ {m : Int}, Rch N sc (-1) m → m ≠ 0 → 0 ≤ o m → m ≠ n0 → Anc o n0 m → ∃ q, Rch N sc (-1) q ∧ m ∈ sc q ∧ place q < place m ∧ 0 ≤ o q ∧ Anc o n0 q := by
  intro m a b c d e
  obtain ⟨q, q1, q2, q3⟩ := L.pred m a b
  obtain ⟨m1, m2⟩ := I.M m q a b c q2 q1 q3
  exact ⟨q, q1, q2, q3, m1, m2 n0 (fun e => d e.symm) e (.inr (Int.le_refl _))⟩
 have U' : ∀ (j : Nat) (m : Int), (place m).toNat ≤ j → Rch N sc (-1) m → 0 ≤ upd o n0 r m → ∀ x, Dom N sc x m → Anc (upd o n0 r) x m := by
  intro j
  induction j with
  | zero =>
   intro m hj hm hp x hx
   have hz : m = 0 := L.inj _ _ hm (.zero (by have := hm.inV L.edge; omega) (by omega)) (by have := L.pos m hm; have := L.zero; omega)
   subst hz
   rw [hx.at_zero]
   exact .refl _
  | succ j ih =>
   intro m hj hm hp x hx
   by_cases hxm : x = m
   ·exact hxm ▸ .refl _
   by_cases e : m = n0
   ·subst e
    refine selfUp ((B.all x).2 fun p a b c => ?_)
    exact I.U p b c x (hx.pred L.edge hxm a b)
   have hpo := ndone e hp
   have hm0 : m ≠ 0 := fun e => hxm (by subst e; exact hx.at_zero)
   have hxo := I.U m hm hpo x hx
   by_cases hu : Anc o n0 m
   ·by_cases hl : place n0 ≤ place x
    ·exact high hxo hm hpo hl
    ·obtain ⟨q, q1, q2, q3, q4, q5⟩ := via hm hm0 hpo e hu
     have hq := ih q (by have := L.pos q q1; omega) q1 (upd_done hd q4) x (hx.pred L.edge hxm q2 q1)
     have hq2 := high q5 q1 q4 (Int.le_refl _)
     have h3 := T'.above hq hq2 q1 (upd_done hd q4) (by omega)
     exact h3.trans (high hu hm hpo (Int.le_refl _))
   ·exact upd_off hxo hu
 refine { toTree := T', P := ?_, U := fun m a b => U' _ m (Nat.le_refl _) a b, K := ?_, M := ?_ }
 ·intro m a b
  by_cases e : m = n0
  ·rw [e, upd_self]; exact hd
  ·rw [upd_ne o e]
   refine I.P m a (b.imp (fun h => ?_) id)
   have : place m ≠ place n0 := fun h => e (L.inj _ _ a hn h)
   omega
 ·intro m a b c x h
  by_cases e : m = n0
  ·subst e
   rw [upd_self]
   exact toR ((B.all x).2 fun p p1 p2 p3 => back (h p p1 p2 (upd_done hd p3)) p2 p3)
  ·have hpo := ndone e c
   rw [upd_ne o e]
   have hx : Anc o x (o m) := I.K m a b hpo x fun p p1 p2 p3 => back (h p p1 p2 (upd_done hd p3)) p2 p3
   obtain ⟨r1, r2, r3⟩ := I.up m a b hpo
   by_cases hu : Anc o n0 (o m)
   ·by_cases hl : place n0 ≤ place x
    ·exact high hx r1 r2 hl
    ·obtain ⟨q, q1, q2, q3, q4, q5⟩ := via a b hpo e (.up b hu)
     have hq := h q q2 q1 (upd_done hd q4)
     have hq2 := high q5 q1 q4 (Int.le_refl _)
     have h3 := T'.above hq hq2 q1 (upd_done hd q4) (by omega)
     exact h3.trans (high hu r1 r2 (Int.le_refl _))
   ·exact upd_off hx hu
 ·intro m q a b c d f g
  by_cases e : m = n0
  ·subst e
   have hq := I.P q f (.inl g)
   refine ⟨upd_done hd hq, fun x hx h _ => ?_⟩
   obtain ⟨_, h1⟩ := h.cases_ne hx
   rw [upd_self] at h1
   exact (low f hq g).2 ((B.all x).1 ((low B.rch B.done hlt).1 h1) q d f hq)
  ·have hpo := ndone e c
   obtain ⟨m1, m2⟩ := I.M m q a b hpo d f g
   refine ⟨upd_done hd m1, fun x hx h hh => ?_⟩
   have hne : place m ≠ place n0 := fun h => e (L.inj _ _ a hn h)
   have ho := back h a hpo
   rcases hh with hh | hh
   ·exact (low f m1 (by omega)).2 (m2 x hx ho (.inl (by omega)))
   ·exact high (m2 x hx ho (.inr (by omega))) f m1 (by omega)
theorem Inv.again {j : Int} (I : Inv N sc place o j fin) (L : Pl N sc place) (hj : ∀ m, Rch N sc (-1) m → place m < j) : Inv N sc place o 1 true := by
 refine { toTree := I.toTree, P := fun m a _ => I.P m a (.inl (hj m a)), U := I.U, K := I.K, M := fun m q a b c d f g => ?_ }
 obtain ⟨m1, m2⟩ := I.M m q a b c d f g
 exact ⟨m1, fun x hx h _ => m2 x hx h (.inl (hj m a))⟩
theorem Inv.start (L : Pl N sc place) (hN : 0 < N) : Inv N sc place (fun x => if x = 0 then 0 else -1) 1 false := by
 refine { toTree := ⟨rfl, fun n a b c => ?_, fun n a b => ?_, fun n a b c => ?_⟩, P := fun m a b => ?_, U := fun m a b x h => ?_, K := fun m a b c => ?_, M := fun m q a b c => ?_ }
 ·show (if n = 0 then (0 : Int) else -1) = -1
  rw [if_neg (fun e : n = 0 => c (by rw [e]; exact .zero hN (by omega)))]
 ·show -1 ≤ (if n = 0 then (0 : Int) else -1)
  split <;> omega
 ·simp only [if_neg b] at c; omega
 ·rcases b with b | b
  ·have : m = 0 := L.inj _ _ a (.zero hN (by omega)) (by have := L.pos m a; have := L.zero; omega)
   simp [this]
  ·cases b
 ·by_cases e : m = 0
  ·subst e
   rw [h.at_zero]; exact .refl _
  ·simp only [if_neg e] at b; omega
 ·simp only [if_neg b] at c; omega
 ·simp only [if_neg b] at c; omega
def Fix (N : Nat) (sc : Int → List Int) (o : Int → Int) : Prop := ∀ n, Rch N sc (-1) n → n ≠ 0 → Best N sc o n (o n)
theorem Inv.dom {j : Int} (I : Inv N sc place o j fin) (L : Pl N sc place) (hj : ∀ m, Rch N sc (-1) m → 0 ≤ o m) (F : Fix N sc o) {x m : Int} (hm : Rch N sc (-1) m) : Anc o x m ↔ Dom N sc x m := by
 refine ⟨fun h => ?_, fun h => I.U m hm (hj m hm) x h⟩
 have hx := (I.toTree.anc h hm (hj m hm)).1
 refine ⟨hm, hx.inV L.edge, ?_⟩
 by_cases e : x = m
 ·exact .inl e
 refine .inr fun hr => ?_
 have key : ∀ y, Rch N sc x y → ¬ Anc o x y := by
  intro y hy
  induction hy with
  | zero _ h0 => exact fun h => h0 h.at_zero.symm
  | step ha hs hne ih =>
   rename_i a b
   intro hb
   have ha' := ha.any L.edge
   have hb' := ha'.next L.edge hs
   obtain ⟨b0, h1⟩ := hb.cases_ne (fun e => hne e.symm)
   exact ih (((F b hb' b0).all x).1 h1 a hs ha' (hj a ha'))
 exact key m hr h
end
end Go.Proofs.Ytilopoegoddggaa.G
namespace Go.Proofs.Ytilopoegoddggaa.X
open Go.RowKit Go.Proofs.YtilopoegoddggaaW.PrintWords Go.Proofs.YtilopoegoddggaaW.PrintLast Go.Proofs.YtilopoegoddggaaW.PrintMore
attribute [local go_sem] max2_int min2_int max_two min_two max_three min_three max_four min_four
set_option linter.all false
noncomputable section
def davitref07_Has.l0 : Nat → List Int → Int → Int → Option (Bool)
 | 0, _, _, _ => none
 | k + 1, x0, x1, x5 => if x5 < (x0.length : Int) then (if 0 ≤ x5 then (if (rd x0 x5) = x1 then (some true) else (davitref07_Has.l0 k x0 x1 (wrap64 (x5 + 1)))) else (none)) else (some false)
def davitref07_Has.f (k : Nat) (l0 : List Int) (a1 : Int) : Option (Bool) := davitref07_Has.l0 k l0 a1 0
theorem davitref07_Has.mono_l : ∀ k, (∀ y0 y1 y2, LeO (davitref07_Has.l0 k y0 y1 y2) (davitref07_Has.l0 (k + 1) y0 y1 y2))
 | 0 => fun _ _ _ r h => by simp [davitref07_Has.l0] at h
 | k + 1 => by
  have ih0 := davitref07_Has.mono_l k
  ·intro y0 y1 y2
   unfold davitref07_Has.l0
   repeat' first
   | (with_reducible exact ih0 _ _ _)
   | (with_reducible exact LeO.refl _)
   | (with_reducible exact LeO.none _)
   | (with_reducible refine LeO.ite ?_ ?_)
   | (with_reducible refine LeO.bind ?_ (fun _ => ?_))
   | exact ih0 _ _ _
   | exact LeO.none _
   | refine LeO.ite ?_ ?_
   | refine LeO.bind ?_ (fun _ => ?_)
theorem davitref07_Has.mono : ∀ a0 a1 k, LeO (davitref07_Has.f k a0 a1) (davitref07_Has.f (k + 1) a0 a1) := by
 intro a0 a1 k
 have ih0 := davitref07_Has.mono_l k
 unfold davitref07_Has.f
 repeat' first
   | (with_reducible exact ih0 _ _ _)
   | (with_reducible exact LeO.refl _)
   | (with_reducible exact LeO.none _)
   | (with_reducible refine LeO.ite ?_ ?_)
   | (with_reducible refine LeO.bind ?_ (fun _ => ?_))
   | exact ih0 _ _ _
   | exact LeO.none _
   | refine LeO.ite ?_ ?_
   | refine LeO.bind ?_ (fun _ => ?_)
set_option maxHeartbeats 8000000 in
set_option maxRecDepth 100000 in
theorem davitref07_Has.calls (k : Nat) (A0 : Option Addr) (c0 : Nat) (l0 : List Int) (a1 : Int) (r : Bool) (w : World) (hr0 : Kd.C (Kd.int .i64) w A0 l0.length l0) (hc0 : l0.length ≤ c0) (h : davitref07_Has.f k l0 a1 = some r) :
  Calls Try.prog 21 #[.slice A0 l0.length c0, .int .i64 a1] w fun e w' => e = .returned (.bool r) ∧ Drawn0 w w' := by
 have HR0 := Aside0.mk hr0
 have HC0 := Aside0.mk hc0
 clear hr0 hc0
 have H : (davitref07_Has.l0 k l0 a1 0) = some r := h
 clear h
 have H' := Aside0.mk H
 clear H
 go_enter Try.func21, Try.ntmps21
 go_wp2
 go_loopg [5] k (fun kq v5 w' => ∃ (x5_1 : Int), v5 = .int .i64 x5_1 ∧ Aside0 (davitref07_Has.l0 kq l0 a1 x5_1 = some r) ∧ Aside0 (kq ≤ k) ∧ Drawn0 w w')
 case atStart => exact ⟨(0), (by first | rfl | (simp; done) | (simp [*]; done)), H', ⟨Nat.le_refl _⟩, by repeat (first | exact Drawn0.refl _ | apply Drawn0.step)⟩
 case round =>
  clear H'
  try clear c2
  try clear p2
  obtain ⟨x5_1, rfl, HA, HK1, ⟨m1, rfl⟩⟩ := hrel
  cases gk with
  | zero => exact absurd HA.out (by simp [davitref07_Has.l0])
  | succ k1 =>
   have H := HA.out
   clear HA
   simp only [davitref07_Has.l0] at H
   by_cases c3 : x5_1 < (l0.length : Int)
   ·rw [if_pos c3] at H
    have c3b0 : decide (x5_1 < (l0.length : Int)) = true := decide_eq_true c3
    clear c3
    by_cases c4 : 0 ≤ x5_1
    ·rw [if_pos c4] at H
     have c4b0 : decide (0 ≤ x5_1) = true := decide_eq_true c4
     clear c4
     by_cases c5 : (rd l0 x5_1) = a1
     ·rw [if_pos c5] at H
      have c5b0 : ((rd l0 x5_1) == a1) = true := beq_iff_eq.mpr c5
      have c5b1 : ((rd l0 x5_1) != a1) = false := bne_eq_false_iff_eq.mpr c5
      clear c5
      obtain rfl := Option.some.inj H
      have p226 : 0 ≤ (x5_1 : Int) := of_decide_eq_true (by first | (with_reducible assumption) | assumption)
      have q226 : x5_1 < (l0.length : Int) := of_decide_eq_true (by first | (with_reducible assumption) | assumption)
      obtain ⟨ad226, e226, hx226_0⟩ := Kd.at_int HR0.out x5_1 p226 q226
      cases e226
      replace p226 := eq_true p226
      replace q226 := eq_true q226
      go_wp2
      go_ret
      exact ⟨by first | rfl | (simp; done) | (simp [*]; done), by repeat (first | exact Drawn0.refl _ | apply Drawn0.step)⟩
     ·rw [if_neg c5] at H
      have c5b0 : ((rd l0 x5_1) == a1) = false := beq_eq_false_iff_ne.mpr c5
      have c5b1 : ((rd l0 x5_1) != a1) = true := bne_iff_ne.mpr c5
      have H' := Aside0.mk H
      clear H
      have p226 : 0 ≤ (x5_1 : Int) := of_decide_eq_true (by first | (with_reducible assumption) | assumption)
      have q226 : x5_1 < (l0.length : Int) := of_decide_eq_true (by first | (with_reducible assumption) | assumption)
      obtain ⟨ad226, e226, hx226_0⟩ := Kd.at_int HR0.out x5_1 p226 q226
      cases e226
      replace p226 := eq_true p226
      replace q226 := eq_true q226
      go_wp2
      go_roundg k1
      case measure => have := HK1.out; omega
      case rel => exact ⟨(wrap64 (x5_1 + 1)), (by first | rfl | (simp; done) | (simp [*]; done)), H', ⟨by have := HK1.out; omega⟩, by repeat (first | exact Drawn0.refl _ | apply Drawn0.step)⟩
    ·rw [if_neg c4] at H
     exact absurd H (by simp)
   ·rw [if_neg c3] at H
    have c3b0 : decide (x5_1 < (l0.length : Int)) = false := decide_eq_false c3
    clear c3
    obtain rfl := Option.some.inj H
    go_wp2
    go_ret
    exact ⟨by first | rfl | (simp; done) | (simp [*]; done), by repeat (first | exact Drawn0.refl _ | apply Drawn0.step)⟩
end
end Go.Proofs.Ytilopoegoddggaa.X
namespace Go.Proofs.Ytilopoegoddggaa.X
open Go.RowKit Go.Proofs.YtilopoegoddggaaW.PrintWords Go.Proofs.YtilopoegoddggaaW.PrintLast Go.Proofs.YtilopoegoddggaaW.PrintMore
attribute [local go_sem] max2_int min2_int max_two min_two max_three min_three max_four min_four
set_option linter.all false
noncomputable section
mutual
def davitref07_Next.j0 : Nat → Int → Bool → Int → Int → List (S50) → Option (List Int)
 | 0, _, _, _, _, _ => none
 | k + 1, x1, x17, x151000, x151001, x151002 => if x17 = true then (some ([] : List Int)) else (if 0 ≤ x1 then (if x1 < (x151002.length : Int) then (if ((rd_T50 x151002 x1).f3.f0) = 2 then (davitref07_Next.j1 k ([] : List Int) true x151000 x151001 x151002 ((rd_T50 x151002 x1).f3.f0) ((rd_T50 x151002 x1).f3.f1) ((rd_T50 x151002 x1).f3.f2) ((rd_T50 x151002 x1).f3.f3) ((rd_T50 x151002 x1).f3.f4) ((rd_T50 x151002 x1).f3.f5) ((rd_T50 x151002 x1).f3.f6) ((rd_T50 x151002 x1).f3.f7)) else (if ((rd_T50 x151002 x1).f3.f0) = 3 then (davitref07_Next.j1 k ([] : List Int) true x151000 x151001 x151002 ((rd_T50 x151002 x1).f3.f0) ((rd_T50 x151002 x1).f3.f1) ((rd_T50 x151002 x1).f3.f2) ((rd_T50 x151002 x1).f3.f3) ((rd_T50 x151002 x1).f3.f4) ((rd_T50 x151002 x1).f3.f5) ((rd_T50 x151002 x1).f3.f6) ((rd_T50 x151002 x1).f3.f7)) else (davitref07_Next.j1 k ([] : List Int) (((rd_T50 x151002 x1).f3.f0) == 4) x151000 x151001 x151002 ((rd_T50 x151002 x1).f3.f0) ((rd_T50 x151002 x1).f3.f1) ((rd_T50 x151002 x1).f3.f2) ((rd_T50 x151002 x1).f3.f3) ((rd_T50 x151002 x1).f3.f4) ((rd_T50 x151002 x1).f3.f5) ((rd_T50 x151002 x1).f3.f6) ((rd_T50 x151002 x1).f3.f7)))) else (none)) else (none))
def davitref07_Next.j1 : Nat → List Int → Bool → Int → Int → List (S50) → Int → Int → Int → Int → List Int → Int → Int → Int → Option (List Int)
 | 0, _, _, _, _, _, _, _, _, _, _, _, _, _ => none
 | k + 1, x6, x36, x151000, x151001, x151002, x153000, x153001, x153002, x153003, x153004, x153005, x153006, x153007 => if x36 = true then (if x6.length < 17592186044416 then (davitref07_Next.j2 k (x6 ++ [x153005]) x151000 x151001 x151002 x153000 x153001 x153002 x153003 x153004 x153005 x153006 x153007) else (none)) else (davitref07_Next.j2 k x6 x151000 x151001 x151002 x153000 x153001 x153002 x153003 x153004 x153005 x153006 x153007)
def davitref07_Next.j2 : Nat → List Int → Int → Int → List (S50) → Int → Int → Int → Int → List Int → Int → Int → Int → Option (List Int)
 | 0, _, _, _, _, _, _, _, _, _, _, _, _ => none
 | k + 1, x6, x151000, x151001, x151002, x153000, x153001, x153002, x153003, x153004, x153005, x153006, x153007 => if x153000 = 3 then (if x6.length < 17592186044416 then (davitref07_Next.j3 k (x6 ++ [x153006]) x151000 x151001 x151002 x153000 x153001 x153002 x153003 x153004 x153005 x153006 x153007) else (none)) else (davitref07_Next.j3 k x6 x151000 x151001 x151002 x153000 x153001 x153002 x153003 x153004 x153005 x153006 x153007)
def davitref07_Next.j3 : Nat → List Int → Int → Int → List (S50) → Int → Int → Int → Int → List Int → Int → Int → Int → Option (List Int)
 | 0, _, _, _, _, _, _, _, _, _, _, _, _ => none
 | k + 1, x6, x151000, x151001, x151002, x153000, x153001, x153002, x153003, x153004, x153005, x153006, x153007 => if x153000 = 4 then (if x6.length < 17592186044416 then (davitref07_Next.j4 k (x6 ++ [x153007]) x151000 x151001 x151002) else (none)) else (davitref07_Next.j4 k x6 x151000 x151001 x151002)
def davitref07_Next.j4 : Nat → List Int → Int → Int → List (S50) → Option (List Int)
 | 0, _, _, _, _ => none
 | k + 1, x6, x151000, x151001, x151002 => davitref07_Next.l0 k x6 ([] : List Int) 0 x151000 x151001 x151002
def davitref07_Next.l0 : Nat → List Int → List Int → Int → Int → Int → List (S50) → Option (List Int)
 | 0, _, _, _, _, _, _ => none
 | k + 1, x6, x7, x8, x151000, x151001, x151002 => if x8 < (x6.length : Int) then (if 0 ≤ x8 then (if (rd x6 x8) ≥ 0 then (if (rd x6 x8) < (x151002.length : Int) then (if x7.length < 17592186044416 then (davitref07_Next.l0 k x6 (x7 ++ [rd x6 x8]) (wrap64 (x8 + 1)) x151000 x151001 x151002) else (none)) else (davitref07_Next.l0 k x6 x7 (wrap64 (x8 + 1)) x151000 x151001 x151002)) else (davitref07_Next.l0 k x6 x7 (wrap64 (x8 + 1)) x151000 x151001 x151002)) else (none)) else (some x7)
end
def davitref07_Next.f (k : Nat) (a0_0 : Int) (a0_1 : Int) (l0_2 : List (S50)) (a1 : Int) : Option (List Int) := if a1 < 0 then (davitref07_Next.j0 k a1 true a0_0 a0_1 l0_2) else (davitref07_Next.j0 k a1 (decide (a1 ≥ (l0_2.length : Int))) a0_0 a0_1 l0_2)
theorem davitref07_Next.mono_l : ∀ k, (∀ y0 y1 y2 y3 y4, LeO (davitref07_Next.j0 k y0 y1 y2 y3 y4) (davitref07_Next.j0 (k + 1) y0 y1 y2 y3 y4)) ∧ (∀ y0 y1 y2 y3 y4 y5 y6 y7 y8 y9 y10 y11 y12, LeO (davitref07_Next.j1 k y0 y1 y2 y3 y4 y5 y6 y7 y8 y9 y10 y11 y12) (davitref07_Next.j1 (k + 1) y0 y1 y2 y3 y4 y5 y6 y7 y8 y9 y10 y11 y12)) ∧ (∀ y0 y1 y2 y3 y4 y5 y6 y7 y8 y9 y10 y11, LeO (davitref07_Next.j2 k y0 y1 y2 y3 y4 y5 y6 y7 y8 y9 y10 y11) (davitref07_Next.j2 (k + 1) y0 y1 y2 y3 y4 y5 y6 y7 y8 y9 y10 y11)) ∧ (∀ y0 y1 y2 y3 y4 y5 y6 y7 y8 y9 y10 y11, LeO (davitref07_Next.j3 k y0 y1 y2 y3 y4 y5 y6 y7 y8 y9 y10 y11) (davitref07_Next.j3 (k + 1) y0 y1 y2 y3 y4 y5 y6 y7 y8 y9 y10 y11)) ∧ (∀ y0 y1 y2 y3, LeO (davitref07_Next.j4 k y0 y1 y2 y3) (davitref07_Next.j4 (k + 1) y0 y1 y2 y3)) ∧ (∀ y0 y1 y2 y3 y4 y5, LeO (davitref07_Next.l0 k y0 y1 y2 y3 y4 y5) (davitref07_Next.l0 (k + 1) y0 y1 y2 y3 y4 y5))
 | 0 => ⟨fun _ _ _ _ _ r h => by simp [davitref07_Next.j0] at h, fun _ _ _ _ _ _ _ _ _ _ _ _ _ r h => by simp [davitref07_Next.j1] at h, fun _ _ _ _ _ _ _ _ _ _ _ _ r h => by simp [davitref07_Next.j2] at h, fun _ _ _ _ _ _ _ _ _ _ _ _ r h => by simp [davitref07_Next.j3] at h, fun _ _ _ _ r h => by simp [davitref07_Next.j4] at h, fun _ _ _ _ _ _ r h => by simp [davitref07_Next.l0] at h⟩
 | k + 1 => by
  obtain ⟨ih0, ih1, ih2, ih3, ih4, ih5⟩ := davitref07_Next.mono_l k
  refine ⟨?_, ?_, ?_, ?_, ?_, ?_⟩
  ·intro y0 y1 y2 y3 y4
   unfold davitref07_Next.j0
   repeat' first
   | (with_reducible exact ih0 _ _ _ _ _)
   | (with_reducible exact ih1 _ _ _ _ _ _ _ _ _ _ _ _ _)
   | (with_reducible exact ih2 _ _ _ _ _ _ _ _ _ _ _ _)
   | (with_reducible exact ih3 _ _ _ _ _ _ _ _ _ _ _ _)
   | (with_reducible exact ih4 _ _ _ _)
   | (with_reducible exact ih5 _ _ _ _ _ _)
   | (with_reducible exact LeO.refl _)
   | (with_reducible exact LeO.none _)
   | (with_reducible refine LeO.ite ?_ ?_)
   | (with_reducible refine LeO.bind ?_ (fun _ => ?_))
   | exact ih0 _ _ _ _ _
   | exact ih1 _ _ _ _ _ _ _ _ _ _ _ _ _
   | exact ih2 _ _ _ _ _ _ _ _ _ _ _ _
   | exact ih3 _ _ _ _ _ _ _ _ _ _ _ _
   | exact ih4 _ _ _ _
   | exact ih5 _ _ _ _ _ _
   | exact LeO.none _
   | refine LeO.ite ?_ ?_
   | refine LeO.bind ?_ (fun _ => ?_)
  ·intro y0 y1 y2 y3 y4 y5 y6 y7 y8 y9 y10 y11 y12
   unfold davitref07_Next.j1
   repeat' first
   | (with_reducible exact ih0 _ _ _ _ _)
   | (with_reducible exact ih1 _ _ _ _ _ _ _ _ _ _ _ _ _)
   | (with_reducible exact ih2 _ _ _ _ _ _ _ _ _ _ _ _)
   | (with_reducible exact ih3 _ _ _ _ _ _ _ _ _ _ _ _)
   | (with_reducible exact ih4 _ _ _ _)
   | (with_reducible exact ih5 _ _ _ _ _ _)
   | (with_reducible exact LeO.refl _)
   | (with_reducible exact LeO.none _)
   | (with_reducible refine LeO.ite ?_ ?_)
   | (with_reducible refine LeO.bind ?_ (fun _ => ?_))
   | exact ih0 _ _ _ _ _
   | exact ih1 _ _ _ _ _ _ _ _ _ _ _ _ _
   | exact ih2 _ _ _ _ _ _ _ _ _ _ _ _
   | exact ih3 _ _ _ _ _ _ _ _ _ _ _ _
   | exact ih4 _ _ _ _
   | exact ih5 _ _ _ _ _ _
   | exact LeO.none _
   | refine LeO.ite ?_ ?_
   | refine LeO.bind ?_ (fun _ => ?_)
  ·intro y0 y1 y2 y3 y4 y5 y6 y7 y8 y9 y10 y11
   unfold davitref07_Next.j2
   repeat' first
   | (with_reducible exact ih0 _ _ _ _ _)
   | (with_reducible exact ih1 _ _ _ _ _ _ _ _ _ _ _ _ _)
   | (with_reducible exact ih2 _ _ _ _ _ _ _ _ _ _ _ _)
   | (with_reducible exact ih3 _ _ _ _ _ _ _ _ _ _ _ _)
   | (with_reducible exact ih4 _ _ _ _)
   | (with_reducible exact ih5 _ _ _ _ _ _)
   | (with_reducible exact LeO.refl _)
   | (with_reducible exact LeO.none _)
   | (with_reducible refine LeO.ite ?_ ?_)
   | (with_reducible refine LeO.bind ?_ (fun _ => ?_))
   | exact ih0 _ _ _ _ _
   | exact ih1 _ _ _ _ _ _ _ _ _ _ _ _ _
   | exact ih2 _ _ _ _ _ _ _ _ _ _ _ _
   | exact ih3 _ _ _ _ _ _ _ _ _ _ _ _
   | exact ih4 _ _ _ _
   | exact ih5 _ _ _ _ _ _
   | exact LeO.none _
   | refine LeO.ite ?_ ?_
   | refine LeO.bind ?_ (fun _ => ?_)
  ·intro y0 y1 y2 y3 y4 y5 y6 y7 y8 y9 y10 y11
   unfold davitref07_Next.j3
   repeat' first
   | (with_reducible exact ih0 _ _ _ _ _)
   | (with_reducible exact ih1 _ _ _ _ _ _ _ _ _ _ _ _ _)
   | (with_reducible exact ih2 _ _ _ _ _ _ _ _ _ _ _ _)
   | (with_reducible exact ih3 _ _ _ _ _ _ _ _ _ _ _ _)
   | (with_reducible exact ih4 _ _ _ _)
   | (with_reducible exact ih5 _ _ _ _ _ _)
   | (with_reducible exact LeO.refl _)
   | (with_reducible exact LeO.none _)
   | (with_reducible refine LeO.ite ?_ ?_)
   | (with_reducible refine LeO.bind ?_ (fun _ => ?_))
   | exact ih0 _ _ _ _ _
   | exact ih1 _ _ _ _ _ _ _ _ _ _ _ _ _
   | exact ih2 _ _ _ _ _ _ _ _ _ _ _ _
   | exact ih3 _ _ _ _ _ _ _ _ _ _ _ _
   | exact ih4 _ _ _ _
   | exact ih5 _ _ _ _ _ _
   | exact LeO.none _
   | refine LeO.ite ?_ ?_
   | refine LeO.bind ?_ (fun _ => ?_)
  ·intro y0 y1 y2 y3
   unfold davitref07_Next.j4
   repeat' first
   | (with_reducible exact ih0 _ _ _ _ _)
   | (with_reducible exact ih1 _ _ _ _ _ _ _ _ _ _ _ _ _)
   | (with_reducible exact ih2 _ _ _ _ _ _ _ _ _ _ _ _)
   | (with_reducible exact ih3 _ _ _ _ _ _ _ _ _ _ _ _)
   | (with_reducible exact ih4 _ _ _ _)
   | (with_reducible exact ih5 _ _ _ _ _ _)
   | (with_reducible exact LeO.refl _)
   | (with_reducible exact LeO.none _)
   | (with_reducible refine LeO.ite ?_ ?_)
   | (with_reducible refine LeO.bind ?_ (fun _ => ?_))
   | exact ih0 _ _ _ _ _
   | exact ih1 _ _ _ _ _ _ _ _ _ _ _ _ _
   | exact ih2 _ _ _ _ _ _ _ _ _ _ _ _
   | exact ih3 _ _ _ _ _ _ _ _ _ _ _ _
   | exact ih4 _ _ _ _
   | exact ih5 _ _ _ _ _ _
   | exact LeO.none _
   | refine LeO.ite ?_ ?_
   | refine LeO.bind ?_ (fun _ => ?_)
  ·intro y0 y1 y2 y3 y4 y5
   unfold davitref07_Next.l0
   repeat' first
   | (with_reducible exact ih0 _ _ _ _ _)
   | (with_reducible exact ih1 _ _ _ _ _ _ _ _ _ _ _ _ _)
   | (with_reducible exact ih2 _ _ _ _ _ _ _ _ _ _ _ _)
   | (with_reducible exact ih3 _ _ _ _ _ _ _ _ _ _ _ _)
   | (with_reducible exact ih4 _ _ _ _)
   | (with_reducible exact ih5 _ _ _ _ _ _)
   | (with_reducible exact LeO.refl _)
   | (with_reducible exact LeO.none _)
   | (with_reducible refine LeO.ite ?_ ?_)
   | (with_reducible refine LeO.bind ?_ (fun _ => ?_))
   | exact ih0 _ _ _ _ _
   | exact ih1 _ _ _ _ _ _ _ _ _ _ _ _ _
   | exact ih2 _ _ _ _ _ _ _ _ _ _ _ _
   | exact ih3 _ _ _ _ _ _ _ _ _ _ _ _
   | exact ih4 _ _ _ _
   | exact ih5 _ _ _ _ _ _
   | exact LeO.none _
   | refine LeO.ite ?_ ?_
   | refine LeO.bind ?_ (fun _ => ?_)
theorem davitref07_Next.mono : ∀ a0 a1 a2 a3 k, LeO (davitref07_Next.f k a0 a1 a2 a3) (davitref07_Next.f (k + 1) a0 a1 a2 a3) := by
 intro a0 a1 a2 a3 k
 obtain ⟨ih0, ih1, ih2, ih3, ih4, ih5⟩ := davitref07_Next.mono_l k
 unfold davitref07_Next.f
 repeat' first
   | (with_reducible exact ih0 _ _ _ _ _)
   | (with_reducible exact ih1 _ _ _ _ _ _ _ _ _ _ _ _ _)
   | (with_reducible exact ih2 _ _ _ _ _ _ _ _ _ _ _ _)
   | (with_reducible exact ih3 _ _ _ _ _ _ _ _ _ _ _ _)
   | (with_reducible exact ih4 _ _ _ _)
   | (with_reducible exact ih5 _ _ _ _ _ _)
   | (with_reducible exact LeO.refl _)
   | (with_reducible exact LeO.none _)
   | (with_reducible refine LeO.ite ?_ ?_)
   | (with_reducible refine LeO.bind ?_ (fun _ => ?_))
   | exact ih0 _ _ _ _ _
   | exact ih1 _ _ _ _ _ _ _ _ _ _ _ _ _
   | exact ih2 _ _ _ _ _ _ _ _ _ _ _ _
   | exact ih3 _ _ _ _ _ _ _ _ _ _ _ _
   | exact ih4 _ _ _ _
   | exact ih5 _ _ _ _ _ _
   | exact LeO.none _
   | refine LeO.ite ?_ ?_
   | refine LeO.bind ?_ (fun _ => ?_)
set_option maxHeartbeats 8000000 in
set_option maxRecDepth 100000 in
theorem davitref07_Next.calls (k : Nat) (a0_0 : Int) (a0_1 : Int) (A0_2 : Option Addr) (c0_2 : Nat) (l0_2 : List (S50)) (a1 : Int) (r : List Int) (w : World) (hr0_2 : Kd.C k50 w A0_2 l0_2.length l0_2) (hc0_2 : l0_2.length ≤ c0_2) (h : davitref07_Next.f k a0_0 a0_1 l0_2 a1 = some r) :
  Calls Try.prog 33 #[.agg #[.int .i64 a0_0, .int .i64 a0_1, .slice A0_2 l0_2.length c0_2], .int .i64 a1] w fun e w' => ∃ v0_ : Value, e = .returned (v0_) ∧ Kd.R (Kd.int .i64) 3 w' w.heap.size (fun _ => True) v0_ r ∧ Below w.heap.size w w' := by
 have hu24 := Try.underlying24
 have hu44 := Try.underlying44
 have HR0_2 := Aside0.mk hr0_2
 have HC0_2 := Aside0.mk hc0_2
 clear hr0_2 hc0_2
 have HB := Aside0.mk (Below.refl w.heap.size w)
 have H : (if a1 < 0 then (davitref07_Next.j0 k a1 true a0_0 a0_1 l0_2) else (davitref07_Next.j0 k a1 (decide (a1 ≥ (l0_2.length : Int))) a0_0 a0_1 l0_2)) = some r := h
 clear h
 have HC3 := Aside0.mk H
 clear H
 go_enter Try.func33, Try.ntmps33
 go_upto_region 1 with (first | ((with_reducible refine gate_dst (N := 2) rfl ?_); (try (refine gate_guard (by rfl) ?_; dsimp only)); refine box_event ?hg (N := 2) ?hd (cs := #[.int .i64 a0_0, .int .i64 a0_1, .slice A0_2 l0_2.length c0_2]) (t := 24) ?hr ?_; (case hd => rfl); (case hg => rfl); (case hr => first | (go_simp; done) | (go_simp; rfl)); intro gb150 hg w4 hbox hb; have n0_ := Aside0.mk (below_step (by repeat (first | (with_reducible first | exact HB.out | apply below_alloc | apply pw_below_drewN | apply below_drew1) | exact HB.out)) hb); have n1_ := Aside0.mk (hbox); have n2_ := Aside0.mk ((by rw [hg]; exact (below_size (by repeat (first | (with_reducible first | exact HB.out | apply below_alloc | apply pw_below_drewN | apply below_drew1) | exact HB.out))) : w.heap.size ≤ gb150)); have n3_ := Aside0.mk ((by rw [hg]; exact (below_size (by repeat (first | (with_reducible first | exact HB.out | apply below_alloc | apply pw_below_drewN | apply below_drew1) | exact HB.out))) : w.heap.size ≤ gb150)); clear HB; have HB := n0_; have BK150 := n1_; have GW150 := n2_; have GE150 := n3_; clear n0_ n1_ n2_ n3_; clear hb hbox hg))
 repeat (go_quiet (first | ((with_reducible refine gate_dst (N := 2) rfl ?_); (try (refine gate_guard (by rfl) ?_; dsimp only)); refine box_event ?hg (N := 2) ?hd (cs := #[.int .i64 a0_0, .int .i64 a0_1, .slice A0_2 l0_2.length c0_2]) (t := 24) ?hr ?_; (case hd => rfl); (case hg => rfl); (case hr => first | (go_simp; done) | (go_simp; rfl)); intro gb150 hg w4 hbox hb; have n0_ := Aside0.mk (below_step (by repeat (first | (with_reducible first | exact HB.out | apply below_alloc | apply pw_below_drewN | apply below_drew1) | exact HB.out)) hb); have n1_ := Aside0.mk (hbox); have n2_ := Aside0.mk ((by rw [hg]; exact (below_size (by repeat (first | (with_reducible first | exact HB.out | apply below_alloc | apply pw_below_drewN | apply below_drew1) | exact HB.out))) : w.heap.size ≤ gb150)); have n3_ := Aside0.mk ((by rw [hg]; exact (below_size (by repeat (first | (with_reducible first | exact HB.out | apply below_alloc | apply pw_below_drewN | apply below_drew1) | exact HB.out))) : w.heap.size ≤ gb150)); clear HB; have HB := n0_; have BK150 := n1_; have GW150 := n2_; have GE150 := n3_; clear n0_ n1_ n2_ n3_; clear hb hbox hg)); go_upto_region 1 with (first | ((with_reducible refine gate_dst (N := 2) rfl ?_); (try (refine gate_guard (by rfl) ?_; dsimp only)); refine box_event ?hg (N := 2) ?hd (cs := #[.int .i64 a0_0, .int .i64 a0_1, .slice A0_2 l0_2.length c0_2]) (t := 24) ?hr ?_; (case hd => rfl); (case hg => rfl); (case hr => first | (go_simp; done) | (go_simp; rfl)); intro gb150 hg w4 hbox hb; have n0_ := Aside0.mk (below_step (by repeat (first | (with_reducible first | exact HB.out | apply below_alloc | apply pw_below_drewN | apply below_drew1) | exact HB.out)) hb); have n1_ := Aside0.mk (hbox); have n2_ := Aside0.mk ((by rw [hg]; exact (below_size (by repeat (first | (with_reducible first | exact HB.out | apply below_alloc | apply pw_below_drewN | apply below_drew1) | exact HB.out))) : w.heap.size ≤ gb150)); have n3_ := Aside0.mk ((by rw [hg]; exact (below_size (by repeat (first | (with_reducible first | exact HB.out | apply below_alloc | apply pw_below_drewN | apply below_drew1) | exact HB.out))) : w.heap.size ≤ gb150)); clear HB; have HB := n0_; have BK150 := n1_; have GW150 := n2_; have GE150 := n3_; clear n0_ n1_ n2_ n3_; clear hb hbox hg)))
 (try simp only [Act.put, List.setIfInBounds_toArray, List.set_cons_zero, List.set_cons_succ])
 go_cut [17] (fun v17 wc => ∃ (kq : Nat) (x17_2 : Bool), v17 = .bool x17_2 ∧ Aside0 (davitref07_Next.j0 kq a1 x17_2 a0_0 a0_1 l0_2 = some r) ∧ Aside0 (kq ≤ k) ∧ Aside0 (wc.heap[gb150]? = some (.cells #[.int .i64 a0_0, .int .i64 a0_1, (.slice A0_2 l0_2.length c0_2)] 24 (0, 0))) ∧ Aside0 (Below w.heap.size w wc))
 case first =>
  have H := HC3.out
  clear HC3
  by_cases c5 : a1 < 0
  ·rw [if_pos c5] at H
   have c5b0 : decide (a1 < 0) = true := decide_eq_true c5
   clear c5
   (first | rw [c5b0] | (simp only [i64_w, i32_w]; rw [c5b0]) | skip)
   have H' := Aside0.mk H
   clear H
   go_wp2
   repeat (go_quiet (fail); try go_wp2)
   go_meet
   case rel => exact ⟨_, (true), (by first | rfl | (simp; done) | (simp [*]; done)), H', ⟨by first | omega | exact Nat.le_refl _⟩, ⟨by (with_reducible repeat (first | refine blk_drewN ?_ _ | refine blk_drew ?_ | refine blk_alloc ?_ _)); exact BK150.out⟩, ⟨by repeat (first | (with_reducible first | exact HB.out | apply below_alloc | apply pw_below_drewN | apply below_drew1 | refine below_set ?_ GE150.out) | exact HB.out)⟩⟩
  ·rw [if_neg c5] at H
   have c5b0 : decide (a1 < 0) = false := decide_eq_false c5
   clear c5
   (first | rw [c5b0] | (simp only [i64_w, i32_w]; rw [c5b0]) | skip)
   have H' := Aside0.mk H
   clear H
   have hcz6_0 : w4.cell? ⟨gb150, 0, none⟩ = some (.int .i64 a0_0) := (blk_cell BK150.out 0).trans rfl
   have hcz6_1 : w4.cell? ⟨gb150, 1, none⟩ = some (.int .i64 a0_1) := (blk_cell BK150.out 1).trans rfl
   have hcz6_2 : w4.cell? ⟨gb150, 2, none⟩ = some (.slice A0_2 l0_2.length c0_2) := (blk_cell BK150.out 2).trans rfl
   have hfz6_0 := blk_frozen BK150.out 0
   have hfz6_1 := blk_frozen BK150.out 1
   have hfz6_2 := blk_frozen BK150.out 2
   go_wp2
   repeat (go_quiet (fail); try go_wp2)
   go_meet
   case rel => exact ⟨_, (decide (a1 ≥ (l0_2.length : Int))), (by first | rfl | (simp; done) | (simp [*]; done)), H', ⟨by first | omega | exact Nat.le_refl _⟩, ⟨by (with_reducible repeat (first | refine blk_drewN ?_ _ | refine blk_drew ?_ | refine blk_alloc ?_ _)); exact BK150.out⟩, ⟨by repeat (first | (with_reducible first | exact HB.out | apply below_alloc | apply pw_below_drewN | apply below_drew1 | refine below_set ?_ GE150.out) | exact HB.out)⟩⟩
 case rest =>
  clear HC3
  try clear p2
  try clear c3
  try clear c5
  try clear c5b0
  try clear hcz6_0
  try clear hcz6_1
  try clear hcz6_2
  try clear hfz6_0
  try clear hfz6_1
  try clear hfz6_2
  obtain ⟨kq, x17_2, rfl, HA, HJ2, BK150, HB⟩ := hcut
  cases kq with
  | zero => exact absurd HA.out (by simp [davitref07_Next.j0])
  | succ kj2 =>
   have H := HA.out
   clear HA
   simp only [davitref07_Next.j0] at H
   by_cases c7 : x17_2 = true
   ·subst c7
    have H1 : (some ([] : List Int)) = some r := by rw [if_pos rfl] at H; exact H
    clear H
    have H := H1
    clear H1
    obtain rfl := Option.some.inj H
    go_wp2
    repeat (go_quiet (fail); try go_wp2)
    go_ret
    exact ⟨_, by first | rfl | (simp [errW_none, errW_some] <;> rfl) | (simp [*, errW_none, errW_some] <;> rfl), by first | exact Kd.R_nil _ _ _ _ _ | exact Kd.N_nil _ _ _ _ _ | exact Kd.V_nil _ _ _ _ _ | exact Kd.Q_nil _ _ _ _ _ | exact Kd.S_nil _ _ _ _ _, by repeat (first | (with_reducible first | exact HB.out | apply below_alloc | apply pw_below_drewN | apply below_drew1 | refine below_set ?_ GE150.out) | exact HB.out)⟩
   ·replace c7 := Bool.eq_false_iff.mpr c7
    subst c7
    have H1 : (if 0 ≤ a1 then (if a1 < (l0_2.length : Int) then (if ((rd_T50 l0_2 a1).f3.f0) = 2 then (davitref07_Next.j1 kj2 ([] : List Int) true a0_0 a0_1 l0_2 ((rd_T50 l0_2 a1).f3.f0) ((rd_T50 l0_2 a1).f3.f1) ((rd_T50 l0_2 a1).f3.f2) ((rd_T50 l0_2 a1).f3.f3) ((rd_T50 l0_2 a1).f3.f4) ((rd_T50 l0_2 a1).f3.f5) ((rd_T50 l0_2 a1).f3.f6) ((rd_T50 l0_2 a1).f3.f7)) else (if ((rd_T50 l0_2 a1).f3.f0) = 3 then (davitref07_Next.j1 kj2 ([] : List Int) true a0_0 a0_1 l0_2 ((rd_T50 l0_2 a1).f3.f0) ((rd_T50 l0_2 a1).f3.f1) ((rd_T50 l0_2 a1).f3.f2) ((rd_T50 l0_2 a1).f3.f3) ((rd_T50 l0_2 a1).f3.f4) ((rd_T50 l0_2 a1).f3.f5) ((rd_T50 l0_2 a1).f3.f6) ((rd_T50 l0_2 a1).f3.f7)) else (davitref07_Next.j1 kj2 ([] : List Int) (((rd_T50 l0_2 a1).f3.f0) == 4) a0_0 a0_1 l0_2 ((rd_T50 l0_2 a1).f3.f0) ((rd_T50 l0_2 a1).f3.f1) ((rd_T50 l0_2 a1).f3.f2) ((rd_T50 l0_2 a1).f3.f3) ((rd_T50 l0_2 a1).f3.f4) ((rd_T50 l0_2 a1).f3.f5) ((rd_T50 l0_2 a1).f3.f6) ((rd_T50 l0_2 a1).f3.f7)))) else (none)) else (none)) = some r := by rw [if_neg (show ¬ (false = true) by decide)] at H; exact H
    clear H
    have H := H1
    clear H1
    by_cases c8 : 0 ≤ a1
    ·rw [if_pos c8] at H
     have c8b0 : decide (0 ≤ a1) = true := decide_eq_true c8
     clear c8
     by_cases c9 : a1 < (l0_2.length : Int)
     ·rw [if_pos c9] at H
      have c9b0 : decide (a1 < (l0_2.length : Int)) = true := decide_eq_true c9
      clear c9
      have HC10 := Aside0.mk H
      clear H
      have hcz11_0 : wc.cell? ⟨gb150, 0, none⟩ = some (.int .i64 a0_0) := (blk_cell BK150.out 0).trans rfl
      have hcz11_1 : wc.cell? ⟨gb150, 1, none⟩ = some (.int .i64 a0_1) := (blk_cell BK150.out 1).trans rfl
      have hcz11_2 : wc.cell? ⟨gb150, 2, none⟩ = some (.slice A0_2 l0_2.length c0_2) := (blk_cell BK150.out 2).trans rfl
      have hfz11_0 := blk_frozen BK150.out 0
      have hfz11_1 := blk_frozen BK150.out 1
      have hfz11_2 := blk_frozen BK150.out 2
      have p151 : 0 ≤ (a1 : Int) := of_decide_eq_true (by first | (with_reducible assumption) | assumption)
      have q151 : a1 < (l0_2.length : Int) := of_decide_eq_true (by first | (with_reducible assumption) | assumption)
      obtain ⟨ad151, A151_2, c151_2, A151_5, c151_5, A151_10, c151_10, e151, hx151_0, hx151_1, hx151_2, hx151_3, hx151_4, hx151_5, hx151_6, hx151_7, hx151_8, hx151_9, hx151_10, hx151_11, hx151_12, hx151_13, hl151_2, hi151_2, hl151_5, hi151_5, hl151_10, hi151_10⟩ := at_T50 HR0_2.out a1 p151 q151
      cases e151
      replace hx151_0 := (HB.out.cell (World.block_lt_of_cell? w _ hx151_0)).trans hx151_0
      replace hx151_1 := (HB.out.cell (World.block_lt_of_cell? w _ hx151_1)).trans hx151_1
      replace hx151_2 := (HB.out.cell (World.block_lt_of_cell? w _ hx151_2)).trans hx151_2
      replace hx151_3 := (HB.out.cell (World.block_lt_of_cell? w _ hx151_3)).trans hx151_3
      replace hx151_4 := (HB.out.cell (World.block_lt_of_cell? w _ hx151_4)).trans hx151_4
      replace hx151_5 := (HB.out.cell (World.block_lt_of_cell? w _ hx151_5)).trans hx151_5
      replace hx151_6 := (HB.out.cell (World.block_lt_of_cell? w _ hx151_6)).trans hx151_6
      replace hx151_7 := (HB.out.cell (World.block_lt_of_cell? w _ hx151_7)).trans hx151_7
      replace hx151_8 := (HB.out.cell (World.block_lt_of_cell? w _ hx151_8)).trans hx151_8
      replace hx151_9 := (HB.out.cell (World.block_lt_of_cell? w _ hx151_9)).trans hx151_9
      replace hx151_10 := (HB.out.cell (World.block_lt_of_cell? w _ hx151_10)).trans hx151_10
      replace hx151_11 := (HB.out.cell (World.block_lt_of_cell? w _ hx151_11)).trans hx151_11
      replace hx151_12 := (HB.out.cell (World.block_lt_of_cell? w _ hx151_12)).trans hx151_12
      replace hx151_13 := (HB.out.cell (World.block_lt_of_cell? w _ hx151_13)).trans hx151_13
      have HR151_2 := Aside0.mk hi151_2
      have HC151_2 := Aside0.mk hl151_2
      clear hi151_2 hl151_2
      have HR151_5 := Aside0.mk hi151_5
      have HC151_5 := Aside0.mk hl151_5
      clear hi151_5 hl151_5
      have HR151_10 := Aside0.mk hi151_10
      have HC151_10 := Aside0.mk hl151_10
      clear hi151_10 hl151_10
      replace p151 := eq_true p151
      replace q151 := eq_true q151
      go_upto_region 5 with (first | ((with_reducible refine gate_dst (N := 5) rfl ?_); (try (refine gate_guard (by rfl) ?_; dsimp only)); refine box_event ?hg (N := 5) ?hd (cs := #[.int .i64 0, .int .i64 0, .int .i64 0, .int .i64 0, .slice none 0 0, .int .i64 0, .int .i64 0, .int .i64 0]) (t := 44) ?hr ?_; (case hd => rfl); (case hg => rfl); (case hr => first | (go_simp; done) | (go_simp; rfl)); intro gb152 hg w12 hbox hb; have n0_ := Aside0.mk (blk_below (g := gb150) (o := .cells #[.int .i64 a0_0, .int .i64 a0_1, .slice (some ad151) l0_2.length c0_2] 24 (0, 0)) (by (with_reducible repeat (first | refine blk_drewN ?_ _ | refine blk_drew ?_ | refine blk_alloc ?_ _)); exact BK150.out) hb); have n1_ := Aside0.mk (below_step (by repeat (first | (with_reducible first | exact HB.out | apply below_alloc | apply pw_below_drewN | apply below_drew1 | refine below_set ?_ GE150.out) | exact HB.out)) hb); have n2_ := Aside0.mk (hbox); have n3_ := Aside0.mk ((by rw [hg]; exact (below_size (by repeat (first | (with_reducible first | exact HB.out | apply below_alloc | apply pw_below_drewN | apply below_drew1 | refine below_set ?_ GE150.out) | exact HB.out))) : w.heap.size ≤ gb152)); have n4_ := Aside0.mk ((by rw [hg]; exact (below_size (by repeat (first | (with_reducible first | exact HB.out | apply below_alloc | apply pw_below_drewN | apply below_drew1 | refine below_set ?_ GE150.out) | exact HB.out))) : w.heap.size ≤ gb152)); have n5_ := Aside0.mk ((by rw [hg]; exact Nat.ne_of_lt (blk_lt (g := gb150) (o := .cells #[.int .i64 a0_0, .int .i64 a0_1, .slice (some ad151) l0_2.length c0_2] 24 (0, 0)) (by (with_reducible repeat (first | refine blk_drewN ?_ _ | refine blk_drew ?_ | refine blk_alloc ?_ _)); exact BK150.out)) : gb150 ≠ gb152)); have n6_ := Aside0.mk ((by rw [hg]; exact Nat.ne_of_gt (blk_lt (g := gb150) (o := .cells #[.int .i64 a0_0, .int .i64 a0_1, .slice (some ad151) l0_2.length c0_2] 24 (0, 0)) (by (with_reducible repeat (first | refine blk_drewN ?_ _ | refine blk_drew ?_ | refine blk_alloc ?_ _)); exact BK150.out)) : gb152 ≠ gb150)); clear BK150; clear HB; have BK150 := n0_; have HB := n1_; have BK152 := n2_; have GW152 := n3_; have GE152 := n4_; have NB150_152 := n5_; have NB152_150 := n6_; clear n0_ n1_ n2_ n3_ n4_ n5_ n6_; clear hb hbox hg; have hnb13 := NB152_150.out; have hnc13 := NB150_152.out; have hcz14_0 : w12.cell? ⟨gb152, 0, none⟩ = some (.int .i64 0) := (blk_cell BK152.out 0).trans rfl; have hcz14_1 : w12.cell? ⟨gb152, 1, none⟩ = some (.int .i64 0) := (blk_cell BK152.out 1).trans rfl; have hcz14_2 : w12.cell? ⟨gb152, 2, none⟩ = some (.int .i64 0) := (blk_cell BK152.out 2).trans rfl; have hcz14_3 : w12.cell? ⟨gb152, 3, none⟩ = some (.int .i64 0) := (blk_cell BK152.out 3).trans rfl; have hcz14_4 : w12.cell? ⟨gb152, 4, none⟩ = some (.slice none 0 0) := (blk_cell BK152.out 4).trans rfl; have hcz14_5 : w12.cell? ⟨gb152, 5, none⟩ = some (.int .i64 0) := (blk_cell BK152.out 5).trans rfl; have hcz14_6 : w12.cell? ⟨gb152, 6, none⟩ = some (.int .i64 0) := (blk_cell BK152.out 6).trans rfl; have hcz14_7 : w12.cell? ⟨gb152, 7, none⟩ = some (.int .i64 0) := (blk_cell BK152.out 7).trans rfl; have hfz14_0 := blk_frozen BK152.out 0; have hfz14_1 := blk_frozen BK152.out 1; have hfz14_2 := blk_frozen BK152.out 2; have hfz14_3 := blk_frozen BK152.out 3; have hfz14_4 := blk_frozen BK152.out 4; have hfz14_5 := blk_frozen BK152.out 5; have hfz14_6 := blk_frozen BK152.out 6; have hfz14_7 := blk_frozen BK152.out 7))
      repeat (go_quiet (first | ((with_reducible refine gate_dst (N := 5) rfl ?_); (try (refine gate_guard (by rfl) ?_; dsimp only)); refine box_event ?hg (N := 5) ?hd (cs := #[.int .i64 0, .int .i64 0, .int .i64 0, .int .i64 0, .slice none 0 0, .int .i64 0, .int .i64 0, .int .i64 0]) (t := 44) ?hr ?_; (case hd => rfl); (case hg => rfl); (case hr => first | (go_simp; done) | (go_simp; rfl)); intro gb152 hg w12 hbox hb; have n0_ := Aside0.mk (blk_below (g := gb150) (o := .cells #[.int .i64 a0_0, .int .i64 a0_1, .slice (some ad151) l0_2.length c0_2] 24 (0, 0)) (by (with_reducible repeat (first | refine blk_drewN ?_ _ | refine blk_drew ?_ | refine blk_alloc ?_ _)); exact BK150.out) hb); have n1_ := Aside0.mk (below_step (by repeat (first | (with_reducible first | exact HB.out | apply below_alloc | apply pw_below_drewN | apply below_drew1 | refine below_set ?_ GE150.out) | exact HB.out)) hb); have n2_ := Aside0.mk (hbox); have n3_ := Aside0.mk ((by rw [hg]; exact (below_size (by repeat (first | (with_reducible first | exact HB.out | apply below_alloc | apply pw_below_drewN | apply below_drew1 | refine below_set ?_ GE150.out) | exact HB.out))) : w.heap.size ≤ gb152)); have n4_ := Aside0.mk ((by rw [hg]; exact (below_size (by repeat (first | (with_reducible first | exact HB.out | apply below_alloc | apply pw_below_drewN | apply below_drew1 | refine below_set ?_ GE150.out) | exact HB.out))) : w.heap.size ≤ gb152)); have n5_ := Aside0.mk ((by rw [hg]; exact Nat.ne_of_lt (blk_lt (g := gb150) (o := .cells #[.int .i64 a0_0, .int .i64 a0_1, .slice (some ad151) l0_2.length c0_2] 24 (0, 0)) (by (with_reducible repeat (first | refine blk_drewN ?_ _ | refine blk_drew ?_ | refine blk_alloc ?_ _)); exact BK150.out)) : gb150 ≠ gb152)); have n6_ := Aside0.mk ((by rw [hg]; exact Nat.ne_of_gt (blk_lt (g := gb150) (o := .cells #[.int .i64 a0_0, .int .i64 a0_1, .slice (some ad151) l0_2.length c0_2] 24 (0, 0)) (by (with_reducible repeat (first | refine blk_drewN ?_ _ | refine blk_drew ?_ | refine blk_alloc ?_ _)); exact BK150.out)) : gb152 ≠ gb150)); clear BK150; clear HB; have BK150 := n0_; have HB := n1_; have BK152 := n2_; have GW152 := n3_; have GE152 := n4_; have NB150_152 := n5_; have NB152_150 := n6_; clear n0_ n1_ n2_ n3_ n4_ n5_ n6_; clear hb hbox hg; have hnb13 := NB152_150.out; have hnc13 := NB150_152.out; have hcz14_0 : w12.cell? ⟨gb152, 0, none⟩ = some (.int .i64 0) := (blk_cell BK152.out 0).trans rfl; have hcz14_1 : w12.cell? ⟨gb152, 1, none⟩ = some (.int .i64 0) := (blk_cell BK152.out 1).trans rfl; have hcz14_2 : w12.cell? ⟨gb152, 2, none⟩ = some (.int .i64 0) := (blk_cell BK152.out 2).trans rfl; have hcz14_3 : w12.cell? ⟨gb152, 3, none⟩ = some (.int .i64 0) := (blk_cell BK152.out 3).trans rfl; have hcz14_4 : w12.cell? ⟨gb152, 4, none⟩ = some (.slice none 0 0) := (blk_cell BK152.out 4).trans rfl; have hcz14_5 : w12.cell? ⟨gb152, 5, none⟩ = some (.int .i64 0) := (blk_cell BK152.out 5).trans rfl; have hcz14_6 : w12.cell? ⟨gb152, 6, none⟩ = some (.int .i64 0) := (blk_cell BK152.out 6).trans rfl; have hcz14_7 : w12.cell? ⟨gb152, 7, none⟩ = some (.int .i64 0) := (blk_cell BK152.out 7).trans rfl; have hfz14_0 := blk_frozen BK152.out 0; have hfz14_1 := blk_frozen BK152.out 1; have hfz14_2 := blk_frozen BK152.out 2; have hfz14_3 := blk_frozen BK152.out 3; have hfz14_4 := blk_frozen BK152.out 4; have hfz14_5 := blk_frozen BK152.out 5; have hfz14_6 := blk_frozen BK152.out 6; have hfz14_7 := blk_frozen BK152.out 7)); go_upto_region 5 with (first | ((with_reducible refine gate_dst (N := 5) rfl ?_); (try (refine gate_guard (by rfl) ?_; dsimp only)); refine box_event ?hg (N := 5) ?hd (cs := #[.int .i64 0, .int .i64 0, .int .i64 0, .int .i64 0, .slice none 0 0, .int .i64 0, .int .i64 0, .int .i64 0]) (t := 44) ?hr ?_; (case hd => rfl); (case hg => rfl); (case hr => first | (go_simp; done) | (go_simp; rfl)); intro gb152 hg w12 hbox hb; have n0_ := Aside0.mk (blk_below (g := gb150) (o := .cells #[.int .i64 a0_0, .int .i64 a0_1, .slice (some ad151) l0_2.length c0_2] 24 (0, 0)) (by (with_reducible repeat (first | refine blk_drewN ?_ _ | refine blk_drew ?_ | refine blk_alloc ?_ _)); exact BK150.out) hb); have n1_ := Aside0.mk (below_step (by repeat (first | (with_reducible first | exact HB.out | apply below_alloc | apply pw_below_drewN | apply below_drew1 | refine below_set ?_ GE150.out) | exact HB.out)) hb); have n2_ := Aside0.mk (hbox); have n3_ := Aside0.mk ((by rw [hg]; exact (below_size (by repeat (first | (with_reducible first | exact HB.out | apply below_alloc | apply pw_below_drewN | apply below_drew1 | refine below_set ?_ GE150.out) | exact HB.out))) : w.heap.size ≤ gb152)); have n4_ := Aside0.mk ((by rw [hg]; exact (below_size (by repeat (first | (with_reducible first | exact HB.out | apply below_alloc | apply pw_below_drewN | apply below_drew1 | refine below_set ?_ GE150.out) | exact HB.out))) : w.heap.size ≤ gb152)); have n5_ := Aside0.mk ((by rw [hg]; exact Nat.ne_of_lt (blk_lt (g := gb150) (o := .cells #[.int .i64 a0_0, .int .i64 a0_1, .slice (some ad151) l0_2.length c0_2] 24 (0, 0)) (by (with_reducible repeat (first | refine blk_drewN ?_ _ | refine blk_drew ?_ | refine blk_alloc ?_ _)); exact BK150.out)) : gb150 ≠ gb152)); have n6_ := Aside0.mk ((by rw [hg]; exact Nat.ne_of_gt (blk_lt (g := gb150) (o := .cells #[.int .i64 a0_0, .int .i64 a0_1, .slice (some ad151) l0_2.length c0_2] 24 (0, 0)) (by (with_reducible repeat (first | refine blk_drewN ?_ _ | refine blk_drew ?_ | refine blk_alloc ?_ _)); exact BK150.out)) : gb152 ≠ gb150)); clear BK150; clear HB; have BK150 := n0_; have HB := n1_; have BK152 := n2_; have GW152 := n3_; have GE152 := n4_; have NB150_152 := n5_; have NB152_150 := n6_; clear n0_ n1_ n2_ n3_ n4_ n5_ n6_; clear hb hbox hg; have hnb13 := NB152_150.out; have hnc13 := NB150_152.out; have hcz14_0 : w12.cell? ⟨gb152, 0, none⟩ = some (.int .i64 0) := (blk_cell BK152.out 0).trans rfl; have hcz14_1 : w12.cell? ⟨gb152, 1, none⟩ = some (.int .i64 0) := (blk_cell BK152.out 1).trans rfl; have hcz14_2 : w12.cell? ⟨gb152, 2, none⟩ = some (.int .i64 0) := (blk_cell BK152.out 2).trans rfl; have hcz14_3 : w12.cell? ⟨gb152, 3, none⟩ = some (.int .i64 0) := (blk_cell BK152.out 3).trans rfl; have hcz14_4 : w12.cell? ⟨gb152, 4, none⟩ = some (.slice none 0 0) := (blk_cell BK152.out 4).trans rfl; have hcz14_5 : w12.cell? ⟨gb152, 5, none⟩ = some (.int .i64 0) := (blk_cell BK152.out 5).trans rfl; have hcz14_6 : w12.cell? ⟨gb152, 6, none⟩ = some (.int .i64 0) := (blk_cell BK152.out 6).trans rfl; have hcz14_7 : w12.cell? ⟨gb152, 7, none⟩ = some (.int .i64 0) := (blk_cell BK152.out 7).trans rfl; have hfz14_0 := blk_frozen BK152.out 0; have hfz14_1 := blk_frozen BK152.out 1; have hfz14_2 := blk_frozen BK152.out 2; have hfz14_3 := blk_frozen BK152.out 3; have hfz14_4 := blk_frozen BK152.out 4; have hfz14_5 := blk_frozen BK152.out 5; have hfz14_6 := blk_frozen BK152.out 6; have hfz14_7 := blk_frozen BK152.out 7)))
      (try simp only [Act.put, List.setIfInBounds_toArray, List.set_cons_zero, List.set_cons_succ])
      go_cut [36] (fun v36 wc => ∃ (kq : Nat) (x36_9 : Bool), v36 = .bool x36_9 ∧ Aside0 (davitref07_Next.j1 kq ([] : List Int) x36_9 a0_0 a0_1 l0_2 ((rd_T50 l0_2 a1).f3.f0) ((rd_T50 l0_2 a1).f3.f1) ((rd_T50 l0_2 a1).f3.f2) ((rd_T50 l0_2 a1).f3.f3) ((rd_T50 l0_2 a1).f3.f4) ((rd_T50 l0_2 a1).f3.f5) ((rd_T50 l0_2 a1).f3.f6) ((rd_T50 l0_2 a1).f3.f7) = some r) ∧ Aside0 (kq ≤ kj2) ∧ Aside0 (Kd.R (Kd.int .i64) 3 wc w.heap.size (fun _ => True) (.slice none 0 0) ([] : List Int)) ∧ Aside0 (wc.heap[gb150]? = some (.cells #[.int .i64 a0_0, .int .i64 a0_1, (.slice (some ad151) l0_2.length c0_2)] 24 (0, 0))) ∧ Aside0 (wc.heap[gb152]? = some (.cells #[.int .i64 ((rd_T50 l0_2 a1).f3.f0), .int .i64 ((rd_T50 l0_2 a1).f3.f1), .int .i64 ((rd_T50 l0_2 a1).f3.f2), .int .i64 ((rd_T50 l0_2 a1).f3.f3), (.slice A151_10 ((rd_T50 l0_2 a1).f3.f4).length c151_10), .int .i64 ((rd_T50 l0_2 a1).f3.f5), .int .i64 ((rd_T50 l0_2 a1).f3.f6), .int .i64 ((rd_T50 l0_2 a1).f3.f7)] 44 (0, 0))) ∧ Aside0 (Below w.heap.size w wc))
      case first =>
       have H := HC10.out
       clear HC10
       by_cases c15 : ((rd_T50 l0_2 a1).f3.f0) = 2
       ·rw [if_pos c15] at H
        have c15b0 : (((rd_T50 l0_2 a1).f3.f0) == 2) = true := beq_iff_eq.mpr c15
        have c15b1 : (((rd_T50 l0_2 a1).f3.f0) != 2) = false := bne_eq_false_iff_eq.mpr c15
        clear c15
        (first | rw [c15b0] | (simp only [i64_w, i32_w]; rw [c15b0]) | skip)
        have H' := Aside0.mk H
        clear H
        have hnb16 := NB152_150.out
        have hnc16 := NB150_152.out
        have hcz17_0 : w12.cell? ⟨gb152, 0, none⟩ = some (.int .i64 0) := (blk_cell BK152.out 0).trans rfl
        have hcz17_1 : w12.cell? ⟨gb152, 1, none⟩ = some (.int .i64 0) := (blk_cell BK152.out 1).trans rfl
        have hcz17_2 : w12.cell? ⟨gb152, 2, none⟩ = some (.int .i64 0) := (blk_cell BK152.out 2).trans rfl
        have hcz17_3 : w12.cell? ⟨gb152, 3, none⟩ = some (.int .i64 0) := (blk_cell BK152.out 3).trans rfl
        have hcz17_4 : w12.cell? ⟨gb152, 4, none⟩ = some (.slice none 0 0) := (blk_cell BK152.out 4).trans rfl
        have hcz17_5 : w12.cell? ⟨gb152, 5, none⟩ = some (.int .i64 0) := (blk_cell BK152.out 5).trans rfl
        have hcz17_6 : w12.cell? ⟨gb152, 6, none⟩ = some (.int .i64 0) := (blk_cell BK152.out 6).trans rfl
        have hcz17_7 : w12.cell? ⟨gb152, 7, none⟩ = some (.int .i64 0) := (blk_cell BK152.out 7).trans rfl
        have hfz17_0 := blk_frozen BK152.out 0
        have hfz17_1 := blk_frozen BK152.out 1
        have hfz17_2 := blk_frozen BK152.out 2
        have hfz17_3 := blk_frozen BK152.out 3
        have hfz17_4 := blk_frozen BK152.out 4
        have hfz17_5 := blk_frozen BK152.out 5
        have hfz17_6 := blk_frozen BK152.out 6
        have hfz17_7 := blk_frozen BK152.out 7
        go_wp2
        repeat (go_quiet (fail); try go_wp2)
        go_meet
        case rel => exact ⟨_, (true), (by first | rfl | (simp; done) | (simp [*]; done)), H', ⟨by have := HJ2.out; first | omega | exact Nat.le_refl _⟩, ⟨by first | exact Kd.R_nil _ _ _ _ _ | exact Kd.N_nil _ _ _ _ _ | exact Kd.V_nil _ _ _ _ _ | exact Kd.Q_nil _ _ _ _ _ | exact Kd.S_nil _ _ _ _ _⟩, ⟨by (with_reducible repeat (first | refine blk_drewN ?_ _ | refine blk_drew ?_ | refine blk_alloc ?_ _)); refine blk_far ?_ NB150_152.out _; (with_reducible repeat (first | refine blk_drewN ?_ _ | refine blk_drew ?_ | refine blk_alloc ?_ _)); refine blk_far ?_ NB150_152.out _; (with_reducible repeat (first | refine blk_drewN ?_ _ | refine blk_drew ?_ | refine blk_alloc ?_ _)); refine blk_far ?_ NB150_152.out _; (with_reducible repeat (first | refine blk_drewN ?_ _ | refine blk_drew ?_ | refine blk_alloc ?_ _)); refine blk_far ?_ NB150_152.out _; (with_reducible repeat (first | refine blk_drewN ?_ _ | refine blk_drew ?_ | refine blk_alloc ?_ _)); refine blk_far ?_ NB150_152.out _; (with_reducible repeat (first | refine blk_drewN ?_ _ | refine blk_drew ?_ | refine blk_alloc ?_ _)); refine blk_far ?_ NB150_152.out _; (with_reducible repeat (first | refine blk_drewN ?_ _ | refine blk_drew ?_ | refine blk_alloc ?_ _)); refine blk_far ?_ NB150_152.out _; (with_reducible repeat (first | refine blk_drewN ?_ _ | refine blk_drew ?_ | refine blk_alloc ?_ _)); refine blk_far ?_ NB150_152.out _; (with_reducible repeat (first | refine blk_drewN ?_ _ | refine blk_drew ?_ | refine blk_alloc ?_ _)); exact BK150.out⟩, ⟨by (with_reducible repeat (first | refine blk_drewN ?_ _ | refine blk_drew ?_ | refine blk_alloc ?_ _)); refine blk_put (cs := #[.int .i64 ((rd_T50 l0_2 a1).f3.f0), .int .i64 ((rd_T50 l0_2 a1).f3.f1), .int .i64 ((rd_T50 l0_2 a1).f3.f2), .int .i64 ((rd_T50 l0_2 a1).f3.f3), .slice A151_10 ((rd_T50 l0_2 a1).f3.f4).length c151_10, .int .i64 ((rd_T50 l0_2 a1).f3.f5), .int .i64 ((rd_T50 l0_2 a1).f3.f6), .int .i64 0]) ?_ 7 _ rfl; (with_reducible repeat (first | refine blk_drewN ?_ _ | refine blk_drew ?_ | refine blk_alloc ?_ _)); refine blk_put (cs := #[.int .i64 ((rd_T50 l0_2 a1).f3.f0), .int .i64 ((rd_T50 l0_2 a1).f3.f1), .int .i64 ((rd_T50 l0_2 a1).f3.f2), .int .i64 ((rd_T50 l0_2 a1).f3.f3), .slice A151_10 ((rd_T50 l0_2 a1).f3.f4).length c151_10, .int .i64 ((rd_T50 l0_2 a1).f3.f5), .int .i64 0, .int .i64 0]) ?_ 6 _ rfl; (with_reducible repeat (first | refine blk_drewN ?_ _ | refine blk_drew ?_ | refine blk_alloc ?_ _)); refine blk_put (cs := #[.int .i64 ((rd_T50 l0_2 a1).f3.f0), .int .i64 ((rd_T50 l0_2 a1).f3.f1), .int .i64 ((rd_T50 l0_2 a1).f3.f2), .int .i64 ((rd_T50 l0_2 a1).f3.f3), .slice A151_10 ((rd_T50 l0_2 a1).f3.f4).length c151_10, .int .i64 0, .int .i64 0, .int .i64 0]) ?_ 5 _ rfl; (with_reducible repeat (first | refine blk_drewN ?_ _ | refine blk_drew ?_ | refine blk_alloc ?_ _)); refine blk_put (cs := #[.int .i64 ((rd_T50 l0_2 a1).f3.f0), .int .i64 ((rd_T50 l0_2 a1).f3.f1), .int .i64 ((rd_T50 l0_2 a1).f3.f2), .int .i64 ((rd_T50 l0_2 a1).f3.f3), .slice none 0 0, .int .i64 0, .int .i64 0, .int .i64 0]) ?_ 4 _ rfl; (with_reducible repeat (first | refine blk_drewN ?_ _ | refine blk_drew ?_ | refine blk_alloc ?_ _)); refine blk_put (cs := #[.int .i64 ((rd_T50 l0_2 a1).f3.f0), .int .i64 ((rd_T50 l0_2 a1).f3.f1), .int .i64 ((rd_T50 l0_2 a1).f3.f2), .int .i64 0, .slice none 0 0, .int .i64 0, .int .i64 0, .int .i64 0]) ?_ 3 _ rfl; (with_reducible repeat (first | refine blk_drewN ?_ _ | refine blk_drew ?_ | refine blk_alloc ?_ _)); refine blk_put (cs := #[.int .i64 ((rd_T50 l0_2 a1).f3.f0), .int .i64 ((rd_T50 l0_2 a1).f3.f1), .int .i64 0, .int .i64 0, .slice none 0 0, .int .i64 0, .int .i64 0, .int .i64 0]) ?_ 2 _ rfl; (with_reducible repeat (first | refine blk_drewN ?_ _ | refine blk_drew ?_ | refine blk_alloc ?_ _)); refine blk_put (cs := #[.int .i64 ((rd_T50 l0_2 a1).f3.f0), .int .i64 0, .int .i64 0, .int .i64 0, .slice none 0 0, .int .i64 0, .int .i64 0, .int .i64 0]) ?_ 1 _ rfl; (with_reducible repeat (first | refine blk_drewN ?_ _ | refine blk_drew ?_ | refine blk_alloc ?_ _)); refine blk_put (cs := #[.int .i64 0, .int .i64 0, .int .i64 0, .int .i64 0, .slice none 0 0, .int .i64 0, .int .i64 0, .int .i64 0]) ?_ 0 _ rfl; (with_reducible repeat (first | refine blk_drewN ?_ _ | refine blk_drew ?_ | refine blk_alloc ?_ _)); exact BK152.out⟩, ⟨by repeat (first | (with_reducible first | exact HB.out | apply below_alloc | apply pw_below_drewN | apply below_drew1 | refine below_set ?_ GE150.out | refine below_set ?_ GE152.out) | exact HB.out)⟩⟩
       ·rw [if_neg c15] at H
        have c15b0 : (((rd_T50 l0_2 a1).f3.f0) == 2) = false := beq_eq_false_iff_ne.mpr c15
        have c15b1 : (((rd_T50 l0_2 a1).f3.f0) != 2) = true := bne_iff_ne.mpr c15
        (first | rw [c15b0] | (simp only [i64_w, i32_w]; rw [c15b0]) | skip)
        by_cases c18 : ((rd_T50 l0_2 a1).f3.f0) = 3
        ·rw [if_pos c18] at H
         have c18b0 : (((rd_T50 l0_2 a1).f3.f0) == 3) = true := beq_iff_eq.mpr c18
         have c18b1 : (((rd_T50 l0_2 a1).f3.f0) != 3) = false := bne_eq_false_iff_eq.mpr c18
         clear c18
         have H' := Aside0.mk H
         clear H
         have hnb19 := NB152_150.out
         have hnc19 := NB150_152.out
         have hcz20_0 : w12.cell? ⟨gb152, 0, none⟩ = some (.int .i64 0) := (blk_cell BK152.out 0).trans rfl
         have hcz20_1 : w12.cell? ⟨gb152, 1, none⟩ = some (.int .i64 0) := (blk_cell BK152.out 1).trans rfl
         have hcz20_2 : w12.cell? ⟨gb152, 2, none⟩ = some (.int .i64 0) := (blk_cell BK152.out 2).trans rfl
         have hcz20_3 : w12.cell? ⟨gb152, 3, none⟩ = some (.int .i64 0) := (blk_cell BK152.out 3).trans rfl
         have hcz20_4 : w12.cell? ⟨gb152, 4, none⟩ = some (.slice none 0 0) := (blk_cell BK152.out 4).trans rfl
         have hcz20_5 : w12.cell? ⟨gb152, 5, none⟩ = some (.int .i64 0) := (blk_cell BK152.out 5).trans rfl
         have hcz20_6 : w12.cell? ⟨gb152, 6, none⟩ = some (.int .i64 0) := (blk_cell BK152.out 6).trans rfl
         have hcz20_7 : w12.cell? ⟨gb152, 7, none⟩ = some (.int .i64 0) := (blk_cell BK152.out 7).trans rfl
         have hfz20_0 := blk_frozen BK152.out 0
         have hfz20_1 := blk_frozen BK152.out 1
         have hfz20_2 := blk_frozen BK152.out 2
         have hfz20_3 := blk_frozen BK152.out 3
         have hfz20_4 := blk_frozen BK152.out 4
         have hfz20_5 := blk_frozen BK152.out 5
         have hfz20_6 := blk_frozen BK152.out 6
         have hfz20_7 := blk_frozen BK152.out 7
         go_wp2
         repeat (go_quiet (fail); try go_wp2)
         go_meet
         case rel => exact ⟨_, (true), (by first | rfl | (simp; done) | (simp [*]; done)), H', ⟨by have := HJ2.out; first | omega | exact Nat.le_refl _⟩, ⟨by first | exact Kd.R_nil _ _ _ _ _ | exact Kd.N_nil _ _ _ _ _ | exact Kd.V_nil _ _ _ _ _ | exact Kd.Q_nil _ _ _ _ _ | exact Kd.S_nil _ _ _ _ _⟩, ⟨by (with_reducible repeat (first | refine blk_drewN ?_ _ | refine blk_drew ?_ | refine blk_alloc ?_ _)); refine blk_far ?_ NB150_152.out _; (with_reducible repeat (first | refine blk_drewN ?_ _ | refine blk_drew ?_ | refine blk_alloc ?_ _)); refine blk_far ?_ NB150_152.out _; (with_reducible repeat (first | refine blk_drewN ?_ _ | refine blk_drew ?_ | refine blk_alloc ?_ _)); refine blk_far ?_ NB150_152.out _; (with_reducible repeat (first | refine blk_drewN ?_ _ | refine blk_drew ?_ | refine blk_alloc ?_ _)); refine blk_far ?_ NB150_152.out _; (with_reducible repeat (first | refine blk_drewN ?_ _ | refine blk_drew ?_ | refine blk_alloc ?_ _)); refine blk_far ?_ NB150_152.out _; (with_reducible repeat (first | refine blk_drewN ?_ _ | refine blk_drew ?_ | refine blk_alloc ?_ _)); refine blk_far ?_ NB150_152.out _; (with_reducible repeat (first | refine blk_drewN ?_ _ | refine blk_drew ?_ | refine blk_alloc ?_ _)); refine blk_far ?_ NB150_152.out _; (with_reducible repeat (first | refine blk_drewN ?_ _ | refine blk_drew ?_ | refine blk_alloc ?_ _)); refine blk_far ?_ NB150_152.out _; (with_reducible repeat (first | refine blk_drewN ?_ _ | refine blk_drew ?_ | refine blk_alloc ?_ _)); exact BK150.out⟩, ⟨by (with_reducible repeat (first | refine blk_drewN ?_ _ | refine blk_drew ?_ | refine blk_alloc ?_ _)); refine blk_put (cs := #[.int .i64 ((rd_T50 l0_2 a1).f3.f0), .int .i64 ((rd_T50 l0_2 a1).f3.f1), .int .i64 ((rd_T50 l0_2 a1).f3.f2), .int .i64 ((rd_T50 l0_2 a1).f3.f3), .slice A151_10 ((rd_T50 l0_2 a1).f3.f4).length c151_10, .int .i64 ((rd_T50 l0_2 a1).f3.f5), .int .i64 ((rd_T50 l0_2 a1).f3.f6), .int .i64 0]) ?_ 7 _ rfl; (with_reducible repeat (first | refine blk_drewN ?_ _ | refine blk_drew ?_ | refine blk_alloc ?_ _)); refine blk_put (cs := #[.int .i64 ((rd_T50 l0_2 a1).f3.f0), .int .i64 ((rd_T50 l0_2 a1).f3.f1), .int .i64 ((rd_T50 l0_2 a1).f3.f2), .int .i64 ((rd_T50 l0_2 a1).f3.f3), .slice A151_10 ((rd_T50 l0_2 a1).f3.f4).length c151_10, .int .i64 ((rd_T50 l0_2 a1).f3.f5), .int .i64 0, .int .i64 0]) ?_ 6 _ rfl; (with_reducible repeat (first | refine blk_drewN ?_ _ | refine blk_drew ?_ | refine blk_alloc ?_ _)); refine blk_put (cs := #[.int .i64 ((rd_T50 l0_2 a1).f3.f0), .int .i64 ((rd_T50 l0_2 a1).f3.f1), .int .i64 ((rd_T50 l0_2 a1).f3.f2), .int .i64 ((rd_T50 l0_2 a1).f3.f3), .slice A151_10 ((rd_T50 l0_2 a1).f3.f4).length c151_10, .int .i64 0, .int .i64 0, .int .i64 0]) ?_ 5 _ rfl; (with_reducible repeat (first | refine blk_drewN ?_ _ | refine blk_drew ?_ | refine blk_alloc ?_ _)); refine blk_put (cs := #[.int .i64 ((rd_T50 l0_2 a1).f3.f0), .int .i64 ((rd_T50 l0_2 a1).f3.f1), .int .i64 ((rd_T50 l0_2 a1).f3.f2), .int .i64 ((rd_T50 l0_2 a1).f3.f3), .slice none 0 0, .int .i64 0, .int .i64 0, .int .i64 0]) ?_ 4 _ rfl; (with_reducible repeat (first | refine blk_drewN ?_ _ | refine blk_drew ?_ | refine blk_alloc ?_ _)); refine blk_put (cs := #[.int .i64 ((rd_T50 l0_2 a1).f3.f0), .int .i64 ((rd_T50 l0_2 a1).f3.f1), .int .i64 ((rd_T50 l0_2 a1).f3.f2), .int .i64 0, .slice none 0 0, .int .i64 0, .int .i64 0, .int .i64 0]) ?_ 3 _ rfl; (with_reducible repeat (first | refine blk_drewN ?_ _ | refine blk_drew ?_ | refine blk_alloc ?_ _)); refine blk_put (cs := #[.int .i64 ((rd_T50 l0_2 a1).f3.f0), .int .i64 ((rd_T50 l0_2 a1).f3.f1), .int .i64 0, .int .i64 0, .slice none 0 0, .int .i64 0, .int .i64 0, .int .i64 0]) ?_ 2 _ rfl; (with_reducible repeat (first | refine blk_drewN ?_ _ | refine blk_drew ?_ | refine blk_alloc ?_ _)); refine blk_put (cs := #[.int .i64 ((rd_T50 l0_2 a1).f3.f0), .int .i64 0, .int .i64 0, .int .i64 0, .slice none 0 0, .int .i64 0, .int .i64 0, .int .i64 0]) ?_ 1 _ rfl; (with_reducible repeat (first | refine blk_drewN ?_ _ | refine blk_drew ?_ | refine blk_alloc ?_ _)); refine blk_put (cs := #[.int .i64 0, .int .i64 0, .int .i64 0, .int .i64 0, .slice none 0 0, .int .i64 0, .int .i64 0, .int .i64 0]) ?_ 0 _ rfl; (with_reducible repeat (first | refine blk_drewN ?_ _ | refine blk_drew ?_ | refine blk_alloc ?_ _)); exact BK152.out⟩, ⟨by repeat (first | (with_reducible first | exact HB.out | apply below_alloc | apply pw_below_drewN | apply below_drew1 | refine below_set ?_ GE150.out | refine below_set ?_ GE152.out) | exact HB.out)⟩⟩
        ·rw [if_neg c18] at H
         have c18b0 : (((rd_T50 l0_2 a1).f3.f0) == 3) = false := beq_eq_false_iff_ne.mpr c18
         have c18b1 : (((rd_T50 l0_2 a1).f3.f0) != 3) = true := bne_iff_ne.mpr c18
         have H' := Aside0.mk H
         clear H
         have hnb21 := NB152_150.out
         have hnc21 := NB150_152.out
         have hcz22_0 : w12.cell? ⟨gb152, 0, none⟩ = some (.int .i64 0) := (blk_cell BK152.out 0).trans rfl
         have hcz22_1 : w12.cell? ⟨gb152, 1, none⟩ = some (.int .i64 0) := (blk_cell BK152.out 1).trans rfl
         have hcz22_2 : w12.cell? ⟨gb152, 2, none⟩ = some (.int .i64 0) := (blk_cell BK152.out 2).trans rfl
         have hcz22_3 : w12.cell? ⟨gb152, 3, none⟩ = some (.int .i64 0) := (blk_cell BK152.out 3).trans rfl
         have hcz22_4 : w12.cell? ⟨gb152, 4, none⟩ = some (.slice none 0 0) := (blk_cell BK152.out 4).trans rfl
         have hcz22_5 : w12.cell? ⟨gb152, 5, none⟩ = some (.int .i64 0) := (blk_cell BK152.out 5).trans rfl
         have hcz22_6 : w12.cell? ⟨gb152, 6, none⟩ = some (.int .i64 0) := (blk_cell BK152.out 6).trans rfl
         have hcz22_7 : w12.cell? ⟨gb152, 7, none⟩ = some (.int .i64 0) := (blk_cell BK152.out 7).trans rfl
         have hfz22_0 := blk_frozen BK152.out 0
         have hfz22_1 := blk_frozen BK152.out 1
         have hfz22_2 := blk_frozen BK152.out 2
         have hfz22_3 := blk_frozen BK152.out 3
         have hfz22_4 := blk_frozen BK152.out 4
         have hfz22_5 := blk_frozen BK152.out 5
         have hfz22_6 := blk_frozen BK152.out 6
         have hfz22_7 := blk_frozen BK152.out 7
         go_wp2
         repeat (go_quiet (fail); try go_wp2)
         go_meet
         case rel => exact ⟨_, ((((rd_T50 l0_2 a1).f3.f0) == 4)), (by first | rfl | (simp; done) | (simp [*]; done)), H', ⟨by have := HJ2.out; first | omega | exact Nat.le_refl _⟩, ⟨by first | exact Kd.R_nil _ _ _ _ _ | exact Kd.N_nil _ _ _ _ _ | exact Kd.V_nil _ _ _ _ _ | exact Kd.Q_nil _ _ _ _ _ | exact Kd.S_nil _ _ _ _ _⟩, ⟨by (with_reducible repeat (first | refine blk_drewN ?_ _ | refine blk_drew ?_ | refine blk_alloc ?_ _)); refine blk_far ?_ NB150_152.out _; (with_reducible repeat (first | refine blk_drewN ?_ _ | refine blk_drew ?_ | refine blk_alloc ?_ _)); refine blk_far ?_ NB150_152.out _; (with_reducible repeat (first | refine blk_drewN ?_ _ | refine blk_drew ?_ | refine blk_alloc ?_ _)); refine blk_far ?_ NB150_152.out _; (with_reducible repeat (first | refine blk_drewN ?_ _ | refine blk_drew ?_ | refine blk_alloc ?_ _)); refine blk_far ?_ NB150_152.out _; (with_reducible repeat (first | refine blk_drewN ?_ _ | refine blk_drew ?_ | refine blk_alloc ?_ _)); refine blk_far ?_ NB150_152.out _; (with_reducible repeat (first | refine blk_drewN ?_ _ | refine blk_drew ?_ | refine blk_alloc ?_ _)); refine blk_far ?_ NB150_152.out _; (with_reducible repeat (first | refine blk_drewN ?_ _ | refine blk_drew ?_ | refine blk_alloc ?_ _)); refine blk_far ?_ NB150_152.out _; (with_reducible repeat (first | refine blk_drewN ?_ _ | refine blk_drew ?_ | refine blk_alloc ?_ _)); refine blk_far ?_ NB150_152.out _; (with_reducible repeat (first | refine blk_drewN ?_ _ | refine blk_drew ?_ | refine blk_alloc ?_ _)); exact BK150.out⟩, ⟨by (with_reducible repeat (first | refine blk_drewN ?_ _ | refine blk_drew ?_ | refine blk_alloc ?_ _)); refine blk_put (cs := #[.int .i64 ((rd_T50 l0_2 a1).f3.f0), .int .i64 ((rd_T50 l0_2 a1).f3.f1), .int .i64 ((rd_T50 l0_2 a1).f3.f2), .int .i64 ((rd_T50 l0_2 a1).f3.f3), .slice A151_10 ((rd_T50 l0_2 a1).f3.f4).length c151_10, .int .i64 ((rd_T50 l0_2 a1).f3.f5), .int .i64 ((rd_T50 l0_2 a1).f3.f6), .int .i64 0]) ?_ 7 _ rfl; (with_reducible repeat (first | refine blk_drewN ?_ _ | refine blk_drew ?_ | refine blk_alloc ?_ _)); refine blk_put (cs := #[.int .i64 ((rd_T50 l0_2 a1).f3.f0), .int .i64 ((rd_T50 l0_2 a1).f3.f1), .int .i64 ((rd_T50 l0_2 a1).f3.f2), .int .i64 ((rd_T50 l0_2 a1).f3.f3), .slice A151_10 ((rd_T50 l0_2 a1).f3.f4).length c151_10, .int .i64 ((rd_T50 l0_2 a1).f3.f5), .int .i64 0, .int .i64 0]) ?_ 6 _ rfl; (with_reducible repeat (first | refine blk_drewN ?_ _ | refine blk_drew ?_ | refine blk_alloc ?_ _)); refine blk_put (cs := #[.int .i64 ((rd_T50 l0_2 a1).f3.f0), .int .i64 ((rd_T50 l0_2 a1).f3.f1), .int .i64 ((rd_T50 l0_2 a1).f3.f2), .int .i64 ((rd_T50 l0_2 a1).f3.f3), .slice A151_10 ((rd_T50 l0_2 a1).f3.f4).length c151_10, .int .i64 0, .int .i64 0, .int .i64 0]) ?_ 5 _ rfl; (with_reducible repeat (first | refine blk_drewN ?_ _ | refine blk_drew ?_ | refine blk_alloc ?_ _)); refine blk_put (cs := #[.int .i64 ((rd_T50 l0_2 a1).f3.f0), .int .i64 ((rd_T50 l0_2 a1).f3.f1), .int .i64 ((rd_T50 l0_2 a1).f3.f2), .int .i64 ((rd_T50 l0_2 a1).f3.f3), .slice none 0 0, .int .i64 0, .int .i64 0, .int .i64 0]) ?_ 4 _ rfl; (with_reducible repeat (first | refine blk_drewN ?_ _ | refine blk_drew ?_ | refine blk_alloc ?_ _)); refine blk_put (cs := #[.int .i64 ((rd_T50 l0_2 a1).f3.f0), .int .i64 ((rd_T50 l0_2 a1).f3.f1), .int .i64 ((rd_T50 l0_2 a1).f3.f2), .int .i64 0, .slice none 0 0, .int .i64 0, .int .i64 0, .int .i64 0]) ?_ 3 _ rfl; (with_reducible repeat (first | refine blk_drewN ?_ _ | refine blk_drew ?_ | refine blk_alloc ?_ _)); refine blk_put (cs := #[.int .i64 ((rd_T50 l0_2 a1).f3.f0), .int .i64 ((rd_T50 l0_2 a1).f3.f1), .int .i64 0, .int .i64 0, .slice none 0 0, .int .i64 0, .int .i64 0, .int .i64 0]) ?_ 2 _ rfl; (with_reducible repeat (first | refine blk_drewN ?_ _ | refine blk_drew ?_ | refine blk_alloc ?_ _)); refine blk_put (cs := #[.int .i64 ((rd_T50 l0_2 a1).f3.f0), .int .i64 0, .int .i64 0, .int .i64 0, .slice none 0 0, .int .i64 0, .int .i64 0, .int .i64 0]) ?_ 1 _ rfl; (with_reducible repeat (first | refine blk_drewN ?_ _ | refine blk_drew ?_ | refine blk_alloc ?_ _)); refine blk_put (cs := #[.int .i64 0, .int .i64 0, .int .i64 0, .int .i64 0, .slice none 0 0, .int .i64 0, .int .i64 0, .int .i64 0]) ?_ 0 _ rfl; (with_reducible repeat (first | refine blk_drewN ?_ _ | refine blk_drew ?_ | refine blk_alloc ?_ _)); exact BK152.out⟩, ⟨by repeat (first | (with_reducible first | exact HB.out | apply below_alloc | apply pw_below_drewN | apply below_drew1 | refine below_set ?_ GE150.out | refine below_set ?_ GE152.out) | exact HB.out)⟩⟩
      case rest =>
       clear HC10
       try clear c1
       try clear p1
       try clear q1
       try clear hx1
       try clear c2
       try clear p2
       try clear c3
       try clear c5
       try clear c5b0
       try clear c7
       try clear c8
       try clear c8b0
       try clear c9
       try clear c9b0
       try clear c13
       try clear c15
       try clear c15b0
       try clear c15b1
       try clear p15
       try clear q15
       try clear hx15
       try clear c16
       try clear c18
       try clear c18b0
       try clear c18b1
       try clear c19
       try clear c21
       try clear hcz11_0
       try clear hcz11_1
       try clear hcz11_2
       try clear hcz14_0
       try clear hcz14_1
       try clear hcz14_2
       try clear hcz14_3
       try clear hcz14_4
       try clear hcz14_5
       try clear hcz14_6
       try clear hcz14_7
       try clear hcz17_0
       try clear hcz17_1
       try clear hcz17_2
       try clear hcz17_3
       try clear hcz17_4
       try clear hcz17_5
       try clear hcz17_6
       try clear hcz17_7
       try clear hcz20_0
       try clear hcz20_1
       try clear hcz20_2
       try clear hcz20_3
       try clear hcz20_4
       try clear hcz20_5
       try clear hcz20_6
       try clear hcz20_7
       try clear hcz22_0
       try clear hcz22_1
       try clear hcz22_2
       try clear hcz22_3
       try clear hcz22_4
       try clear hcz22_5
       try clear hcz22_6
       try clear hcz22_7
       try clear hcz6_0
       try clear hcz6_1
       try clear hcz6_2
       try clear hfz11_0
       try clear hfz11_1
       try clear hfz11_2
       try clear hfz14_0
       try clear hfz14_1
       try clear hfz14_2
       try clear hfz14_3
       try clear hfz14_4
       try clear hfz14_5
       try clear hfz14_6
       try clear hfz14_7
       try clear hfz17_0
       try clear hfz17_1
       try clear hfz17_2
       try clear hfz17_3
       try clear hfz17_4
       try clear hfz17_5
       try clear hfz17_6
       try clear hfz17_7
       try clear hfz20_0
       try clear hfz20_1
       try clear hfz20_2
       try clear hfz20_3
       try clear hfz20_4
       try clear hfz20_5
       try clear hfz20_6
       try clear hfz20_7
       try clear hfz22_0
       try clear hfz22_1
       try clear hfz22_2
       try clear hfz22_3
       try clear hfz22_4
       try clear hfz22_5
       try clear hfz22_6
       try clear hfz22_7
       try clear hfz6_0
       try clear hfz6_1
       try clear hfz6_2
       try clear hx151_0
       try clear hx151_1
       try clear hx151_10
       try clear hx151_11
       try clear hx151_12
       try clear hx151_13
       try clear hx151_2
       try clear hx151_3
       try clear hx151_4
       try clear hx151_5
       try clear hx151_6
       try clear hx151_7
       try clear hx151_8
       try clear hx151_9
       try clear p151
       try clear p2
       try clear q151
       obtain ⟨kq, x36_9, rfl, HA, HJ9, HO_6, BK150, BK152, HB⟩ := hcut
       cases kq with
       | zero => exact absurd HA.out (by simp [davitref07_Next.j1])
       | succ kj9 =>
        have H := HA.out
        clear HA
        simp only [davitref07_Next.j1] at H
        have HC23 := Aside0.mk H
        clear H
        go_upto_if 36 with (fail)
        repeat (go_quiet (fail); go_upto_if 36 with (fail))
        go_cut [6] (fun v6 wc => ∃ (kq : Nat) (x6_22 : List Int), Aside0 (davitref07_Next.j2 kq x6_22 a0_0 a0_1 l0_2 ((rd_T50 l0_2 a1).f3.f0) ((rd_T50 l0_2 a1).f3.f1) ((rd_T50 l0_2 a1).f3.f2) ((rd_T50 l0_2 a1).f3.f3) ((rd_T50 l0_2 a1).f3.f4) ((rd_T50 l0_2 a1).f3.f5) ((rd_T50 l0_2 a1).f3.f6) ((rd_T50 l0_2 a1).f3.f7) = some r) ∧ Aside0 (kq ≤ kj9) ∧ Aside0 (Kd.R (Kd.int .i64) 3 wc w.heap.size (fun _ => True) v6 x6_22) ∧ Aside0 (wc.heap[gb150]? = some (.cells #[.int .i64 a0_0, .int .i64 a0_1, (.slice (some ad151) l0_2.length c0_2)] 24 (0, 0))) ∧ Aside0 (wc.heap[gb152]? = some (.cells #[.int .i64 ((rd_T50 l0_2 a1).f3.f0), .int .i64 ((rd_T50 l0_2 a1).f3.f1), .int .i64 ((rd_T50 l0_2 a1).f3.f2), .int .i64 ((rd_T50 l0_2 a1).f3.f3), (.slice A151_10 ((rd_T50 l0_2 a1).f3.f4).length c151_10), .int .i64 ((rd_T50 l0_2 a1).f3.f5), .int .i64 ((rd_T50 l0_2 a1).f3.f6), .int .i64 ((rd_T50 l0_2 a1).f3.f7)] 44 (0, 0))) ∧ Aside0 (Below w.heap.size w wc))
        case first =>
         have H := HC23.out
         clear HC23
         by_cases c24 : x36_9 = true
         ·subst c24
          have H1 : (if ([] : List Int).length < 17592186044416 then (davitref07_Next.j2 kj9 (([] : List Int) ++ [((rd_T50 l0_2 a1).f3.f5)]) a0_0 a0_1 l0_2 ((rd_T50 l0_2 a1).f3.f0) ((rd_T50 l0_2 a1).f3.f1) ((rd_T50 l0_2 a1).f3.f2) ((rd_T50 l0_2 a1).f3.f3) ((rd_T50 l0_2 a1).f3.f4) ((rd_T50 l0_2 a1).f3.f5) ((rd_T50 l0_2 a1).f3.f6) ((rd_T50 l0_2 a1).f3.f7)) else (none)) = some r := by rw [if_pos rfl] at H; exact H
          clear H
          have H := H1
          clear H1
          by_cases c25 : ([] : List Int).length < 17592186044416
          ·rw [if_pos c25] at H
           have LMc25 := Aside0.mk c25
           clear c25
           obtain ⟨y153, hy153⟩ : ∃ y_ : List Int, y_ = (([] : List Int) ++ [((rd_T50 l0_2 a1).f3.f5)]) := ⟨_, rfl⟩
           replace H : (davitref07_Next.j2 kj9 y153 a0_0 a0_1 l0_2 ((rd_T50 l0_2 a1).f3.f0) ((rd_T50 l0_2 a1).f3.f1) ((rd_T50 l0_2 a1).f3.f2) ((rd_T50 l0_2 a1).f3.f3) ((rd_T50 l0_2 a1).f3.f4) ((rd_T50 l0_2 a1).f3.f5) ((rd_T50 l0_2 a1).f3.f6) ((rd_T50 l0_2 a1).f3.f7)) = some r := by first | (rw [hy153]; with_reducible exact H) | (have H2_ := (Option.bind_some _ _).symm.trans H; rw [hy153]; with_reducible exact H2_) | (have H2_ := (Option.bind_some _ _).symm.trans H; with_reducible exact H2_) | with_reducible exact H | (rw [hy153]; exact H) | exact H
           have Ny153 := Aside0.mk hy153
           clear hy153
           have H' := Aside0.mk H
           clear H
           have hnb26 := NB152_150.out
           have hnc26 := NB150_152.out
           have hcz27_0 : wc.cell? ⟨gb152, 0, none⟩ = some (.int .i64 ((rd_T50 l0_2 a1).f3.f0)) := (blk_cell BK152.out 0).trans rfl
           have hcz27_1 : wc.cell? ⟨gb152, 1, none⟩ = some (.int .i64 ((rd_T50 l0_2 a1).f3.f1)) := (blk_cell BK152.out 1).trans rfl
           have hcz27_2 : wc.cell? ⟨gb152, 2, none⟩ = some (.int .i64 ((rd_T50 l0_2 a1).f3.f2)) := (blk_cell BK152.out 2).trans rfl
           have hcz27_3 : wc.cell? ⟨gb152, 3, none⟩ = some (.int .i64 ((rd_T50 l0_2 a1).f3.f3)) := (blk_cell BK152.out 3).trans rfl
           have hcz27_4 : wc.cell? ⟨gb152, 4, none⟩ = some (.slice A151_10 ((rd_T50 l0_2 a1).f3.f4).length c151_10) := (blk_cell BK152.out 4).trans rfl
           have hcz27_5 : wc.cell? ⟨gb152, 5, none⟩ = some (.int .i64 ((rd_T50 l0_2 a1).f3.f5)) := (blk_cell BK152.out 5).trans rfl
           have hcz27_6 : wc.cell? ⟨gb152, 6, none⟩ = some (.int .i64 ((rd_T50 l0_2 a1).f3.f6)) := (blk_cell BK152.out 6).trans rfl
           have hcz27_7 : wc.cell? ⟨gb152, 7, none⟩ = some (.int .i64 ((rd_T50 l0_2 a1).f3.f7)) := (blk_cell BK152.out 7).trans rfl
           have hfz27_0 := blk_frozen BK152.out 0
           have hfz27_1 := blk_frozen BK152.out 1
           have hfz27_2 := blk_frozen BK152.out 2
           have hfz27_3 := blk_frozen BK152.out 3
           have hfz27_4 := blk_frozen BK152.out 4
           have hfz27_5 := blk_frozen BK152.out 5
           have hfz27_6 := blk_frozen BK152.out 6
           have hfz27_7 := blk_frozen BK152.out 7
           go_wp2_with (first | ((with_reducible refine gate_builtin (b := .append) (xs := #[.tmp 37, .tmp 40]) rfl ?_); (try (refine gate_guard (by rfl) ?_; dsimp only)); at_builtin; refine Kd.R_append (Kd.int .i64) (w0 := w) w.heap.size rfl (.tmp 37) (.tmp 40) 27 3 (.int .i64 0) 8 rfl Try.underlying27 info3 rfl (by decide) (by omega) (.slice none 0 0) ([] : List Int) ((rd_T50 l0_2 a1).f3.f5) [.int .i64 ((rd_T50 l0_2 a1).f3.f5)] (fun _ => True) (fun _ => False) rfl rfl ?aP (fun _ hk => hk.elim) ?aF ?aO ?aB ?aS ?aL ?_; (case aP => exact rfl); (case aB => exact (by repeat (first | (with_reducible first | exact HB.out | apply below_alloc | apply pw_below_drewN | apply below_drew1 | refine below_set ?_ GE150.out | refine below_set ?_ GE152.out) | exact HB.out))); (case aF => exact (fun _ _ => trivial)); (case aO => exact (by (with_reducible repeat (first | apply Kd.R_alloc | apply Kd.R_drewN | apply Kd.R_drew)); exact HO_6.out)); (case aS => exact (below_size (by repeat (first | (with_reducible first | exact HB.out | apply below_alloc | apply pw_below_drewN | apply below_drew1 | refine below_set ?_ GE150.out | refine below_set ?_ GE152.out) | exact HB.out)))); (case aL => have := LMc25.out; omega); intro v154 w28 ho hb hg hat; rw [← Ny153.out] at ho; have n0_ := Aside0.mk (blk_grown (g := gb150) (o := .cells #[.int .i64 a0_0, .int .i64 a0_1, .slice (some ad151) l0_2.length c0_2] 24 (0, 0)) (by (with_reducible repeat (first | refine blk_drewN ?_ _ | refine blk_drew ?_ | refine blk_alloc ?_ _)); exact BK150.out) hg (Kd.R_ne HO_6.out BK150.out (by decide))); have n1_ := Aside0.mk (blk_grown (g := gb152) (o := .cells #[.int .i64 ((rd_T50 l0_2 a1).f3.f0), .int .i64 ((rd_T50 l0_2 a1).f3.f1), .int .i64 ((rd_T50 l0_2 a1).f3.f2), .int .i64 ((rd_T50 l0_2 a1).f3.f3), .slice A151_10 ((rd_T50 l0_2 a1).f3.f4).length c151_10, .int .i64 ((rd_T50 l0_2 a1).f3.f5), .int .i64 ((rd_T50 l0_2 a1).f3.f6), .int .i64 ((rd_T50 l0_2 a1).f3.f7)] 44 (0, 0)) (by (with_reducible repeat (first | refine blk_drewN ?_ _ | refine blk_drew ?_ | refine blk_alloc ?_ _)); exact BK152.out) hg (Kd.R_ne HO_6.out BK152.out (by decide))); have n2_ := Aside0.mk (hb); have n3_ := Aside0.mk (ho); clear BK150; clear BK152; clear HB; clear HO_6; have BK150 := n0_; have BK152 := n1_; have HB := n2_; have HO155 := n3_; clear n0_ n1_ n2_ n3_; clear ho hb hg hat))
           repeat (go_quiet (first | ((with_reducible refine gate_builtin (b := .append) (xs := #[.tmp 37, .tmp 40]) rfl ?_); (try (refine gate_guard (by rfl) ?_; dsimp only)); at_builtin; refine Kd.R_append (Kd.int .i64) (w0 := w) w.heap.size rfl (.tmp 37) (.tmp 40) 27 3 (.int .i64 0) 8 rfl Try.underlying27 info3 rfl (by decide) (by omega) (.slice none 0 0) ([] : List Int) ((rd_T50 l0_2 a1).f3.f5) [.int .i64 ((rd_T50 l0_2 a1).f3.f5)] (fun _ => True) (fun _ => False) rfl rfl ?aP (fun _ hk => hk.elim) ?aF ?aO ?aB ?aS ?aL ?_; (case aP => exact rfl); (case aB => exact (by repeat (first | (with_reducible first | exact HB.out | apply below_alloc | apply pw_below_drewN | apply below_drew1 | refine below_set ?_ GE150.out | refine below_set ?_ GE152.out) | exact HB.out))); (case aF => exact (fun _ _ => trivial)); (case aO => exact (by (with_reducible repeat (first | apply Kd.R_alloc | apply Kd.R_drewN | apply Kd.R_drew)); exact HO_6.out)); (case aS => exact (below_size (by repeat (first | (with_reducible first | exact HB.out | apply below_alloc | apply pw_below_drewN | apply below_drew1 | refine below_set ?_ GE150.out | refine below_set ?_ GE152.out) | exact HB.out)))); (case aL => have := LMc25.out; omega); intro v154 w28 ho hb hg hat; rw [← Ny153.out] at ho; have n0_ := Aside0.mk (blk_grown (g := gb150) (o := .cells #[.int .i64 a0_0, .int .i64 a0_1, .slice (some ad151) l0_2.length c0_2] 24 (0, 0)) (by (with_reducible repeat (first | refine blk_drewN ?_ _ | refine blk_drew ?_ | refine blk_alloc ?_ _)); exact BK150.out) hg (Kd.R_ne HO_6.out BK150.out (by decide))); have n1_ := Aside0.mk (blk_grown (g := gb152) (o := .cells #[.int .i64 ((rd_T50 l0_2 a1).f3.f0), .int .i64 ((rd_T50 l0_2 a1).f3.f1), .int .i64 ((rd_T50 l0_2 a1).f3.f2), .int .i64 ((rd_T50 l0_2 a1).f3.f3), .slice A151_10 ((rd_T50 l0_2 a1).f3.f4).length c151_10, .int .i64 ((rd_T50 l0_2 a1).f3.f5), .int .i64 ((rd_T50 l0_2 a1).f3.f6), .int .i64 ((rd_T50 l0_2 a1).f3.f7)] 44 (0, 0)) (by (with_reducible repeat (first | refine blk_drewN ?_ _ | refine blk_drew ?_ | refine blk_alloc ?_ _)); exact BK152.out) hg (Kd.R_ne HO_6.out BK152.out (by decide))); have n2_ := Aside0.mk (hb); have n3_ := Aside0.mk (ho); clear BK150; clear BK152; clear HB; clear HO_6; have BK150 := n0_; have BK152 := n1_; have HB := n2_; have HO155 := n3_; clear n0_ n1_ n2_ n3_; clear ho hb hg hat)); try go_wp2_with (first | ((with_reducible refine gate_builtin (b := .append) (xs := #[.tmp 37, .tmp 40]) rfl ?_); (try (refine gate_guard (by rfl) ?_; dsimp only)); at_builtin; refine Kd.R_append (Kd.int .i64) (w0 := w) w.heap.size rfl (.tmp 37) (.tmp 40) 27 3 (.int .i64 0) 8 rfl Try.underlying27 info3 rfl (by decide) (by omega) (.slice none 0 0) ([] : List Int) ((rd_T50 l0_2 a1).f3.f5) [.int .i64 ((rd_T50 l0_2 a1).f3.f5)] (fun _ => True) (fun _ => False) rfl rfl ?aP (fun _ hk => hk.elim) ?aF ?aO ?aB ?aS ?aL ?_; (case aP => exact rfl); (case aB => exact (by repeat (first | (with_reducible first | exact HB.out | apply below_alloc | apply pw_below_drewN | apply below_drew1 | refine below_set ?_ GE150.out | refine below_set ?_ GE152.out) | exact HB.out))); (case aF => exact (fun _ _ => trivial)); (case aO => exact (by (with_reducible repeat (first | apply Kd.R_alloc | apply Kd.R_drewN | apply Kd.R_drew)); exact HO_6.out)); (case aS => exact (below_size (by repeat (first | (with_reducible first | exact HB.out | apply below_alloc | apply pw_below_drewN | apply below_drew1 | refine below_set ?_ GE150.out | refine below_set ?_ GE152.out) | exact HB.out)))); (case aL => have := LMc25.out; omega); intro v154 w28 ho hb hg hat; rw [← Ny153.out] at ho; have n0_ := Aside0.mk (blk_grown (g := gb150) (o := .cells #[.int .i64 a0_0, .int .i64 a0_1, .slice (some ad151) l0_2.length c0_2] 24 (0, 0)) (by (with_reducible repeat (first | refine blk_drewN ?_ _ | refine blk_drew ?_ | refine blk_alloc ?_ _)); exact BK150.out) hg (Kd.R_ne HO_6.out BK150.out (by decide))); have n1_ := Aside0.mk (blk_grown (g := gb152) (o := .cells #[.int .i64 ((rd_T50 l0_2 a1).f3.f0), .int .i64 ((rd_T50 l0_2 a1).f3.f1), .int .i64 ((rd_T50 l0_2 a1).f3.f2), .int .i64 ((rd_T50 l0_2 a1).f3.f3), .slice A151_10 ((rd_T50 l0_2 a1).f3.f4).length c151_10, .int .i64 ((rd_T50 l0_2 a1).f3.f5), .int .i64 ((rd_T50 l0_2 a1).f3.f6), .int .i64 ((rd_T50 l0_2 a1).f3.f7)] 44 (0, 0)) (by (with_reducible repeat (first | refine blk_drewN ?_ _ | refine blk_drew ?_ | refine blk_alloc ?_ _)); exact BK152.out) hg (Kd.R_ne HO_6.out BK152.out (by decide))); have n2_ := Aside0.mk (hb); have n3_ := Aside0.mk (ho); clear BK150; clear BK152; clear HB; clear HO_6; have BK150 := n0_; have BK152 := n1_; have HB := n2_; have HO155 := n3_; clear n0_ n1_ n2_ n3_; clear ho hb hg hat)))
           go_meet
           case rel => exact ⟨_, (y153), H', ⟨by have := HJ2.out; have := HJ9.out; first | omega | exact Nat.le_refl _⟩, ⟨by (with_reducible repeat (first | apply Kd.R_alloc | apply Kd.R_drewN | apply Kd.R_drew)); exact HO155.out⟩, ⟨by (with_reducible repeat (first | refine blk_drewN ?_ _ | refine blk_drew ?_ | refine blk_alloc ?_ _)); exact BK150.out⟩, ⟨by (with_reducible repeat (first | refine blk_drewN ?_ _ | refine blk_drew ?_ | refine blk_alloc ?_ _)); exact BK152.out⟩, ⟨by repeat (first | (with_reducible first | exact HB.out | apply below_alloc | apply pw_below_drewN | apply below_drew1 | refine below_set ?_ GE150.out | refine below_set ?_ GE152.out) | exact HB.out)⟩⟩
          ·rw [if_neg c25] at H
           exact absurd H (by simp)
         ·replace c24 := Bool.eq_false_iff.mpr c24
          subst c24
          have H1 : (davitref07_Next.j2 kj9 ([] : List Int) a0_0 a0_1 l0_2 ((rd_T50 l0_2 a1).f3.f0) ((rd_T50 l0_2 a1).f3.f1) ((rd_T50 l0_2 a1).f3.f2) ((rd_T50 l0_2 a1).f3.f3) ((rd_T50 l0_2 a1).f3.f4) ((rd_T50 l0_2 a1).f3.f5) ((rd_T50 l0_2 a1).f3.f6) ((rd_T50 l0_2 a1).f3.f7)) = some r := by rw [if_neg (show ¬ (false = true) by decide)] at H; exact H
          clear H
          have H := H1
          clear H1
          have H' := Aside0.mk H
          clear H
          go_wp2
          repeat (go_quiet (fail); try go_wp2)
          go_meet
          case rel => exact ⟨_, (([] : List Int)), H', ⟨by have := HJ2.out; have := HJ9.out; first | omega | exact Nat.le_refl _⟩, ⟨by (with_reducible repeat (first | apply Kd.R_alloc | apply Kd.R_drewN | apply Kd.R_drew)); exact HO_6.out⟩, ⟨by (with_reducible repeat (first | refine blk_drewN ?_ _ | refine blk_drew ?_ | refine blk_alloc ?_ _)); exact BK150.out⟩, ⟨by (with_reducible repeat (first | refine blk_drewN ?_ _ | refine blk_drew ?_ | refine blk_alloc ?_ _)); exact BK152.out⟩, ⟨by repeat (first | (with_reducible first | exact HB.out | apply below_alloc | apply pw_below_drewN | apply below_drew1 | refine below_set ?_ GE150.out | refine below_set ?_ GE152.out) | exact HB.out)⟩⟩
        case rest =>
         clear HC23
         try clear c1
         try clear p1
         try clear q1
         try clear hx1
         try clear c2
         try clear p2
         try clear c3
         try clear c5
         try clear c5b0
         try clear c7
         try clear c8
         try clear c8b0
         try clear c9
         try clear c9b0
         try clear c13
         try clear c15
         try clear c15b0
         try clear c15b1
         try clear p15
         try clear q15
         try clear hx15
         try clear c16
         try clear c18
         try clear c18b0
         try clear c18b1
         try clear c19
         try clear c21
         try clear c24
         try clear c25
         try clear c26
         try clear hcz11_0
         try clear hcz11_1
         try clear hcz11_2
         try clear hcz14_0
         try clear hcz14_1
         try clear hcz14_2
         try clear hcz14_3
         try clear hcz14_4
         try clear hcz14_5
         try clear hcz14_6
         try clear hcz14_7
         try clear hcz17_0
         try clear hcz17_1
         try clear hcz17_2
         try clear hcz17_3
         try clear hcz17_4
         try clear hcz17_5
         try clear hcz17_6
         try clear hcz17_7
         try clear hcz20_0
         try clear hcz20_1
         try clear hcz20_2
         try clear hcz20_3
         try clear hcz20_4
         try clear hcz20_5
         try clear hcz20_6
         try clear hcz20_7
         try clear hcz22_0
         try clear hcz22_1
         try clear hcz22_2
         try clear hcz22_3
         try clear hcz22_4
         try clear hcz22_5
         try clear hcz22_6
         try clear hcz22_7
         try clear hcz27_0
         try clear hcz27_1
         try clear hcz27_2
         try clear hcz27_3
         try clear hcz27_4
         try clear hcz27_5
         try clear hcz27_6
         try clear hcz27_7
         try clear hcz6_0
         try clear hcz6_1
         try clear hcz6_2
         try clear hfz11_0
         try clear hfz11_1
         try clear hfz11_2
         try clear hfz14_0
         try clear hfz14_1
         try clear hfz14_2
         try clear hfz14_3
         try clear hfz14_4
         try clear hfz14_5
         try clear hfz14_6
         try clear hfz14_7
         try clear hfz17_0
         try clear hfz17_1
         try clear hfz17_2
         try clear hfz17_3
         try clear hfz17_4
         try clear hfz17_5
         try clear hfz17_6
         try clear hfz17_7
         try clear hfz20_0
         try clear hfz20_1
         try clear hfz20_2
         try clear hfz20_3
         try clear hfz20_4
         try clear hfz20_5
         try clear hfz20_6
         try clear hfz20_7
         try clear hfz22_0
         try clear hfz22_1
         try clear hfz22_2
         try clear hfz22_3
         try clear hfz22_4
         try clear hfz22_5
         try clear hfz22_6
         try clear hfz22_7
         try clear hfz27_0
         try clear hfz27_1
         try clear hfz27_2
         try clear hfz27_3
         try clear hfz27_4
         try clear hfz27_5
         try clear hfz27_6
         try clear hfz27_7
         try clear hfz6_0
         try clear hfz6_1
         try clear hfz6_2
         try clear hx151_0
         try clear hx151_1
         try clear hx151_10
         try clear hx151_11
         try clear hx151_12
         try clear hx151_13
         try clear hx151_2
         try clear hx151_3
         try clear hx151_4
         try clear hx151_5
         try clear hx151_6
         try clear hx151_7
         try clear hx151_8
         try clear hx151_9
         try clear p1
         try clear p15
         try clear p151
         try clear p2
         try clear q1
         try clear q15
         try clear q151
         obtain ⟨kq, x6_22, HA, HJ22, HO_6, BK150, BK152, HB⟩ := hcut
         cases kq with
         | zero => exact absurd HA.out (by simp [davitref07_Next.j2])
         | succ kj22 =>
          have H := HA.out
          clear HA
          simp only [davitref07_Next.j2] at H
          have HC29 := Aside0.mk H
          clear H
          have hnb30 := NB152_150.out
          have hnc30 := NB150_152.out
          have hcz31_0 : wc.cell? ⟨gb152, 0, none⟩ = some (.int .i64 ((rd_T50 l0_2 a1).f3.f0)) := (blk_cell BK152.out 0).trans rfl
          have hcz31_1 : wc.cell? ⟨gb152, 1, none⟩ = some (.int .i64 ((rd_T50 l0_2 a1).f3.f1)) := (blk_cell BK152.out 1).trans rfl
          have hcz31_2 : wc.cell? ⟨gb152, 2, none⟩ = some (.int .i64 ((rd_T50 l0_2 a1).f3.f2)) := (blk_cell BK152.out 2).trans rfl
          have hcz31_3 : wc.cell? ⟨gb152, 3, none⟩ = some (.int .i64 ((rd_T50 l0_2 a1).f3.f3)) := (blk_cell BK152.out 3).trans rfl
          have hcz31_4 : wc.cell? ⟨gb152, 4, none⟩ = some (.slice A151_10 ((rd_T50 l0_2 a1).f3.f4).length c151_10) := (blk_cell BK152.out 4).trans rfl
          have hcz31_5 : wc.cell? ⟨gb152, 5, none⟩ = some (.int .i64 ((rd_T50 l0_2 a1).f3.f5)) := (blk_cell BK152.out 5).trans rfl
          have hcz31_6 : wc.cell? ⟨gb152, 6, none⟩ = some (.int .i64 ((rd_T50 l0_2 a1).f3.f6)) := (blk_cell BK152.out 6).trans rfl
          have hcz31_7 : wc.cell? ⟨gb152, 7, none⟩ = some (.int .i64 ((rd_T50 l0_2 a1).f3.f7)) := (blk_cell BK152.out 7).trans rfl
          have hfz31_0 := blk_frozen BK152.out 0
          have hfz31_1 := blk_frozen BK152.out 1
          have hfz31_2 := blk_frozen BK152.out 2
          have hfz31_3 := blk_frozen BK152.out 3
          have hfz31_4 := blk_frozen BK152.out 4
          have hfz31_5 := blk_frozen BK152.out 5
          have hfz31_6 := blk_frozen BK152.out 6
          have hfz31_7 := blk_frozen BK152.out 7
          go_upto_if 44 with (fail)
          repeat (go_quiet (fail); go_upto_if 44 with (fail))
          go_cut [6] (fun v6 wc => ∃ (kq : Nat) (x6_28 : List Int), Aside0 (davitref07_Next.j3 kq x6_28 a0_0 a0_1 l0_2 ((rd_T50 l0_2 a1).f3.f0) ((rd_T50 l0_2 a1).f3.f1) ((rd_T50 l0_2 a1).f3.f2) ((rd_T50 l0_2 a1).f3.f3) ((rd_T50 l0_2 a1).f3.f4) ((rd_T50 l0_2 a1).f3.f5) ((rd_T50 l0_2 a1).f3.f6) ((rd_T50 l0_2 a1).f3.f7) = some r) ∧ Aside0 (kq ≤ kj22) ∧ Aside0 (Kd.R (Kd.int .i64) 3 wc w.heap.size (fun _ => True) v6 x6_28) ∧ Aside0 (wc.heap[gb150]? = some (.cells #[.int .i64 a0_0, .int .i64 a0_1, (.slice (some ad151) l0_2.length c0_2)] 24 (0, 0))) ∧ Aside0 (wc.heap[gb152]? = some (.cells #[.int .i64 ((rd_T50 l0_2 a1).f3.f0), .int .i64 ((rd_T50 l0_2 a1).f3.f1), .int .i64 ((rd_T50 l0_2 a1).f3.f2), .int .i64 ((rd_T50 l0_2 a1).f3.f3), (.slice A151_10 ((rd_T50 l0_2 a1).f3.f4).length c151_10), .int .i64 ((rd_T50 l0_2 a1).f3.f5), .int .i64 ((rd_T50 l0_2 a1).f3.f6), .int .i64 ((rd_T50 l0_2 a1).f3.f7)] 44 (0, 0))) ∧ Aside0 (Below w.heap.size w wc))
          case first =>
           have H := HC29.out
           clear HC29
           by_cases c32 : ((rd_T50 l0_2 a1).f3.f0) = 3
           ·rw [if_pos c32] at H
            have c32b0 : (((rd_T50 l0_2 a1).f3.f0) == 3) = true := beq_iff_eq.mpr c32
            have c32b1 : (((rd_T50 l0_2 a1).f3.f0) != 3) = false := bne_eq_false_iff_eq.mpr c32
            clear c32
            (first | rw [c32b0] | (simp only [i64_w, i32_w]; rw [c32b0]) | skip)
            by_cases c33 : x6_22.length < 17592186044416
            ·rw [if_pos c33] at H
             have LMc33 := Aside0.mk c33
             clear c33
             obtain ⟨y156, hy156⟩ : ∃ y_ : List Int, y_ = (x6_22 ++ [((rd_T50 l0_2 a1).f3.f6)]) := ⟨_, rfl⟩
             replace H : (davitref07_Next.j3 kj22 y156 a0_0 a0_1 l0_2 ((rd_T50 l0_2 a1).f3.f0) ((rd_T50 l0_2 a1).f3.f1) ((rd_T50 l0_2 a1).f3.f2) ((rd_T50 l0_2 a1).f3.f3) ((rd_T50 l0_2 a1).f3.f4) ((rd_T50 l0_2 a1).f3.f5) ((rd_T50 l0_2 a1).f3.f6) ((rd_T50 l0_2 a1).f3.f7)) = some r := by first | (rw [hy156]; with_reducible exact H) | (have H2_ := (Option.bind_some _ _).symm.trans H; rw [hy156]; with_reducible exact H2_) | (have H2_ := (Option.bind_some _ _).symm.trans H; with_reducible exact H2_) | with_reducible exact H | (rw [hy156]; exact H) | exact H
             have Ny156 := Aside0.mk hy156
             clear hy156
             have H' := Aside0.mk H
             clear H
             have hnb34 := NB152_150.out
             have hnc34 := NB150_152.out
             have hcz35_0 : wc.cell? ⟨gb152, 0, none⟩ = some (.int .i64 ((rd_T50 l0_2 a1).f3.f0)) := (blk_cell BK152.out 0).trans rfl
             have hcz35_1 : wc.cell? ⟨gb152, 1, none⟩ = some (.int .i64 ((rd_T50 l0_2 a1).f3.f1)) := (blk_cell BK152.out 1).trans rfl
             have hcz35_2 : wc.cell? ⟨gb152, 2, none⟩ = some (.int .i64 ((rd_T50 l0_2 a1).f3.f2)) := (blk_cell BK152.out 2).trans rfl
             have hcz35_3 : wc.cell? ⟨gb152, 3, none⟩ = some (.int .i64 ((rd_T50 l0_2 a1).f3.f3)) := (blk_cell BK152.out 3).trans rfl
             have hcz35_4 : wc.cell? ⟨gb152, 4, none⟩ = some (.slice A151_10 ((rd_T50 l0_2 a1).f3.f4).length c151_10) := (blk_cell BK152.out 4).trans rfl
             have hcz35_5 : wc.cell? ⟨gb152, 5, none⟩ = some (.int .i64 ((rd_T50 l0_2 a1).f3.f5)) := (blk_cell BK152.out 5).trans rfl
             have hcz35_6 : wc.cell? ⟨gb152, 6, none⟩ = some (.int .i64 ((rd_T50 l0_2 a1).f3.f6)) := (blk_cell BK152.out 6).trans rfl
             have hcz35_7 : wc.cell? ⟨gb152, 7, none⟩ = some (.int .i64 ((rd_T50 l0_2 a1).f3.f7)) := (blk_cell BK152.out 7).trans rfl
             have hfz35_0 := blk_frozen BK152.out 0
             have hfz35_1 := blk_frozen BK152.out 1
             have hfz35_2 := blk_frozen BK152.out 2
             have hfz35_3 := blk_frozen BK152.out 3
             have hfz35_4 := blk_frozen BK152.out 4
             have hfz35_5 := blk_frozen BK152.out 5
             have hfz35_6 := blk_frozen BK152.out 6
             have hfz35_7 := blk_frozen BK152.out 7
             go_wp2_with (first | ((with_reducible refine gate_builtin (b := .append) (xs := #[.tmp 45, .tmp 48]) rfl ?_); (try (refine gate_guard (by rfl) ?_; dsimp only)); at_builtin; refine Kd.R_append (Kd.int .i64) (w0 := w) w.heap.size rfl (.tmp 45) (.tmp 48) 27 3 (.int .i64 0) 8 rfl Try.underlying27 info3 rfl (by decide) (by omega) u6 x6_22 ((rd_T50 l0_2 a1).f3.f6) [.int .i64 ((rd_T50 l0_2 a1).f3.f6)] (fun _ => True) (fun _ => False) rfl rfl ?aP (fun _ hk => hk.elim) ?aF ?aO ?aB ?aS ?aL ?_; (case aP => exact rfl); (case aB => exact (by repeat (first | (with_reducible first | exact HB.out | apply below_alloc | apply pw_below_drewN | apply below_drew1 | refine below_set ?_ GE150.out | refine below_set ?_ GE152.out) | exact HB.out))); (case aF => exact (fun _ _ => trivial)); (case aO => exact (by (with_reducible repeat (first | apply Kd.R_alloc | apply Kd.R_drewN | apply Kd.R_drew)); exact HO_6.out)); (case aS => exact (below_size (by repeat (first | (with_reducible first | exact HB.out | apply below_alloc | apply pw_below_drewN | apply below_drew1 | refine below_set ?_ GE150.out | refine below_set ?_ GE152.out) | exact HB.out)))); (case aL => have := LMc33.out; omega); intro v157 w36 ho hb hg hat; rw [← Ny156.out] at ho; have n0_ := Aside0.mk (blk_grown (g := gb150) (o := .cells #[.int .i64 a0_0, .int .i64 a0_1, .slice (some ad151) l0_2.length c0_2] 24 (0, 0)) (by (with_reducible repeat (first | refine blk_drewN ?_ _ | refine blk_drew ?_ | refine blk_alloc ?_ _)); exact BK150.out) hg (Kd.R_ne HO_6.out BK150.out (by decide))); have n1_ := Aside0.mk (blk_grown (g := gb152) (o := .cells #[.int .i64 ((rd_T50 l0_2 a1).f3.f0), .int .i64 ((rd_T50 l0_2 a1).f3.f1), .int .i64 ((rd_T50 l0_2 a1).f3.f2), .int .i64 ((rd_T50 l0_2 a1).f3.f3), .slice A151_10 ((rd_T50 l0_2 a1).f3.f4).length c151_10, .int .i64 ((rd_T50 l0_2 a1).f3.f5), .int .i64 ((rd_T50 l0_2 a1).f3.f6), .int .i64 ((rd_T50 l0_2 a1).f3.f7)] 44 (0, 0)) (by (with_reducible repeat (first | refine blk_drewN ?_ _ | refine blk_drew ?_ | refine blk_alloc ?_ _)); exact BK152.out) hg (Kd.R_ne HO_6.out BK152.out (by decide))); have n2_ := Aside0.mk (hb); have n3_ := Aside0.mk (ho); clear BK150; clear BK152; clear HB; clear HO_6; have BK150 := n0_; have BK152 := n1_; have HB := n2_; have HO158 := n3_; clear n0_ n1_ n2_ n3_; clear ho hb hg hat))
             repeat (go_quiet (first | ((with_reducible refine gate_builtin (b := .append) (xs := #[.tmp 45, .tmp 48]) rfl ?_); (try (refine gate_guard (by rfl) ?_; dsimp only)); at_builtin; refine Kd.R_append (Kd.int .i64) (w0 := w) w.heap.size rfl (.tmp 45) (.tmp 48) 27 3 (.int .i64 0) 8 rfl Try.underlying27 info3 rfl (by decide) (by omega) u6 x6_22 ((rd_T50 l0_2 a1).f3.f6) [.int .i64 ((rd_T50 l0_2 a1).f3.f6)] (fun _ => True) (fun _ => False) rfl rfl ?aP (fun _ hk => hk.elim) ?aF ?aO ?aB ?aS ?aL ?_; (case aP => exact rfl); (case aB => exact (by repeat (first | (with_reducible first | exact HB.out | apply below_alloc | apply pw_below_drewN | apply below_drew1 | refine below_set ?_ GE150.out | refine below_set ?_ GE152.out) | exact HB.out))); (case aF => exact (fun _ _ => trivial)); (case aO => exact (by (with_reducible repeat (first | apply Kd.R_alloc | apply Kd.R_drewN | apply Kd.R_drew)); exact HO_6.out)); (case aS => exact (below_size (by repeat (first | (with_reducible first | exact HB.out | apply below_alloc | apply pw_below_drewN | apply below_drew1 | refine below_set ?_ GE150.out | refine below_set ?_ GE152.out) | exact HB.out)))); (case aL => have := LMc33.out; omega); intro v157 w36 ho hb hg hat; rw [← Ny156.out] at ho; have n0_ := Aside0.mk (blk_grown (g := gb150) (o := .cells #[.int .i64 a0_0, .int .i64 a0_1, .slice (some ad151) l0_2.length c0_2] 24 (0, 0)) (by (with_reducible repeat (first | refine blk_drewN ?_ _ | refine blk_drew ?_ | refine blk_alloc ?_ _)); exact BK150.out) hg (Kd.R_ne HO_6.out BK150.out (by decide))); have n1_ := Aside0.mk (blk_grown (g := gb152) (o := .cells #[.int .i64 ((rd_T50 l0_2 a1).f3.f0), .int .i64 ((rd_T50 l0_2 a1).f3.f1), .int .i64 ((rd_T50 l0_2 a1).f3.f2), .int .i64 ((rd_T50 l0_2 a1).f3.f3), .slice A151_10 ((rd_T50 l0_2 a1).f3.f4).length c151_10, .int .i64 ((rd_T50 l0_2 a1).f3.f5), .int .i64 ((rd_T50 l0_2 a1).f3.f6), .int .i64 ((rd_T50 l0_2 a1).f3.f7)] 44 (0, 0)) (by (with_reducible repeat (first | refine blk_drewN ?_ _ | refine blk_drew ?_ | refine blk_alloc ?_ _)); exact BK152.out) hg (Kd.R_ne HO_6.out BK152.out (by decide))); have n2_ := Aside0.mk (hb); have n3_ := Aside0.mk (ho); clear BK150; clear BK152; clear HB; clear HO_6; have BK150 := n0_; have BK152 := n1_; have HB := n2_; have HO158 := n3_; clear n0_ n1_ n2_ n3_; clear ho hb hg hat)); try go_wp2_with (first | ((with_reducible refine gate_builtin (b := .append) (xs := #[.tmp 45, .tmp 48]) rfl ?_); (try (refine gate_guard (by rfl) ?_; dsimp only)); at_builtin; refine Kd.R_append (Kd.int .i64) (w0 := w) w.heap.size rfl (.tmp 45) (.tmp 48) 27 3 (.int .i64 0) 8 rfl Try.underlying27 info3 rfl (by decide) (by omega) u6 x6_22 ((rd_T50 l0_2 a1).f3.f6) [.int .i64 ((rd_T50 l0_2 a1).f3.f6)] (fun _ => True) (fun _ => False) rfl rfl ?aP (fun _ hk => hk.elim) ?aF ?aO ?aB ?aS ?aL ?_; (case aP => exact rfl); (case aB => exact (by repeat (first | (with_reducible first | exact HB.out | apply below_alloc | apply pw_below_drewN | apply below_drew1 | refine below_set ?_ GE150.out | refine below_set ?_ GE152.out) | exact HB.out))); (case aF => exact (fun _ _ => trivial)); (case aO => exact (by (with_reducible repeat (first | apply Kd.R_alloc | apply Kd.R_drewN | apply Kd.R_drew)); exact HO_6.out)); (case aS => exact (below_size (by repeat (first | (with_reducible first | exact HB.out | apply below_alloc | apply pw_below_drewN | apply below_drew1 | refine below_set ?_ GE150.out | refine below_set ?_ GE152.out) | exact HB.out)))); (case aL => have := LMc33.out; omega); intro v157 w36 ho hb hg hat; rw [← Ny156.out] at ho; have n0_ := Aside0.mk (blk_grown (g := gb150) (o := .cells #[.int .i64 a0_0, .int .i64 a0_1, .slice (some ad151) l0_2.length c0_2] 24 (0, 0)) (by (with_reducible repeat (first | refine blk_drewN ?_ _ | refine blk_drew ?_ | refine blk_alloc ?_ _)); exact BK150.out) hg (Kd.R_ne HO_6.out BK150.out (by decide))); have n1_ := Aside0.mk (blk_grown (g := gb152) (o := .cells #[.int .i64 ((rd_T50 l0_2 a1).f3.f0), .int .i64 ((rd_T50 l0_2 a1).f3.f1), .int .i64 ((rd_T50 l0_2 a1).f3.f2), .int .i64 ((rd_T50 l0_2 a1).f3.f3), .slice A151_10 ((rd_T50 l0_2 a1).f3.f4).length c151_10, .int .i64 ((rd_T50 l0_2 a1).f3.f5), .int .i64 ((rd_T50 l0_2 a1).f3.f6), .int .i64 ((rd_T50 l0_2 a1).f3.f7)] 44 (0, 0)) (by (with_reducible repeat (first | refine blk_drewN ?_ _ | refine blk_drew ?_ | refine blk_alloc ?_ _)); exact BK152.out) hg (Kd.R_ne HO_6.out BK152.out (by decide))); have n2_ := Aside0.mk (hb); have n3_ := Aside0.mk (ho); clear BK150; clear BK152; clear HB; clear HO_6; have BK150 := n0_; have BK152 := n1_; have HB := n2_; have HO158 := n3_; clear n0_ n1_ n2_ n3_; clear ho hb hg hat)))
             go_meet
             case rel => exact ⟨_, (y156), H', ⟨by have := HJ2.out; have := HJ9.out; have := HJ22.out; first | omega | exact Nat.le_refl _⟩, ⟨by (with_reducible repeat (first | apply Kd.R_alloc | apply Kd.R_drewN | apply Kd.R_drew)); exact HO158.out⟩, ⟨by (with_reducible repeat (first | refine blk_drewN ?_ _ | refine blk_drew ?_ | refine blk_alloc ?_ _)); exact BK150.out⟩, ⟨by (with_reducible repeat (first | refine blk_drewN ?_ _ | refine blk_drew ?_ | refine blk_alloc ?_ _)); exact BK152.out⟩, ⟨by repeat (first | (with_reducible first | exact HB.out | apply below_alloc | apply pw_below_drewN | apply below_drew1 | refine below_set ?_ GE150.out | refine below_set ?_ GE152.out) | exact HB.out)⟩⟩
            ·rw [if_neg c33] at H
             exact absurd H (by simp)
           ·rw [if_neg c32] at H
            have c32b0 : (((rd_T50 l0_2 a1).f3.f0) == 3) = false := beq_eq_false_iff_ne.mpr c32
            have c32b1 : (((rd_T50 l0_2 a1).f3.f0) != 3) = true := bne_iff_ne.mpr c32
            (first | rw [c32b0] | (simp only [i64_w, i32_w]; rw [c32b0]) | skip)
            have H' := Aside0.mk H
            clear H
            go_wp2
            repeat (go_quiet (fail); try go_wp2)
            go_meet
            case rel => exact ⟨_, (x6_22), H', ⟨by have := HJ2.out; have := HJ9.out; have := HJ22.out; first | omega | exact Nat.le_refl _⟩, ⟨by (with_reducible repeat (first | apply Kd.R_alloc | apply Kd.R_drewN | apply Kd.R_drew)); exact HO_6.out⟩, ⟨by (with_reducible repeat (first | refine blk_drewN ?_ _ | refine blk_drew ?_ | refine blk_alloc ?_ _)); exact BK150.out⟩, ⟨by (with_reducible repeat (first | refine blk_drewN ?_ _ | refine blk_drew ?_ | refine blk_alloc ?_ _)); exact BK152.out⟩, ⟨by repeat (first | (with_reducible first | exact HB.out | apply below_alloc | apply pw_below_drewN | apply below_drew1 | refine below_set ?_ GE150.out | refine below_set ?_ GE152.out) | exact HB.out)⟩⟩
          case rest =>
           clear HC29
           try clear c1
           try clear p1
           try clear q1
           try clear hx1
           try clear c2
           try clear p2
           try clear c3
           try clear c5
           try clear c5b0
           try clear c7
           try clear c8
           try clear c8b0
           try clear c9
           try clear c9b0
           try clear c13
           try clear c15
           try clear c15b0
           try clear c15b1
           try clear p15
           try clear q15
           try clear hx15
           try clear c16
           try clear c18
           try clear c18b0
           try clear c18b1
           try clear c19
           try clear c21
           try clear c24
           try clear c25
           try clear c26
           try clear c30
           try clear c32
           try clear c32b0
           try clear c32b1
           try clear c33
           try clear c34
           try clear hcz11_0
           try clear hcz11_1
           try clear hcz11_2
           try clear hcz14_0
           try clear hcz14_1
           try clear hcz14_2
           try clear hcz14_3
           try clear hcz14_4
           try clear hcz14_5
           try clear hcz14_6
           try clear hcz14_7
           try clear hcz17_0
           try clear hcz17_1
           try clear hcz17_2
           try clear hcz17_3
           try clear hcz17_4
           try clear hcz17_5
           try clear hcz17_6
           try clear hcz17_7
           try clear hcz20_0
           try clear hcz20_1
           try clear hcz20_2
           try clear hcz20_3
           try clear hcz20_4
           try clear hcz20_5
           try clear hcz20_6
           try clear hcz20_7
           try clear hcz22_0
           try clear hcz22_1
           try clear hcz22_2
           try clear hcz22_3
           try clear hcz22_4
           try clear hcz22_5
           try clear hcz22_6
           try clear hcz22_7
           try clear hcz27_0
           try clear hcz27_1
           try clear hcz27_2
           try clear hcz27_3
           try clear hcz27_4
           try clear hcz27_5
           try clear hcz27_6
           try clear hcz27_7
           try clear hcz31_0
           try clear hcz31_1
           try clear hcz31_2
           try clear hcz31_3
           try clear hcz31_4
           try clear hcz31_5
           try clear hcz31_6
           try clear hcz31_7
           try clear hcz35_0
           try clear hcz35_1
           try clear hcz35_2
           try clear hcz35_3
           try clear hcz35_4
           try clear hcz35_5
           try clear hcz35_6
           try clear hcz35_7
           try clear hcz6_0
           try clear hcz6_1
           try clear hcz6_2
           try clear hfz11_0
           try clear hfz11_1
           try clear hfz11_2
           try clear hfz14_0
           try clear hfz14_1
           try clear hfz14_2
           try clear hfz14_3
           try clear hfz14_4
           try clear hfz14_5
           try clear hfz14_6
           try clear hfz14_7
           try clear hfz17_0
           try clear hfz17_1
           try clear hfz17_2
           try clear hfz17_3
           try clear hfz17_4
           try clear hfz17_5
           try clear hfz17_6
           try clear hfz17_7
           try clear hfz20_0
           try clear hfz20_1
           try clear hfz20_2
           try clear hfz20_3
           try clear hfz20_4
           try clear hfz20_5
           try clear hfz20_6
           try clear hfz20_7
           try clear hfz22_0
           try clear hfz22_1
           try clear hfz22_2
           try clear hfz22_3
           try clear hfz22_4
           try clear hfz22_5
           try clear hfz22_6
           try clear hfz22_7
           try clear hfz27_0
           try clear hfz27_1
           try clear hfz27_2
           try clear hfz27_3
           try clear hfz27_4
           try clear hfz27_5
           try clear hfz27_6
           try clear hfz27_7
           try clear hfz31_0
           try clear hfz31_1
           try clear hfz31_2
           try clear hfz31_3
           try clear hfz31_4
           try clear hfz31_5
           try clear hfz31_6
           try clear hfz31_7
           try clear hfz35_0
           try clear hfz35_1
           try clear hfz35_2
           try clear hfz35_3
           try clear hfz35_4
           try clear hfz35_5
           try clear hfz35_6
           try clear hfz35_7
           try clear hfz6_0
           try clear hfz6_1
           try clear hfz6_2
           try clear hx151_0
           try clear hx151_1
           try clear hx151_10
           try clear hx151_11
           try clear hx151_12
           try clear hx151_13
           try clear hx151_2
           try clear hx151_3
           try clear hx151_4
           try clear hx151_5
           try clear hx151_6
           try clear hx151_7
           try clear hx151_8
           try clear hx151_9
           try clear p1
           try clear p15
           try clear p151
           try clear p2
           try clear q1
           try clear q15
           try clear q151
           obtain ⟨kq, x6_28, HA, HJ28, HO_6, BK150, BK152, HB⟩ := hcut
           cases kq with
           | zero => exact absurd HA.out (by simp [davitref07_Next.j3])
           | succ kj28 =>
            have H := HA.out
            clear HA
            simp only [davitref07_Next.j3] at H
            have HC37 := Aside0.mk H
            clear H
            have hnb38 := NB152_150.out
            have hnc38 := NB150_152.out
            have hcz39_0 : wc.cell? ⟨gb152, 0, none⟩ = some (.int .i64 ((rd_T50 l0_2 a1).f3.f0)) := (blk_cell BK152.out 0).trans rfl
            have hcz39_1 : wc.cell? ⟨gb152, 1, none⟩ = some (.int .i64 ((rd_T50 l0_2 a1).f3.f1)) := (blk_cell BK152.out 1).trans rfl
            have hcz39_2 : wc.cell? ⟨gb152, 2, none⟩ = some (.int .i64 ((rd_T50 l0_2 a1).f3.f2)) := (blk_cell BK152.out 2).trans rfl
            have hcz39_3 : wc.cell? ⟨gb152, 3, none⟩ = some (.int .i64 ((rd_T50 l0_2 a1).f3.f3)) := (blk_cell BK152.out 3).trans rfl
            have hcz39_4 : wc.cell? ⟨gb152, 4, none⟩ = some (.slice A151_10 ((rd_T50 l0_2 a1).f3.f4).length c151_10) := (blk_cell BK152.out 4).trans rfl
            have hcz39_5 : wc.cell? ⟨gb152, 5, none⟩ = some (.int .i64 ((rd_T50 l0_2 a1).f3.f5)) := (blk_cell BK152.out 5).trans rfl
            have hcz39_6 : wc.cell? ⟨gb152, 6, none⟩ = some (.int .i64 ((rd_T50 l0_2 a1).f3.f6)) := (blk_cell BK152.out 6).trans rfl
            have hcz39_7 : wc.cell? ⟨gb152, 7, none⟩ = some (.int .i64 ((rd_T50 l0_2 a1).f3.f7)) := (blk_cell BK152.out 7).trans rfl
            have hfz39_0 := blk_frozen BK152.out 0
            have hfz39_1 := blk_frozen BK152.out 1
            have hfz39_2 := blk_frozen BK152.out 2
            have hfz39_3 := blk_frozen BK152.out 3
            have hfz39_4 := blk_frozen BK152.out 4
            have hfz39_5 := blk_frozen BK152.out 5
            have hfz39_6 := blk_frozen BK152.out 6
            have hfz39_7 := blk_frozen BK152.out 7
            go_upto_if 52 with (fail)
            repeat (go_quiet (fail); go_upto_if 52 with (fail))
            go_cut [6] (fun v6 wc => ∃ (kq : Nat) (x6_36 : List Int), Aside0 (davitref07_Next.j4 kq x6_36 a0_0 a0_1 l0_2 = some r) ∧ Aside0 (kq ≤ kj28) ∧ Aside0 (Kd.R (Kd.int .i64) 3 wc w.heap.size (fun _ => True) v6 x6_36) ∧ Aside0 (wc.heap[gb150]? = some (.cells #[.int .i64 a0_0, .int .i64 a0_1, (.slice (some ad151) l0_2.length c0_2)] 24 (0, 0))) ∧ Aside0 (wc.heap[gb152]? = some (.cells #[.int .i64 ((rd_T50 l0_2 a1).f3.f0), .int .i64 ((rd_T50 l0_2 a1).f3.f1), .int .i64 ((rd_T50 l0_2 a1).f3.f2), .int .i64 ((rd_T50 l0_2 a1).f3.f3), (.slice A151_10 ((rd_T50 l0_2 a1).f3.f4).length c151_10), .int .i64 ((rd_T50 l0_2 a1).f3.f5), .int .i64 ((rd_T50 l0_2 a1).f3.f6), .int .i64 ((rd_T50 l0_2 a1).f3.f7)] 44 (0, 0))) ∧ Aside0 (Below w.heap.size w wc))
            case first =>
             have H := HC37.out
             clear HC37
             by_cases c40 : ((rd_T50 l0_2 a1).f3.f0) = 4
             ·rw [if_pos c40] at H
              have c40b0 : (((rd_T50 l0_2 a1).f3.f0) == 4) = true := beq_iff_eq.mpr c40
              have c40b1 : (((rd_T50 l0_2 a1).f3.f0) != 4) = false := bne_eq_false_iff_eq.mpr c40
              clear c40
              (first | rw [c40b0] | (simp only [i64_w, i32_w]; rw [c40b0]) | skip)
              by_cases c41 : x6_28.length < 17592186044416
              ·rw [if_pos c41] at H
               have LMc41 := Aside0.mk c41
               clear c41
               obtain ⟨y159, hy159⟩ : ∃ y_ : List Int, y_ = (x6_28 ++ [((rd_T50 l0_2 a1).f3.f7)]) := ⟨_, rfl⟩
               replace H : (davitref07_Next.j4 kj28 y159 a0_0 a0_1 l0_2) = some r := by first | (rw [hy159]; with_reducible exact H) | (have H2_ := (Option.bind_some _ _).symm.trans H; rw [hy159]; with_reducible exact H2_) | (have H2_ := (Option.bind_some _ _).symm.trans H; with_reducible exact H2_) | with_reducible exact H | (rw [hy159]; exact H) | exact H
               have Ny159 := Aside0.mk hy159
               clear hy159
               have H' := Aside0.mk H
               clear H
               have hnb42 := NB152_150.out
               have hnc42 := NB150_152.out
               have hcz43_0 : wc.cell? ⟨gb152, 0, none⟩ = some (.int .i64 ((rd_T50 l0_2 a1).f3.f0)) := (blk_cell BK152.out 0).trans rfl
               have hcz43_1 : wc.cell? ⟨gb152, 1, none⟩ = some (.int .i64 ((rd_T50 l0_2 a1).f3.f1)) := (blk_cell BK152.out 1).trans rfl
               have hcz43_2 : wc.cell? ⟨gb152, 2, none⟩ = some (.int .i64 ((rd_T50 l0_2 a1).f3.f2)) := (blk_cell BK152.out 2).trans rfl
               have hcz43_3 : wc.cell? ⟨gb152, 3, none⟩ = some (.int .i64 ((rd_T50 l0_2 a1).f3.f3)) := (blk_cell BK152.out 3).trans rfl
               have hcz43_4 : wc.cell? ⟨gb152, 4, none⟩ = some (.slice A151_10 ((rd_T50 l0_2 a1).f3.f4).length c151_10) := (blk_cell BK152.out 4).trans rfl
               have hcz43_5 : wc.cell? ⟨gb152, 5, none⟩ = some (.int .i64 ((rd_T50 l0_2 a1).f3.f5)) := (blk_cell BK152.out 5).trans rfl
               have hcz43_6 : wc.cell? ⟨gb152, 6, none⟩ = some (.int .i64 ((rd_T50 l0_2 a1).f3.f6)) := (blk_cell BK152.out 6).trans rfl
               have hcz43_7 : wc.cell? ⟨gb152, 7, none⟩ = some (.int .i64 ((rd_T50 l0_2 a1).f3.f7)) := (blk_cell BK152.out 7).trans rfl
               have hfz43_0 := blk_frozen BK152.out 0
               have hfz43_1 := blk_frozen BK152.out 1
               have hfz43_2 := blk_frozen BK152.out 2
               have hfz43_3 := blk_frozen BK152.out 3
               have hfz43_4 := blk_frozen BK152.out 4
               have hfz43_5 := blk_frozen BK152.out 5
               have hfz43_6 := blk_frozen BK152.out 6
               have hfz43_7 := blk_frozen BK152.out 7
               go_wp2_with (first | ((with_reducible refine gate_builtin (b := .append) (xs := #[.tmp 53, .tmp 56]) rfl ?_); (try (refine gate_guard (by rfl) ?_; dsimp only)); at_builtin; refine Kd.R_append (Kd.int .i64) (w0 := w) w.heap.size rfl (.tmp 53) (.tmp 56) 27 3 (.int .i64 0) 8 rfl Try.underlying27 info3 rfl (by decide) (by omega) u6 x6_28 ((rd_T50 l0_2 a1).f3.f7) [.int .i64 ((rd_T50 l0_2 a1).f3.f7)] (fun _ => True) (fun _ => False) rfl rfl ?aP (fun _ hk => hk.elim) ?aF ?aO ?aB ?aS ?aL ?_; (case aP => exact rfl); (case aB => exact (by repeat (first | (with_reducible first | exact HB.out | apply below_alloc | apply pw_below_drewN | apply below_drew1 | refine below_set ?_ GE150.out | refine below_set ?_ GE152.out) | exact HB.out))); (case aF => exact (fun _ _ => trivial)); (case aO => exact (by (with_reducible repeat (first | apply Kd.R_alloc | apply Kd.R_drewN | apply Kd.R_drew)); exact HO_6.out)); (case aS => exact (below_size (by repeat (first | (with_reducible first | exact HB.out | apply below_alloc | apply pw_below_drewN | apply below_drew1 | refine below_set ?_ GE150.out | refine below_set ?_ GE152.out) | exact HB.out)))); (case aL => have := LMc41.out; omega); intro v160 w44 ho hb hg hat; rw [← Ny159.out] at ho; have n0_ := Aside0.mk (blk_grown (g := gb150) (o := .cells #[.int .i64 a0_0, .int .i64 a0_1, .slice (some ad151) l0_2.length c0_2] 24 (0, 0)) (by (with_reducible repeat (first | refine blk_drewN ?_ _ | refine blk_drew ?_ | refine blk_alloc ?_ _)); exact BK150.out) hg (Kd.R_ne HO_6.out BK150.out (by decide))); have n1_ := Aside0.mk (blk_grown (g := gb152) (o := .cells #[.int .i64 ((rd_T50 l0_2 a1).f3.f0), .int .i64 ((rd_T50 l0_2 a1).f3.f1), .int .i64 ((rd_T50 l0_2 a1).f3.f2), .int .i64 ((rd_T50 l0_2 a1).f3.f3), .slice A151_10 ((rd_T50 l0_2 a1).f3.f4).length c151_10, .int .i64 ((rd_T50 l0_2 a1).f3.f5), .int .i64 ((rd_T50 l0_2 a1).f3.f6), .int .i64 ((rd_T50 l0_2 a1).f3.f7)] 44 (0, 0)) (by (with_reducible repeat (first | refine blk_drewN ?_ _ | refine blk_drew ?_ | refine blk_alloc ?_ _)); exact BK152.out) hg (Kd.R_ne HO_6.out BK152.out (by decide))); have n2_ := Aside0.mk (hb); have n3_ := Aside0.mk (ho); clear BK150; clear BK152; clear HB; clear HO_6; have BK150 := n0_; have BK152 := n1_; have HB := n2_; have HO161 := n3_; clear n0_ n1_ n2_ n3_; clear ho hb hg hat))
               repeat (go_quiet (first | ((with_reducible refine gate_builtin (b := .append) (xs := #[.tmp 53, .tmp 56]) rfl ?_); (try (refine gate_guard (by rfl) ?_; dsimp only)); at_builtin; refine Kd.R_append (Kd.int .i64) (w0 := w) w.heap.size rfl (.tmp 53) (.tmp 56) 27 3 (.int .i64 0) 8 rfl Try.underlying27 info3 rfl (by decide) (by omega) u6 x6_28 ((rd_T50 l0_2 a1).f3.f7) [.int .i64 ((rd_T50 l0_2 a1).f3.f7)] (fun _ => True) (fun _ => False) rfl rfl ?aP (fun _ hk => hk.elim) ?aF ?aO ?aB ?aS ?aL ?_; (case aP => exact rfl); (case aB => exact (by repeat (first | (with_reducible first | exact HB.out | apply below_alloc | apply pw_below_drewN | apply below_drew1 | refine below_set ?_ GE150.out | refine below_set ?_ GE152.out) | exact HB.out))); (case aF => exact (fun _ _ => trivial)); (case aO => exact (by (with_reducible repeat (first | apply Kd.R_alloc | apply Kd.R_drewN | apply Kd.R_drew)); exact HO_6.out)); (case aS => exact (below_size (by repeat (first | (with_reducible first | exact HB.out | apply below_alloc | apply pw_below_drewN | apply below_drew1 | refine below_set ?_ GE150.out | refine below_set ?_ GE152.out) | exact HB.out)))); (case aL => have := LMc41.out; omega); intro v160 w44 ho hb hg hat; rw [← Ny159.out] at ho; have n0_ := Aside0.mk (blk_grown (g := gb150) (o := .cells #[.int .i64 a0_0, .int .i64 a0_1, .slice (some ad151) l0_2.length c0_2] 24 (0, 0)) (by (with_reducible repeat (first | refine blk_drewN ?_ _ | refine blk_drew ?_ | refine blk_alloc ?_ _)); exact BK150.out) hg (Kd.R_ne HO_6.out BK150.out (by decide))); have n1_ := Aside0.mk (blk_grown (g := gb152) (o := .cells #[.int .i64 ((rd_T50 l0_2 a1).f3.f0), .int .i64 ((rd_T50 l0_2 a1).f3.f1), .int .i64 ((rd_T50 l0_2 a1).f3.f2), .int .i64 ((rd_T50 l0_2 a1).f3.f3), .slice A151_10 ((rd_T50 l0_2 a1).f3.f4).length c151_10, .int .i64 ((rd_T50 l0_2 a1).f3.f5), .int .i64 ((rd_T50 l0_2 a1).f3.f6), .int .i64 ((rd_T50 l0_2 a1).f3.f7)] 44 (0, 0)) (by (with_reducible repeat (first | refine blk_drewN ?_ _ | refine blk_drew ?_ | refine blk_alloc ?_ _)); exact BK152.out) hg (Kd.R_ne HO_6.out BK152.out (by decide))); have n2_ := Aside0.mk (hb); have n3_ := Aside0.mk (ho); clear BK150; clear BK152; clear HB; clear HO_6; have BK150 := n0_; have BK152 := n1_; have HB := n2_; have HO161 := n3_; clear n0_ n1_ n2_ n3_; clear ho hb hg hat)); try go_wp2_with (first | ((with_reducible refine gate_builtin (b := .append) (xs := #[.tmp 53, .tmp 56]) rfl ?_); (try (refine gate_guard (by rfl) ?_; dsimp only)); at_builtin; refine Kd.R_append (Kd.int .i64) (w0 := w) w.heap.size rfl (.tmp 53) (.tmp 56) 27 3 (.int .i64 0) 8 rfl Try.underlying27 info3 rfl (by decide) (by omega) u6 x6_28 ((rd_T50 l0_2 a1).f3.f7) [.int .i64 ((rd_T50 l0_2 a1).f3.f7)] (fun _ => True) (fun _ => False) rfl rfl ?aP (fun _ hk => hk.elim) ?aF ?aO ?aB ?aS ?aL ?_; (case aP => exact rfl); (case aB => exact (by repeat (first | (with_reducible first | exact HB.out | apply below_alloc | apply pw_below_drewN | apply below_drew1 | refine below_set ?_ GE150.out | refine below_set ?_ GE152.out) | exact HB.out))); (case aF => exact (fun _ _ => trivial)); (case aO => exact (by (with_reducible repeat (first | apply Kd.R_alloc | apply Kd.R_drewN | apply Kd.R_drew)); exact HO_6.out)); (case aS => exact (below_size (by repeat (first | (with_reducible first | exact HB.out | apply below_alloc | apply pw_below_drewN | apply below_drew1 | refine below_set ?_ GE150.out | refine below_set ?_ GE152.out) | exact HB.out)))); (case aL => have := LMc41.out; omega); intro v160 w44 ho hb hg hat; rw [← Ny159.out] at ho; have n0_ := Aside0.mk (blk_grown (g := gb150) (o := .cells #[.int .i64 a0_0, .int .i64 a0_1, .slice (some ad151) l0_2.length c0_2] 24 (0, 0)) (by (with_reducible repeat (first | refine blk_drewN ?_ _ | refine blk_drew ?_ | refine blk_alloc ?_ _)); exact BK150.out) hg (Kd.R_ne HO_6.out BK150.out (by decide))); have n1_ := Aside0.mk (blk_grown (g := gb152) (o := .cells #[.int .i64 ((rd_T50 l0_2 a1).f3.f0), .int .i64 ((rd_T50 l0_2 a1).f3.f1), .int .i64 ((rd_T50 l0_2 a1).f3.f2), .int .i64 ((rd_T50 l0_2 a1).f3.f3), .slice A151_10 ((rd_T50 l0_2 a1).f3.f4).length c151_10, .int .i64 ((rd_T50 l0_2 a1).f3.f5), .int .i64 ((rd_T50 l0_2 a1).f3.f6), .int .i64 ((rd_T50 l0_2 a1).f3.f7)] 44 (0, 0)) (by (with_reducible repeat (first | refine blk_drewN ?_ _ | refine blk_drew ?_ | refine blk_alloc ?_ _)); exact BK152.out) hg (Kd.R_ne HO_6.out BK152.out (by decide))); have n2_ := Aside0.mk (hb); have n3_ := Aside0.mk (ho); clear BK150; clear BK152; clear HB; clear HO_6; have BK150 := n0_; have BK152 := n1_; have HB := n2_; have HO161 := n3_; clear n0_ n1_ n2_ n3_; clear ho hb hg hat)))
               go_meet
               case rel => exact ⟨_, (y159), H', ⟨by have := HJ2.out; have := HJ9.out; have := HJ22.out; have := HJ28.out; first | omega | exact Nat.le_refl _⟩, ⟨by (with_reducible repeat (first | apply Kd.R_alloc | apply Kd.R_drewN | apply Kd.R_drew)); exact HO161.out⟩, ⟨by (with_reducible repeat (first | refine blk_drewN ?_ _ | refine blk_drew ?_ | refine blk_alloc ?_ _)); exact BK150.out⟩, ⟨by (with_reducible repeat (first | refine blk_drewN ?_ _ | refine blk_drew ?_ | refine blk_alloc ?_ _)); exact BK152.out⟩, ⟨by repeat (first | (with_reducible first | exact HB.out | apply below_alloc | apply pw_below_drewN | apply below_drew1 | refine below_set ?_ GE150.out | refine below_set ?_ GE152.out) | exact HB.out)⟩⟩
              ·rw [if_neg c41] at H
               exact absurd H (by simp)
             ·rw [if_neg c40] at H
              have c40b0 : (((rd_T50 l0_2 a1).f3.f0) == 4) = false := beq_eq_false_iff_ne.mpr c40
              have c40b1 : (((rd_T50 l0_2 a1).f3.f0) != 4) = true := bne_iff_ne.mpr c40
              (first | rw [c40b0] | (simp only [i64_w, i32_w]; rw [c40b0]) | skip)
              have H' := Aside0.mk H
              clear H
              go_wp2
              repeat (go_quiet (fail); try go_wp2)
              go_meet
              case rel => exact ⟨_, (x6_28), H', ⟨by have := HJ2.out; have := HJ9.out; have := HJ22.out; have := HJ28.out; first | omega | exact Nat.le_refl _⟩, ⟨by (with_reducible repeat (first | apply Kd.R_alloc | apply Kd.R_drewN | apply Kd.R_drew)); exact HO_6.out⟩, ⟨by (with_reducible repeat (first | refine blk_drewN ?_ _ | refine blk_drew ?_ | refine blk_alloc ?_ _)); exact BK150.out⟩, ⟨by (with_reducible repeat (first | refine blk_drewN ?_ _ | refine blk_drew ?_ | refine blk_alloc ?_ _)); exact BK152.out⟩, ⟨by repeat (first | (with_reducible first | exact HB.out | apply below_alloc | apply pw_below_drewN | apply below_drew1 | refine below_set ?_ GE150.out | refine below_set ?_ GE152.out) | exact HB.out)⟩⟩
            case rest =>
             clear HC37
             try clear c1
             try clear p1
             try clear q1
             try clear hx1
             try clear c2
             try clear p2
             try clear c3
             try clear c4
             try clear c5
             try clear c5b0
             try clear c7
             try clear c8
             try clear c8b0
             try clear c9
             try clear c9b0
             try clear c13
             try clear c15
             try clear c15b0
             try clear c15b1
             try clear p15
             try clear q15
             try clear hx15
             try clear c16
             try clear c18
             try clear c18b0
             try clear c18b1
             try clear c19
             try clear c21
             try clear c24
             try clear c25
             try clear c26
             try clear c30
             try clear c32
             try clear c32b0
             try clear c32b1
             try clear c33
             try clear c34
             try clear c38
             try clear c40
             try clear c40b0
             try clear c40b1
             try clear c41
             try clear c42
             try clear hcz11_0
             try clear hcz11_1
             try clear hcz11_2
             try clear hcz14_0
             try clear hcz14_1
             try clear hcz14_2
             try clear hcz14_3
             try clear hcz14_4
             try clear hcz14_5
             try clear hcz14_6
             try clear hcz14_7
             try clear hcz17_0
             try clear hcz17_1
             try clear hcz17_2
             try clear hcz17_3
             try clear hcz17_4
             try clear hcz17_5
             try clear hcz17_6
             try clear hcz17_7
             try clear hcz20_0
             try clear hcz20_1
             try clear hcz20_2
             try clear hcz20_3
             try clear hcz20_4
             try clear hcz20_5
             try clear hcz20_6
             try clear hcz20_7
             try clear hcz22_0
             try clear hcz22_1
             try clear hcz22_2
             try clear hcz22_3
             try clear hcz22_4
             try clear hcz22_5
             try clear hcz22_6
             try clear hcz22_7
             try clear hcz27_0
             try clear hcz27_1
             try clear hcz27_2
             try clear hcz27_3
             try clear hcz27_4
             try clear hcz27_5
             try clear hcz27_6
             try clear hcz27_7
             try clear hcz31_0
             try clear hcz31_1
             try clear hcz31_2
             try clear hcz31_3
             try clear hcz31_4
             try clear hcz31_5
             try clear hcz31_6
             try clear hcz31_7
             try clear hcz35_0
             try clear hcz35_1
             try clear hcz35_2
             try clear hcz35_3
             try clear hcz35_4
             try clear hcz35_5
             try clear hcz35_6
             try clear hcz35_7
             try clear hcz39_0
             try clear hcz39_1
             try clear hcz39_2
             try clear hcz39_3
             try clear hcz39_4
             try clear hcz39_5
             try clear hcz39_6
             try clear hcz39_7
             try clear hcz43_0
             try clear hcz43_1
             try clear hcz43_2
             try clear hcz43_3
             try clear hcz43_4
             try clear hcz43_5
             try clear hcz43_6
             try clear hcz43_7
             try clear hcz6_0
             try clear hcz6_1
             try clear hcz6_2
             try clear hfz11_0
             try clear hfz11_1
             try clear hfz11_2
             try clear hfz14_0
             try clear hfz14_1
             try clear hfz14_2
             try clear hfz14_3
             try clear hfz14_4
             try clear hfz14_5
             try clear hfz14_6
             try clear hfz14_7
             try clear hfz17_0
             try clear hfz17_1
             try clear hfz17_2
             try clear hfz17_3
             try clear hfz17_4
             try clear hfz17_5
             try clear hfz17_6
             try clear hfz17_7
             try clear hfz20_0
             try clear hfz20_1
             try clear hfz20_2
             try clear hfz20_3
             try clear hfz20_4
             try clear hfz20_5
             try clear hfz20_6
             try clear hfz20_7
             try clear hfz22_0
             try clear hfz22_1
             try clear hfz22_2
             try clear hfz22_3
             try clear hfz22_4
             try clear hfz22_5
             try clear hfz22_6
             try clear hfz22_7
             try clear hfz27_0
             try clear hfz27_1
             try clear hfz27_2
             try clear hfz27_3
             try clear hfz27_4
             try clear hfz27_5
             try clear hfz27_6
             try clear hfz27_7
             try clear hfz31_0
             try clear hfz31_1
             try clear hfz31_2
             try clear hfz31_3
             try clear hfz31_4
             try clear hfz31_5
             try clear hfz31_6
             try clear hfz31_7
             try clear hfz35_0
             try clear hfz35_1
             try clear hfz35_2
             try clear hfz35_3
             try clear hfz35_4
             try clear hfz35_5
             try clear hfz35_6
             try clear hfz35_7
             try clear hfz39_0
             try clear hfz39_1
             try clear hfz39_2
             try clear hfz39_3
             try clear hfz39_4
             try clear hfz39_5
             try clear hfz39_6
             try clear hfz39_7
             try clear hfz43_0
             try clear hfz43_1
             try clear hfz43_2
             try clear hfz43_3
             try clear hfz43_4
             try clear hfz43_5
             try clear hfz43_6
             try clear hfz43_7
             try clear hfz6_0
             try clear hfz6_1
             try clear hfz6_2
             try clear hx151_0
             try clear hx151_1
             try clear hx151_10
             try clear hx151_11
             try clear hx151_12
             try clear hx151_13
             try clear hx151_2
             try clear hx151_3
             try clear hx151_4
             try clear hx151_5
             try clear hx151_6
             try clear hx151_7
             try clear hx151_8
             try clear hx151_9
             try clear p1
             try clear p15
             try clear p151
             try clear p2
             try clear q1
             try clear q15
             try clear q151
             obtain ⟨kq, x6_36, HA, HJ36, HO_6, BK150, BK152, HB⟩ := hcut
             cases kq with
             | zero => exact absurd HA.out (by simp [davitref07_Next.j4])
             | succ kj36 =>
              have H := HA.out
              clear HA
              simp only [davitref07_Next.j4] at H
              have H' := Aside0.mk H
              clear H
              go_wp2
              repeat (go_quiet (fail); try go_wp2)
              go_loopg [7, 8] kj36 (fun kq v7 v8 w' => ∃ (x7_6 : List Int) (x8_6 : Int), v8 = .int .i64 x8_6 ∧ Aside0 (davitref07_Next.l0 kq x6_36 x7_6 x8_6 a0_0 a0_1 l0_2 = some r) ∧ Aside0 (kq ≤ kj36) ∧ Aside0 (Kd.R (Kd.int .i64) 3 w' w.heap.size (fun k_ => some k_ ≠ (v7 : Value).ownBlock) u6 x6_36) ∧ Aside0 (Kd.R (Kd.int .i64) 3 w' w.heap.size (fun k_ => some k_ ≠ (u6 : Value).ownBlock) v7 x7_6) ∧ Aside0 (w'.heap[gb150]? = some (.cells #[.int .i64 a0_0, .int .i64 a0_1, (.slice (some ad151) l0_2.length c0_2)] 24 (0, 0))) ∧ Aside0 (w'.heap[gb152]? = some (.cells #[.int .i64 ((rd_T50 l0_2 a1).f3.f0), .int .i64 ((rd_T50 l0_2 a1).f3.f1), .int .i64 ((rd_T50 l0_2 a1).f3.f2), .int .i64 ((rd_T50 l0_2 a1).f3.f3), (.slice A151_10 ((rd_T50 l0_2 a1).f3.f4).length c151_10), .int .i64 ((rd_T50 l0_2 a1).f3.f5), .int .i64 ((rd_T50 l0_2 a1).f3.f6), .int .i64 ((rd_T50 l0_2 a1).f3.f7)] 44 (0, 0))) ∧ Aside0 (Below w.heap.size w w'))
              case atStart => exact ⟨(([] : List Int)), (0), (by first | rfl | (simp; done) | (simp [*]; done)), H', ⟨Nat.le_refl _⟩, ⟨by (with_reducible repeat (first | apply Kd.R_alloc | apply Kd.R_drewN | apply Kd.R_drew)); exact Kd.R_mono HO_6.out (fun _ hk => (by simp [Value.ownBlock]))⟩, ⟨by first | exact Kd.R_nil _ _ _ _ _ | exact Kd.N_nil _ _ _ _ _ | exact Kd.V_nil _ _ _ _ _ | exact Kd.Q_nil _ _ _ _ _ | exact Kd.S_nil _ _ _ _ _⟩, ⟨by (with_reducible repeat (first | refine blk_drewN ?_ _ | refine blk_drew ?_ | refine blk_alloc ?_ _)); exact BK150.out⟩, ⟨by (with_reducible repeat (first | refine blk_drewN ?_ _ | refine blk_drew ?_ | refine blk_alloc ?_ _)); exact BK152.out⟩, ⟨by repeat (first | (with_reducible first | exact HB.out | apply below_alloc | apply pw_below_drewN | apply below_drew1 | refine below_set ?_ GE150.out | refine below_set ?_ GE152.out) | exact HB.out)⟩⟩
              case round =>
               clear H'
               try clear c1
               try clear p1
               try clear q1
               try clear hx1
               try clear c2
               try clear p2
               try clear c3
               try clear c4
               try clear c5
               try clear c5b0
               try clear c7
               try clear c8
               try clear c8b0
               try clear c9
               try clear c9b0
               try clear c13
               try clear c15
               try clear c15b0
               try clear c15b1
               try clear p15
               try clear q15
               try clear hx15
               try clear c16
               try clear c18
               try clear c18b0
               try clear c18b1
               try clear c19
               try clear c21
               try clear c24
               try clear c25
               try clear c26
               try clear c30
               try clear c32
               try clear c32b0
               try clear c32b1
               try clear c33
               try clear c34
               try clear c38
               try clear c40
               try clear c40b0
               try clear c40b1
               try clear c41
               try clear c42
               try clear hcz11_0
               try clear hcz11_1
               try clear hcz11_2
               try clear hcz14_0
               try clear hcz14_1
               try clear hcz14_2
               try clear hcz14_3
               try clear hcz14_4
               try clear hcz14_5
               try clear hcz14_6
               try clear hcz14_7
               try clear hcz17_0
               try clear hcz17_1
               try clear hcz17_2
               try clear hcz17_3
               try clear hcz17_4
               try clear hcz17_5
               try clear hcz17_6
               try clear hcz17_7
               try clear hcz20_0
               try clear hcz20_1
               try clear hcz20_2
               try clear hcz20_3
               try clear hcz20_4
               try clear hcz20_5
               try clear hcz20_6
               try clear hcz20_7
               try clear hcz22_0
               try clear hcz22_1
               try clear hcz22_2
               try clear hcz22_3
               try clear hcz22_4
               try clear hcz22_5
               try clear hcz22_6
               try clear hcz22_7
               try clear hcz27_0
               try clear hcz27_1
               try clear hcz27_2
               try clear hcz27_3
               try clear hcz27_4
               try clear hcz27_5
               try clear hcz27_6
               try clear hcz27_7
               try clear hcz31_0
               try clear hcz31_1
               try clear hcz31_2
               try clear hcz31_3
               try clear hcz31_4
               try clear hcz31_5
               try clear hcz31_6
               try clear hcz31_7
               try clear hcz35_0
               try clear hcz35_1
               try clear hcz35_2
               try clear hcz35_3
               try clear hcz35_4
               try clear hcz35_5
               try clear hcz35_6
               try clear hcz35_7
               try clear hcz39_0
               try clear hcz39_1
               try clear hcz39_2
               try clear hcz39_3
               try clear hcz39_4
               try clear hcz39_5
               try clear hcz39_6
               try clear hcz39_7
               try clear hcz43_0
               try clear hcz43_1
               try clear hcz43_2
               try clear hcz43_3
               try clear hcz43_4
               try clear hcz43_5
               try clear hcz43_6
               try clear hcz43_7
               try clear hcz6_0
               try clear hcz6_1
               try clear hcz6_2
               try clear hfz11_0
               try clear hfz11_1
               try clear hfz11_2
               try clear hfz14_0
               try clear hfz14_1
               try clear hfz14_2
               try clear hfz14_3
               try clear hfz14_4
               try clear hfz14_5
               try clear hfz14_6
               try clear hfz14_7
               try clear hfz17_0
               try clear hfz17_1
               try clear hfz17_2
               try clear hfz17_3
               try clear hfz17_4
               try clear hfz17_5
               try clear hfz17_6
               try clear hfz17_7
               try clear hfz20_0
               try clear hfz20_1
               try clear hfz20_2
               try clear hfz20_3
               try clear hfz20_4
               try clear hfz20_5
               try clear hfz20_6
               try clear hfz20_7
               try clear hfz22_0
               try clear hfz22_1
               try clear hfz22_2
               try clear hfz22_3
               try clear hfz22_4
               try clear hfz22_5
               try clear hfz22_6
               try clear hfz22_7
               try clear hfz27_0
               try clear hfz27_1
               try clear hfz27_2
               try clear hfz27_3
               try clear hfz27_4
               try clear hfz27_5
               try clear hfz27_6
               try clear hfz27_7
               try clear hfz31_0
               try clear hfz31_1
               try clear hfz31_2
               try clear hfz31_3
               try clear hfz31_4
               try clear hfz31_5
               try clear hfz31_6
               try clear hfz31_7
               try clear hfz35_0
               try clear hfz35_1
               try clear hfz35_2
               try clear hfz35_3
               try clear hfz35_4
               try clear hfz35_5
               try clear hfz35_6
               try clear hfz35_7
               try clear hfz39_0
               try clear hfz39_1
               try clear hfz39_2
               try clear hfz39_3
               try clear hfz39_4
               try clear hfz39_5
               try clear hfz39_6
               try clear hfz39_7
               try clear hfz43_0
               try clear hfz43_1
               try clear hfz43_2
               try clear hfz43_3
               try clear hfz43_4
               try clear hfz43_5
               try clear hfz43_6
               try clear hfz43_7
               try clear hfz6_0
               try clear hfz6_1
               try clear hfz6_2
               try clear hx151_0
               try clear hx151_1
               try clear hx151_10
               try clear hx151_11
               try clear hx151_12
               try clear hx151_13
               try clear hx151_2
               try clear hx151_3
               try clear hx151_4
               try clear hx151_5
               try clear hx151_6
               try clear hx151_7
               try clear hx151_8
               try clear hx151_9
               try clear p1
               try clear p15
               try clear p151
               try clear p2
               try clear q1
               try clear q15
               try clear q151
               obtain ⟨x7_6, x8_6, rfl, HA, HK6, HO_6, HO_7, BK150, BK152, HB⟩ := hrel
               cases gk with
               | zero => exact absurd HA.out (by simp [davitref07_Next.l0])
               | succ k6 =>
                have H := HA.out
                clear HA
                simp only [davitref07_Next.l0] at H
                by_cases c45 : x8_6 < (x6_36.length : Int)
                ·rw [if_pos c45] at H
                 have c45b0 : decide (x8_6 < (x6_36.length : Int)) = true := decide_eq_true c45
                 clear c45
                 by_cases c46 : 0 ≤ x8_6
                 ·rw [if_pos c46] at H
                  have c46b0 : decide (0 ≤ x8_6) = true := decide_eq_true c46
                  clear c46
                  by_cases c47 : (rd x6_36 x8_6) ≥ 0
                  ·rw [if_pos c47] at H
                   have c47b0 : decide (0 ≤ (rd x6_36 x8_6)) = true := decide_eq_true c47
                   clear c47
                   by_cases c48 : (rd x6_36 x8_6) < (l0_2.length : Int)
                   ·rw [if_pos c48] at H
                    have c48b0 : decide ((rd x6_36 x8_6) < (l0_2.length : Int)) = true := decide_eq_true c48
                    clear c48
                    by_cases c49 : x7_6.length < 17592186044416
                    ·rw [if_pos c49] at H
                     have LMc49 := Aside0.mk c49
                     clear c49
                     obtain ⟨y165, hy165⟩ : ∃ y_ : List Int, y_ = (x7_6 ++ [rd x6_36 x8_6]) := ⟨_, rfl⟩
                     replace H : (davitref07_Next.l0 k6 x6_36 y165 (wrap64 (x8_6 + 1)) a0_0 a0_1 l0_2) = some r := by first | (rw [hy165]; with_reducible exact H) | (have H2_ := (Option.bind_some _ _).symm.trans H; rw [hy165]; with_reducible exact H2_) | (have H2_ := (Option.bind_some _ _).symm.trans H; with_reducible exact H2_) | with_reducible exact H | (rw [hy165]; exact H) | exact H
                     have Ny165 := Aside0.mk hy165
                     clear hy165
                     have H' := Aside0.mk H
                     clear H
                     obtain ⟨Ao50, co50, eo50⟩ := Kd.R_slice HO_6.out
                     subst eo50
                     have p162 : 0 ≤ (x8_6 : Int) := of_decide_eq_true (by first | (with_reducible assumption) | assumption)
                     have q162 : x8_6 < (x6_36.length : Int) := of_decide_eq_true (by first | (with_reducible assumption) | assumption)
                     obtain ⟨ad162, e162, hx162_0⟩ := Kd.at_int (Kd.R_reads' HO_6.out).2.2 x8_6 p162 q162
                     cases e162
                     replace p162 := eq_true p162
                     replace q162 := eq_true q162
                     have p163 : 0 ≤ (x8_6 : Int) := of_decide_eq_true (by first | (with_reducible assumption) | assumption)
                     have q163 : x8_6 < (x6_36.length : Int) := of_decide_eq_true (by first | (with_reducible assumption) | assumption)
                     obtain ⟨ad163, e163, hx163_0⟩ := Kd.at_int (Kd.R_reads' HO_6.out).2.2 x8_6 p163 q163
                     obtain rfl : ad162 = ad163 := (by injection e163)
                     replace p163 := eq_true p163
                     replace q163 := eq_true q163
                     have hnb51 := NB150_152.out
                     have hnc51 := NB152_150.out
                     have hcz52_0 : wr.cell? ⟨gb150, 0, none⟩ = some (.int .i64 a0_0) := (blk_cell BK150.out 0).trans rfl
                     have hcz52_1 : wr.cell? ⟨gb150, 1, none⟩ = some (.int .i64 a0_1) := (blk_cell BK150.out 1).trans rfl
                     have hcz52_2 : wr.cell? ⟨gb150, 2, none⟩ = some (.slice (some ad151) l0_2.length c0_2) := (blk_cell BK150.out 2).trans rfl
                     have hfz52_0 := blk_frozen BK150.out 0
                     have hfz52_1 := blk_frozen BK150.out 1
                     have hfz52_2 := blk_frozen BK150.out 2
                     have p164 : 0 ≤ (x8_6 : Int) := of_decide_eq_true (by first | (with_reducible assumption) | assumption)
                     have q164 : x8_6 < (x6_36.length : Int) := of_decide_eq_true (by first | (with_reducible assumption) | assumption)
                     obtain ⟨ad164, e164, hx164_0⟩ := Kd.at_int (Kd.R_reads' HO_6.out).2.2 x8_6 p164 q164
                     obtain rfl : ad162 = ad164 := (by injection e164)
                     replace p164 := eq_true p164
                     replace q164 := eq_true q164
                     go_wp2_with (first | ((with_reducible refine gate_builtin (b := .append) (xs := #[.tmp 79, .tmp 84]) rfl ?_); (try (refine gate_guard (by rfl) ?_; dsimp only)); at_builtin; refine Kd.R_append (Kd.int .i64) (w0 := w) w.heap.size rfl (.tmp 79) (.tmp 84) 27 3 (.int .i64 0) 8 rfl Try.underlying27 info3 rfl (by decide) (by omega) u7 x7_6 (rd x6_36 x8_6) [.int .i64 (rd x6_36 x8_6)] (fun k_ => some k_ ≠ (.slice (some ad162) x6_36.length co50 : Value).ownBlock) (fun _ => False) rfl rfl ?aP (fun _ hk => hk.elim) ?aF ?aO ?aB ?aS ?aL ?_; (case aP => exact rfl); (case aB => exact (by repeat (first | (with_reducible first | exact HB.out | apply below_alloc | apply pw_below_drewN | apply below_drew1 | refine below_set ?_ GE150.out | refine below_set ?_ GE152.out) | exact HB.out))); (case aF => exact (fun k_ hk => Kd.fresh' (Kd.R_lt (by (with_reducible repeat (first | apply Kd.R_alloc | apply Kd.R_drewN | apply Kd.R_drew)); exact HO_6.out)) k_ hk)); (case aO => exact (by (with_reducible repeat (first | apply Kd.R_alloc | apply Kd.R_drewN | apply Kd.R_drew)); exact HO_7.out)); (case aS => exact (below_size (by repeat (first | (with_reducible first | exact HB.out | apply below_alloc | apply pw_below_drewN | apply below_drew1 | refine below_set ?_ GE150.out | refine below_set ?_ GE152.out) | exact HB.out)))); (case aL => have := LMc49.out; omega); intro v166 w53 ho hb hg hat; rw [← Ny165.out] at ho; have n0_ := Aside0.mk (Kd.R_after (ok := (fun _ => True)) (by (with_reducible repeat (first | apply Kd.R_alloc | apply Kd.R_drewN | apply Kd.R_drew)); exact Kd.R_mono HO_6.out (fun _ hk => ⟨trivial, hk⟩)) hg hat); have n1_ := Aside0.mk (blk_grown (g := gb150) (o := .cells #[.int .i64 a0_0, .int .i64 a0_1, .slice (some ad151) l0_2.length c0_2] 24 (0, 0)) (by (with_reducible repeat (first | refine blk_drewN ?_ _ | refine blk_drew ?_ | refine blk_alloc ?_ _)); exact BK150.out) hg (Kd.R_ne HO_7.out BK150.out (by decide))); have n2_ := Aside0.mk (blk_grown (g := gb152) (o := .cells #[.int .i64 ((rd_T50 l0_2 a1).f3.f0), .int .i64 ((rd_T50 l0_2 a1).f3.f1), .int .i64 ((rd_T50 l0_2 a1).f3.f2), .int .i64 ((rd_T50 l0_2 a1).f3.f3), .slice A151_10 ((rd_T50 l0_2 a1).f3.f4).length c151_10, .int .i64 ((rd_T50 l0_2 a1).f3.f5), .int .i64 ((rd_T50 l0_2 a1).f3.f6), .int .i64 ((rd_T50 l0_2 a1).f3.f7)] 44 (0, 0)) (by (with_reducible repeat (first | refine blk_drewN ?_ _ | refine blk_drew ?_ | refine blk_alloc ?_ _)); exact BK152.out) hg (Kd.R_ne HO_7.out BK152.out (by decide))); have n3_ := Aside0.mk (hb); have n4_ := Aside0.mk (ho); clear HO_6; clear BK150; clear BK152; clear HB; clear HO_7; have HO_6 := n0_; have BK150 := n1_; have BK152 := n2_; have HB := n3_; have HO167 := n4_; clear n0_ n1_ n2_ n3_ n4_; clear ho hb hg hat))
                     repeat (go_quiet (first | ((with_reducible refine gate_builtin (b := .append) (xs := #[.tmp 79, .tmp 84]) rfl ?_); (try (refine gate_guard (by rfl) ?_; dsimp only)); at_builtin; refine Kd.R_append (Kd.int .i64) (w0 := w) w.heap.size rfl (.tmp 79) (.tmp 84) 27 3 (.int .i64 0) 8 rfl Try.underlying27 info3 rfl (by decide) (by omega) u7 x7_6 (rd x6_36 x8_6) [.int .i64 (rd x6_36 x8_6)] (fun k_ => some k_ ≠ (.slice (some ad162) x6_36.length co50 : Value).ownBlock) (fun _ => False) rfl rfl ?aP (fun _ hk => hk.elim) ?aF ?aO ?aB ?aS ?aL ?_; (case aP => exact rfl); (case aB => exact (by repeat (first | (with_reducible first | exact HB.out | apply below_alloc | apply pw_below_drewN | apply below_drew1 | refine below_set ?_ GE150.out | refine below_set ?_ GE152.out) | exact HB.out))); (case aF => exact (fun k_ hk => Kd.fresh' (Kd.R_lt (by (with_reducible repeat (first | apply Kd.R_alloc | apply Kd.R_drewN | apply Kd.R_drew)); exact HO_6.out)) k_ hk)); (case aO => exact (by (with_reducible repeat (first | apply Kd.R_alloc | apply Kd.R_drewN | apply Kd.R_drew)); exact HO_7.out)); (case aS => exact (below_size (by repeat (first | (with_reducible first | exact HB.out | apply below_alloc | apply pw_below_drewN | apply below_drew1 | refine below_set ?_ GE150.out | refine below_set ?_ GE152.out) | exact HB.out)))); (case aL => have := LMc49.out; omega); intro v166 w53 ho hb hg hat; rw [← Ny165.out] at ho; have n0_ := Aside0.mk (Kd.R_after (ok := (fun _ => True)) (by (with_reducible repeat (first | apply Kd.R_alloc | apply Kd.R_drewN | apply Kd.R_drew)); exact Kd.R_mono HO_6.out (fun _ hk => ⟨trivial, hk⟩)) hg hat); have n1_ := Aside0.mk (blk_grown (g := gb150) (o := .cells #[.int .i64 a0_0, .int .i64 a0_1, .slice (some ad151) l0_2.length c0_2] 24 (0, 0)) (by (with_reducible repeat (first | refine blk_drewN ?_ _ | refine blk_drew ?_ | refine blk_alloc ?_ _)); exact BK150.out) hg (Kd.R_ne HO_7.out BK150.out (by decide))); have n2_ := Aside0.mk (blk_grown (g := gb152) (o := .cells #[.int .i64 ((rd_T50 l0_2 a1).f3.f0), .int .i64 ((rd_T50 l0_2 a1).f3.f1), .int .i64 ((rd_T50 l0_2 a1).f3.f2), .int .i64 ((rd_T50 l0_2 a1).f3.f3), .slice A151_10 ((rd_T50 l0_2 a1).f3.f4).length c151_10, .int .i64 ((rd_T50 l0_2 a1).f3.f5), .int .i64 ((rd_T50 l0_2 a1).f3.f6), .int .i64 ((rd_T50 l0_2 a1).f3.f7)] 44 (0, 0)) (by (with_reducible repeat (first | refine blk_drewN ?_ _ | refine blk_drew ?_ | refine blk_alloc ?_ _)); exact BK152.out) hg (Kd.R_ne HO_7.out BK152.out (by decide))); have n3_ := Aside0.mk (hb); have n4_ := Aside0.mk (ho); clear HO_6; clear BK150; clear BK152; clear HB; clear HO_7; have HO_6 := n0_; have BK150 := n1_; have BK152 := n2_; have HB := n3_; have HO167 := n4_; clear n0_ n1_ n2_ n3_ n4_; clear ho hb hg hat)); try go_wp2_with (first | ((with_reducible refine gate_builtin (b := .append) (xs := #[.tmp 79, .tmp 84]) rfl ?_); (try (refine gate_guard (by rfl) ?_; dsimp only)); at_builtin; refine Kd.R_append (Kd.int .i64) (w0 := w) w.heap.size rfl (.tmp 79) (.tmp 84) 27 3 (.int .i64 0) 8 rfl Try.underlying27 info3 rfl (by decide) (by omega) u7 x7_6 (rd x6_36 x8_6) [.int .i64 (rd x6_36 x8_6)] (fun k_ => some k_ ≠ (.slice (some ad162) x6_36.length co50 : Value).ownBlock) (fun _ => False) rfl rfl ?aP (fun _ hk => hk.elim) ?aF ?aO ?aB ?aS ?aL ?_; (case aP => exact rfl); (case aB => exact (by repeat (first | (with_reducible first | exact HB.out | apply below_alloc | apply pw_below_drewN | apply below_drew1 | refine below_set ?_ GE150.out | refine below_set ?_ GE152.out) | exact HB.out))); (case aF => exact (fun k_ hk => Kd.fresh' (Kd.R_lt (by (with_reducible repeat (first | apply Kd.R_alloc | apply Kd.R_drewN | apply Kd.R_drew)); exact HO_6.out)) k_ hk)); (case aO => exact (by (with_reducible repeat (first | apply Kd.R_alloc | apply Kd.R_drewN | apply Kd.R_drew)); exact HO_7.out)); (case aS => exact (below_size (by repeat (first | (with_reducible first | exact HB.out | apply below_alloc | apply pw_below_drewN | apply below_drew1 | refine below_set ?_ GE150.out | refine below_set ?_ GE152.out) | exact HB.out)))); (case aL => have := LMc49.out; omega); intro v166 w53 ho hb hg hat; rw [← Ny165.out] at ho; have n0_ := Aside0.mk (Kd.R_after (ok := (fun _ => True)) (by (with_reducible repeat (first | apply Kd.R_alloc | apply Kd.R_drewN | apply Kd.R_drew)); exact Kd.R_mono HO_6.out (fun _ hk => ⟨trivial, hk⟩)) hg hat); have n1_ := Aside0.mk (blk_grown (g := gb150) (o := .cells #[.int .i64 a0_0, .int .i64 a0_1, .slice (some ad151) l0_2.length c0_2] 24 (0, 0)) (by (with_reducible repeat (first | refine blk_drewN ?_ _ | refine blk_drew ?_ | refine blk_alloc ?_ _)); exact BK150.out) hg (Kd.R_ne HO_7.out BK150.out (by decide))); have n2_ := Aside0.mk (blk_grown (g := gb152) (o := .cells #[.int .i64 ((rd_T50 l0_2 a1).f3.f0), .int .i64 ((rd_T50 l0_2 a1).f3.f1), .int .i64 ((rd_T50 l0_2 a1).f3.f2), .int .i64 ((rd_T50 l0_2 a1).f3.f3), .slice A151_10 ((rd_T50 l0_2 a1).f3.f4).length c151_10, .int .i64 ((rd_T50 l0_2 a1).f3.f5), .int .i64 ((rd_T50 l0_2 a1).f3.f6), .int .i64 ((rd_T50 l0_2 a1).f3.f7)] 44 (0, 0)) (by (with_reducible repeat (first | refine blk_drewN ?_ _ | refine blk_drew ?_ | refine blk_alloc ?_ _)); exact BK152.out) hg (Kd.R_ne HO_7.out BK152.out (by decide))); have n3_ := Aside0.mk (hb); have n4_ := Aside0.mk (ho); clear HO_6; clear BK150; clear BK152; clear HB; clear HO_7; have HO_6 := n0_; have BK150 := n1_; have BK152 := n2_; have HB := n3_; have HO167 := n4_; clear n0_ n1_ n2_ n3_ n4_; clear ho hb hg hat)))
                     go_roundg k6
                     case measure => have := HJ2.out; have := HJ9.out; have := HJ22.out; have := HJ28.out; have := HJ36.out; have := HK6.out; omega
                     case rel => exact ⟨(y165), (wrap64 (x8_6 + 1)), (by first | rfl | (simp; done) | (simp [*]; done)), H', ⟨by have := HJ2.out; have := HJ9.out; have := HJ22.out; have := HJ28.out; have := HJ36.out; have := HK6.out; omega⟩, ⟨by (with_reducible repeat (first | apply Kd.R_alloc | apply Kd.R_drewN | apply Kd.R_drew)); exact Kd.R_mono HO_6.out (fun _ hk => hk.2)⟩, ⟨by (with_reducible repeat (first | apply Kd.R_alloc | apply Kd.R_drewN | apply Kd.R_drew)); exact HO167.out⟩, ⟨by (with_reducible repeat (first | refine blk_drewN ?_ _ | refine blk_drew ?_ | refine blk_alloc ?_ _)); exact BK150.out⟩, ⟨by (with_reducible repeat (first | refine blk_drewN ?_ _ | refine blk_drew ?_ | refine blk_alloc ?_ _)); exact BK152.out⟩, ⟨by repeat (first | (with_reducible first | exact HB.out | apply below_alloc | apply pw_below_drewN | apply below_drew1 | refine below_set ?_ GE150.out | refine below_set ?_ GE152.out) | exact HB.out)⟩⟩
                    ·rw [if_neg c49] at H
                     exact absurd H (by simp)
                   ·rw [if_neg c48] at H
                    have c48b0 : decide ((rd x6_36 x8_6) < (l0_2.length : Int)) = false := decide_eq_false c48
                    clear c48
                    have H' := Aside0.mk H
                    clear H
                    obtain ⟨Ao54, co54, eo54⟩ := Kd.R_slice HO_6.out
                    subst eo54
                    have p162 : 0 ≤ (x8_6 : Int) := of_decide_eq_true (by first | (with_reducible assumption) | assumption)
                    have q162 : x8_6 < (x6_36.length : Int) := of_decide_eq_true (by first | (with_reducible assumption) | assumption)
                    obtain ⟨ad162, e162, hx162_0⟩ := Kd.at_int (Kd.R_reads' HO_6.out).2.2 x8_6 p162 q162
                    cases e162
                    replace p162 := eq_true p162
                    replace q162 := eq_true q162
                    have p163 : 0 ≤ (x8_6 : Int) := of_decide_eq_true (by first | (with_reducible assumption) | assumption)
                    have q163 : x8_6 < (x6_36.length : Int) := of_decide_eq_true (by first | (with_reducible assumption) | assumption)
                    obtain ⟨ad163, e163, hx163_0⟩ := Kd.at_int (Kd.R_reads' HO_6.out).2.2 x8_6 p163 q163
                    obtain rfl : ad162 = ad163 := (by injection e163)
                    replace p163 := eq_true p163
                    replace q163 := eq_true q163
                    have hnb55 := NB150_152.out
                    have hnc55 := NB152_150.out
                    have hcz56_0 : wr.cell? ⟨gb150, 0, none⟩ = some (.int .i64 a0_0) := (blk_cell BK150.out 0).trans rfl
                    have hcz56_1 : wr.cell? ⟨gb150, 1, none⟩ = some (.int .i64 a0_1) := (blk_cell BK150.out 1).trans rfl
                    have hcz56_2 : wr.cell? ⟨gb150, 2, none⟩ = some (.slice (some ad151) l0_2.length c0_2) := (blk_cell BK150.out 2).trans rfl
                    have hfz56_0 := blk_frozen BK150.out 0
                    have hfz56_1 := blk_frozen BK150.out 1
                    have hfz56_2 := blk_frozen BK150.out 2
                    go_wp2
                    repeat (go_quiet (fail); try go_wp2)
                    go_roundg k6
                    case measure => have := HJ2.out; have := HJ9.out; have := HJ22.out; have := HJ28.out; have := HJ36.out; have := HK6.out; omega
                    case rel => exact ⟨(x7_6), (wrap64 (x8_6 + 1)), (by first | rfl | (simp; done) | (simp [*]; done)), H', ⟨by have := HJ2.out; have := HJ9.out; have := HJ22.out; have := HJ28.out; have := HJ36.out; have := HK6.out; omega⟩, ⟨by (with_reducible repeat (first | apply Kd.R_alloc | apply Kd.R_drewN | apply Kd.R_drew)); exact HO_6.out⟩, ⟨by (with_reducible repeat (first | apply Kd.R_alloc | apply Kd.R_drewN | apply Kd.R_drew)); exact HO_7.out⟩, ⟨by (with_reducible repeat (first | refine blk_drewN ?_ _ | refine blk_drew ?_ | refine blk_alloc ?_ _)); exact BK150.out⟩, ⟨by (with_reducible repeat (first | refine blk_drewN ?_ _ | refine blk_drew ?_ | refine blk_alloc ?_ _)); exact BK152.out⟩, ⟨by repeat (first | (with_reducible first | exact HB.out | apply below_alloc | apply pw_below_drewN | apply below_drew1 | refine below_set ?_ GE150.out | refine below_set ?_ GE152.out) | exact HB.out)⟩⟩
                  ·rw [if_neg c47] at H
                   have c47b0 : decide (0 ≤ (rd x6_36 x8_6)) = false := decide_eq_false c47
                   clear c47
                   have H' := Aside0.mk H
                   clear H
                   obtain ⟨Ao57, co57, eo57⟩ := Kd.R_slice HO_6.out
                   subst eo57
                   have p162 : 0 ≤ (x8_6 : Int) := of_decide_eq_true (by first | (with_reducible assumption) | assumption)
                   have q162 : x8_6 < (x6_36.length : Int) := of_decide_eq_true (by first | (with_reducible assumption) | assumption)
                   obtain ⟨ad162, e162, hx162_0⟩ := Kd.at_int (Kd.R_reads' HO_6.out).2.2 x8_6 p162 q162
                   cases e162
                   replace p162 := eq_true p162
                   replace q162 := eq_true q162
                   go_wp2
                   repeat (go_quiet (fail); try go_wp2)
                   go_roundg k6
                   case measure => have := HJ2.out; have := HJ9.out; have := HJ22.out; have := HJ28.out; have := HJ36.out; have := HK6.out; omega
                   case rel => exact ⟨(x7_6), (wrap64 (x8_6 + 1)), (by first | rfl | (simp; done) | (simp [*]; done)), H', ⟨by have := HJ2.out; have := HJ9.out; have := HJ22.out; have := HJ28.out; have := HJ36.out; have := HK6.out; omega⟩, ⟨by (with_reducible repeat (first | apply Kd.R_alloc | apply Kd.R_drewN | apply Kd.R_drew)); exact HO_6.out⟩, ⟨by (with_reducible repeat (first | apply Kd.R_alloc | apply Kd.R_drewN | apply Kd.R_drew)); exact HO_7.out⟩, ⟨by (with_reducible repeat (first | refine blk_drewN ?_ _ | refine blk_drew ?_ | refine blk_alloc ?_ _)); exact BK150.out⟩, ⟨by (with_reducible repeat (first | refine blk_drewN ?_ _ | refine blk_drew ?_ | refine blk_alloc ?_ _)); exact BK152.out⟩, ⟨by repeat (first | (with_reducible first | exact HB.out | apply below_alloc | apply pw_below_drewN | apply below_drew1 | refine below_set ?_ GE150.out | refine below_set ?_ GE152.out) | exact HB.out)⟩⟩
                 ·rw [if_neg c46] at H
                  exact absurd H (by simp)
                ·rw [if_neg c45] at H
                 have c45b0 : decide (x8_6 < (x6_36.length : Int)) = false := decide_eq_false c45
                 clear c45
                 obtain rfl := Option.some.inj H
                 obtain ⟨Ao58, co58, eo58⟩ := Kd.R_slice HO_6.out
                 subst eo58
                 go_wp2
                 repeat (go_quiet (fail); try go_wp2)
                 go_ret
                 exact ⟨_, by first | rfl | (simp [errW_none, errW_some] <;> rfl) | (simp [*, errW_none, errW_some] <;> rfl), by (with_reducible repeat (first | apply Kd.R_alloc | apply Kd.R_drewN | apply Kd.R_drew)); exact Kd.R_mono HO_7.out (fun _ hk => trivial), by repeat (first | (with_reducible first | exact HB.out | apply below_alloc | apply pw_below_drewN | apply below_drew1 | refine below_set ?_ GE150.out | refine below_set ?_ GE152.out) | exact HB.out)⟩
     ·rw [if_neg c9] at H
      exact absurd H (by simp)
    ·rw [if_neg c8] at H
     exact absurd H (by simp)
end
end Go.Proofs.Ytilopoegoddggaa.X
