/- Part 3 of the proof of the statement DomChain: the words of the walks, the walks through the functions that it reaches, and the plain laws of what they compute. -/
import Derived.Test.YtilopoegoddggaaMDomChain1
import Derived.RowKit
namespace Go.Proofs.Ytilopoegoddggaa.X
open Go.RowKit Go.Proofs.YtilopoegoddggaaW.PrintWords Go.Proofs.YtilopoegoddggaaW.PrintLast Go.Proofs.YtilopoegoddggaaW.PrintMore
attribute [local go_sem] max2_int min2_int max_two min_two max_three min_three max_four min_four
set_option linter.all false
noncomputable section
def davitlaw08_awake.f (k : Nat)  : Option (Bool) := (some (([(⟨false, (⟨0, ([] : List Int), false, false⟩ : S47), ([] : List (S117)), (⟨3, 0, 0, 0, ([] : List Int), 1, 2, 0⟩ : S44)⟩ : S50), (⟨false, (⟨0, ([] : List Int), false, false⟩ : S47), ([] : List (S117)), (⟨2, 0, 0, 0, ([] : List Int), 3, 0, 0⟩ : S44)⟩ : S50), (⟨false, (⟨0, ([] : List Int), false, false⟩ : S47), ([] : List (S117)), (⟨2, 0, 0, 0, ([] : List Int), 3, 0, 0⟩ : S44)⟩ : S50), (⟨false, (⟨0, ([] : List Int), false, false⟩ : S47), ([] : List (S117)), (⟨1, 0, 0, 0, ([] : List Int), 0, 0, 0⟩ : S44)⟩ : S50)] : List (S50)) : List (S50))).bind fun y130 => ((dom_Over.f 0 1 y130).bind fun t134 => ((davitref02_Ints.f k t134 (([(-1), 0, 0, 0] : List Int))).bind fun t140 => (if t140 = true then ((dom_Edge.f k 0 1 y130 1).bind fun t141 => ((davitref02_Ints.f k t141 (([3] : List Int))).bind fun t147 => (if t147 = true then ((dom_Is.f k 0 1 y130 0 3).bind fun t148 => (if t148 = true then ((dom_Is.f k 0 1 y130 1 3).bind fun t149 => (some (!t149))) else (some false))) else (some false)))) else (some false))))
theorem davitlaw08_awake.mono : ∀ k, LeO (davitlaw08_awake.f k ) (davitlaw08_awake.f (k + 1) ) := by
 intro  k
 unfold davitlaw08_awake.f
 repeat' first
   | (with_reducible exact davitref02_Ints.mono _ _ _)
   | (with_reducible exact dom_Edge.mono _ _ _ _ _)
   | (with_reducible exact dom_Is.mono _ _ _ _ _ _)
   | (with_reducible exact LeO.refl _)
   | (with_reducible exact LeO.none _)
   | (with_reducible refine LeO.ite ?_ ?_)
   | (with_reducible refine LeO.bind ?_ (fun _ => ?_))
   | exact davitref02_Ints.mono _ _ _
   | exact dom_Edge.mono _ _ _ _ _
   | exact dom_Is.mono _ _ _ _ _ _
   | exact LeO.none _
   | refine LeO.ite ?_ ?_
   | refine LeO.bind ?_ (fun _ => ?_)
set_option maxHeartbeats 8000000 in
set_option maxRecDepth 100000 in
theorem davitlaw08_awake.calls (k : Nat)  (r : Bool) (w : World) (h : davitlaw08_awake.f k  = some r) :
  Calls Try.prog 11 #[] w fun e w' => e = .returned (.bool r) ∧ Below w.heap.size w w' := by
 have hu44 := Try.underlying44
 have hu50 := Try.underlying50
 have hu24 := Try.underlying24
 have HB := Aside0.mk (Below.refl w.heap.size w)
 have H : ((some (([(⟨false, (⟨0, ([] : List Int), false, false⟩ : S47), ([] : List (S117)), (⟨3, 0, 0, 0, ([] : List Int), 1, 2, 0⟩ : S44)⟩ : S50), (⟨false, (⟨0, ([] : List Int), false, false⟩ : S47), ([] : List (S117)), (⟨2, 0, 0, 0, ([] : List Int), 3, 0, 0⟩ : S44)⟩ : S50), (⟨false, (⟨0, ([] : List Int), false, false⟩ : S47), ([] : List (S117)), (⟨2, 0, 0, 0, ([] : List Int), 3, 0, 0⟩ : S44)⟩ : S50), (⟨false, (⟨0, ([] : List Int), false, false⟩ : S47), ([] : List (S117)), (⟨1, 0, 0, 0, ([] : List Int), 0, 0, 0⟩ : S44)⟩ : S50)] : List (S50)) : List (S50))).bind fun y130 => ((dom_Over.f 0 1 y130).bind fun t134 => ((davitref02_Ints.f k t134 (([(-1), 0, 0, 0] : List Int))).bind fun t140 => (if t140 = true then ((dom_Edge.f k 0 1 y130 1).bind fun t141 => ((davitref02_Ints.f k t141 (([3] : List Int))).bind fun t147 => (if t147 = true then ((dom_Is.f k 0 1 y130 0 3).bind fun t148 => (if t148 = true then ((dom_Is.f k 0 1 y130 1 3).bind fun t149 => (some (!t149))) else (some false))) else (some false)))) else (some false))))) = some r := h
 clear h
 obtain ⟨y130, hy130⟩ : ∃ y_ : List (S50), y_ = (([(⟨false, (⟨0, ([] : List Int), false, false⟩ : S47), ([] : List (S117)), (⟨3, 0, 0, 0, ([] : List Int), 1, 2, 0⟩ : S44)⟩ : S50), (⟨false, (⟨0, ([] : List Int), false, false⟩ : S47), ([] : List (S117)), (⟨2, 0, 0, 0, ([] : List Int), 3, 0, 0⟩ : S44)⟩ : S50), (⟨false, (⟨0, ([] : List Int), false, false⟩ : S47), ([] : List (S117)), (⟨2, 0, 0, 0, ([] : List Int), 3, 0, 0⟩ : S44)⟩ : S50), (⟨false, (⟨0, ([] : List Int), false, false⟩ : S47), ([] : List (S117)), (⟨1, 0, 0, 0, ([] : List Int), 0, 0, 0⟩ : S44)⟩ : S50)] : List (S50))) := ⟨_, rfl⟩
 replace H : ((dom_Over.f 0 1 y130).bind fun t134 => ((davitref02_Ints.f k t134 (([(-1), 0, 0, 0] : List Int))).bind fun t140 => (if t140 = true then ((dom_Edge.f k 0 1 y130 1).bind fun t141 => ((davitref02_Ints.f k t141 (([3] : List Int))).bind fun t147 => (if t147 = true then ((dom_Is.f k 0 1 y130 0 3).bind fun t148 => (if t148 = true then ((dom_Is.f k 0 1 y130 1 3).bind fun t149 => (some (!t149))) else (some false))) else (some false)))) else (some false)))) = some r := by first | (rw [hy130]; with_reducible exact H) | (have H2_ := (Option.bind_some _ _).symm.trans H; rw [hy130]; with_reducible exact H2_) | (have H2_ := (Option.bind_some _ _).symm.trans H; with_reducible exact H2_) | with_reducible exact H | (rw [hy130]; exact H) | exact H
 have Ny130 := Aside0.mk hy130
 clear hy130
 replace H := Option.bind_eq_some_iff.mp H
 obtain ⟨t134, A10, H⟩ := H
 replace H : ((davitref02_Ints.f k t134 (([(-1), 0, 0, 0] : List Int))).bind fun t140 => (if t140 = true then ((dom_Edge.f k 0 1 y130 1).bind fun t141 => ((davitref02_Ints.f k t141 (([3] : List Int))).bind fun t147 => (if t147 = true then ((dom_Is.f k 0 1 y130 0 3).bind fun t148 => (if t148 = true then ((dom_Is.f k 0 1 y130 1 3).bind fun t149 => (some (!t149))) else (some false))) else (some false)))) else (some false))) = some r := H
 have A1 := Aside0.mk A10
 clear A10
 obtain ⟨y137, hy137⟩ : ∃ y_ : List Int, y_ = (([(-1), 0, 0, 0] : List Int)) := ⟨_, rfl⟩
 replace H : ((davitref02_Ints.f k t134 y137).bind fun t140 => (if t140 = true then ((dom_Edge.f k 0 1 y130 1).bind fun t141 => ((davitref02_Ints.f k t141 (([3] : List Int))).bind fun t147 => (if t147 = true then ((dom_Is.f k 0 1 y130 0 3).bind fun t148 => (if t148 = true then ((dom_Is.f k 0 1 y130 1 3).bind fun t149 => (some (!t149))) else (some false))) else (some false)))) else (some false))) = some r := by first | (rw [hy137]; with_reducible exact H) | (have H2_ := (Option.bind_some _ _).symm.trans H; rw [hy137]; with_reducible exact H2_) | (have H2_ := (Option.bind_some _ _).symm.trans H; with_reducible exact H2_) | with_reducible exact H | (rw [hy137]; exact H) | exact H
 have Ny137 := Aside0.mk hy137
 clear hy137
 replace H := Option.bind_eq_some_iff.mp H
 obtain ⟨t140, A20, H⟩ := H
 replace H : (if t140 = true then ((dom_Edge.f k 0 1 y130 1).bind fun t141 => ((davitref02_Ints.f k t141 (([3] : List Int))).bind fun t147 => (if t147 = true then ((dom_Is.f k 0 1 y130 0 3).bind fun t148 => (if t148 = true then ((dom_Is.f k 0 1 y130 1 3).bind fun t149 => (some (!t149))) else (some false))) else (some false)))) else (some false)) = some r := H
 have A2 := Aside0.mk A20
 clear A20
 by_cases c3 : t140 = true
 ·subst c3
  have H1 : ((dom_Edge.f k 0 1 y130 1).bind fun t141 => ((davitref02_Ints.f k t141 (([3] : List Int))).bind fun t147 => (if t147 = true then ((dom_Is.f k 0 1 y130 0 3).bind fun t148 => (if t148 = true then ((dom_Is.f k 0 1 y130 1 3).bind fun t149 => (some (!t149))) else (some false))) else (some false)))) = some r := by rw [if_pos rfl] at H; exact H
  clear H
  have H := H1
  clear H1
  replace H := Option.bind_eq_some_iff.mp H
  obtain ⟨t141, A40, H⟩ := H
  replace H : ((davitref02_Ints.f k t141 (([3] : List Int))).bind fun t147 => (if t147 = true then ((dom_Is.f k 0 1 y130 0 3).bind fun t148 => (if t148 = true then ((dom_Is.f k 0 1 y130 1 3).bind fun t149 => (some (!t149))) else (some false))) else (some false))) = some r := H
  have A4 := Aside0.mk A40
  clear A40
  obtain ⟨y144, hy144⟩ : ∃ y_ : List Int, y_ = (([3] : List Int)) := ⟨_, rfl⟩
  replace H : ((davitref02_Ints.f k t141 y144).bind fun t147 => (if t147 = true then ((dom_Is.f k 0 1 y130 0 3).bind fun t148 => (if t148 = true then ((dom_Is.f k 0 1 y130 1 3).bind fun t149 => (some (!t149))) else (some false))) else (some false))) = some r := by first | (rw [hy144]; with_reducible exact H) | (have H2_ := (Option.bind_some _ _).symm.trans H; rw [hy144]; with_reducible exact H2_) | (have H2_ := (Option.bind_some _ _).symm.trans H; with_reducible exact H2_) | with_reducible exact H | (rw [hy144]; exact H) | exact H
  have Ny144 := Aside0.mk hy144
  clear hy144
  replace H := Option.bind_eq_some_iff.mp H
  obtain ⟨t147, A50, H⟩ := H
  replace H : (if t147 = true then ((dom_Is.f k 0 1 y130 0 3).bind fun t148 => (if t148 = true then ((dom_Is.f k 0 1 y130 1 3).bind fun t149 => (some (!t149))) else (some false))) else (some false)) = some r := H
  have A5 := Aside0.mk A50
  clear A50
  by_cases c6 : t147 = true
  ·subst c6
   have H1 : ((dom_Is.f k 0 1 y130 0 3).bind fun t148 => (if t148 = true then ((dom_Is.f k 0 1 y130 1 3).bind fun t149 => (some (!t149))) else (some false))) = some r := by rw [if_pos rfl] at H; exact H
   clear H
   have H := H1
   clear H1
   replace H := Option.bind_eq_some_iff.mp H
   obtain ⟨t148, A70, H⟩ := H
   replace H : (if t148 = true then ((dom_Is.f k 0 1 y130 1 3).bind fun t149 => (some (!t149))) else (some false)) = some r := H
   have A7 := Aside0.mk A70
   clear A70
   by_cases c8 : t148 = true
   ·subst c8
    have H1 : ((dom_Is.f k 0 1 y130 1 3).bind fun t149 => (some (!t149))) = some r := by rw [if_pos rfl] at H; exact H
    clear H
    have H := H1
    clear H1
    replace H := Option.bind_eq_some_iff.mp H
    obtain ⟨t149, A90, H⟩ := H
    replace H : (some (!t149)) = some r := H
    have A9 := Aside0.mk A90
    clear A90
    obtain rfl := Option.some.inj H
    go_enter Try.func11, Try.ntmps11
    go_wp2_with (first | ((with_reducible refine gate_dst (N := 1) rfl ?_); (try (refine gate_guard (by rfl) ?_; dsimp only)); refine box_event ?hg (N := 1) ?hd (cs := #[.bool false, .int .i64 0, .slice none 0 0, .bool false, .bool false, .slice none 0 0, .int .i64 0, .int .i64 0, .int .i64 0, .int .i64 0, .slice none 0 0, .int .i64 0, .int .i64 0, .int .i64 0]) (t := 50) ?hr ?_; (case hd => rfl); (case hg => rfl); (case hr => first | (go_simp; done) | (go_simp; rfl)); intro gb129 hg w10 hbox hb; have n0_ := Aside0.mk (below_step (by repeat (first | (with_reducible first | exact HB.out | apply below_alloc | apply pw_below_drewN | apply below_drew1) | exact HB.out)) hb); have n1_ := Aside0.mk (hbox); have n2_ := Aside0.mk ((by rw [hg]; exact (below_size (by repeat (first | (with_reducible first | exact HB.out | apply below_alloc | apply pw_below_drewN | apply below_drew1) | exact HB.out))) : w.heap.size ≤ gb129)); have n3_ := Aside0.mk ((by rw [hg]; exact (below_size (by repeat (first | (with_reducible first | exact HB.out | apply below_alloc | apply pw_below_drewN | apply below_drew1) | exact HB.out))) : w.heap.size ≤ gb129)); clear HB; have HB := n0_; have BK129 := n1_; have GW129 := n2_; have GE129 := n3_; clear n0_ n1_ n2_ n3_; clear hb hbox hg; have hcz11_0 : w10.cell? ⟨gb129, 0, none⟩ = some (.bool false) := (blk_cell BK129.out 0).trans rfl; have hcz11_1 : w10.cell? ⟨gb129, 1, none⟩ = some (.int .i64 0) := (blk_cell BK129.out 1).trans rfl; have hcz11_2 : w10.cell? ⟨gb129, 2, none⟩ = some (.slice none 0 0) := (blk_cell BK129.out 2).trans rfl; have hcz11_3 : w10.cell? ⟨gb129, 3, none⟩ = some (.bool false) := (blk_cell BK129.out 3).trans rfl; have hcz11_4 : w10.cell? ⟨gb129, 4, none⟩ = some (.bool false) := (blk_cell BK129.out 4).trans rfl; have hcz11_5 : w10.cell? ⟨gb129, 5, none⟩ = some (.slice none 0 0) := (blk_cell BK129.out 5).trans rfl; have hcz11_6 : w10.cell? ⟨gb129, 6, none⟩ = some (.int .i64 0) := (blk_cell BK129.out 6).trans rfl; have hcz11_7 : w10.cell? ⟨gb129, 7, none⟩ = some (.int .i64 0) := (blk_cell BK129.out 7).trans rfl; have hcz11_8 : w10.cell? ⟨gb129, 8, none⟩ = some (.int .i64 0) := (blk_cell BK129.out 8).trans rfl; have hcz11_9 : w10.cell? ⟨gb129, 9, none⟩ = some (.int .i64 0) := (blk_cell BK129.out 9).trans rfl; have hcz11_10 : w10.cell? ⟨gb129, 10, none⟩ = some (.slice none 0 0) := (blk_cell BK129.out 10).trans rfl; have hcz11_11 : w10.cell? ⟨gb129, 11, none⟩ = some (.int .i64 0) := (blk_cell BK129.out 11).trans rfl; have hcz11_12 : w10.cell? ⟨gb129, 12, none⟩ = some (.int .i64 0) := (blk_cell BK129.out 12).trans rfl; have hcz11_13 : w10.cell? ⟨gb129, 13, none⟩ = some (.int .i64 0) := (blk_cell BK129.out 13).trans rfl; have hfz11_0 := blk_frozen BK129.out 0; have hfz11_1 := blk_frozen BK129.out 1; have hfz11_2 := blk_frozen BK129.out 2; have hfz11_3 := blk_frozen BK129.out 3; have hfz11_4 := blk_frozen BK129.out 4; have hfz11_5 := blk_frozen BK129.out 5; have hfz11_6 := blk_frozen BK129.out 6; have hfz11_7 := blk_frozen BK129.out 7; have hfz11_8 := blk_frozen BK129.out 8; have hfz11_9 := blk_frozen BK129.out 9; have hfz11_10 := blk_frozen BK129.out 10; have hfz11_11 := blk_frozen BK129.out 11; have hfz11_12 := blk_frozen BK129.out 12; have hfz11_13 := blk_frozen BK129.out 13) | ((with_reducible refine gate_dst (N := 11) rfl ?_); (try (refine gate_guard (by rfl) ?_; dsimp only)); refine Kd.R_lit k50 _ 50 ?hg (N := 11) ?hd (xs := ([(⟨false, (⟨0, ([] : List Int), false, false⟩ : S47), ([] : List (S117)), (⟨3, 0, 0, 0, ([] : List Int), 1, 2, 0⟩ : S44)⟩ : S50), (⟨false, (⟨0, ([] : List Int), false, false⟩ : S47), ([] : List (S117)), (⟨2, 0, 0, 0, ([] : List Int), 3, 0, 0⟩ : S44)⟩ : S50), (⟨false, (⟨0, ([] : List Int), false, false⟩ : S47), ([] : List (S117)), (⟨2, 0, 0, 0, ([] : List Int), 3, 0, 0⟩ : S44)⟩ : S50), (⟨false, (⟨0, ([] : List Int), false, false⟩ : S47), ([] : List (S117)), (⟨1, 0, 0, 0, ([] : List Int), 0, 0, 0⟩ : S44)⟩ : S50)] : List (S50))) (inner := [.bool false, .int .i64 0, .slice none 0 0, .bool false, .bool false, .slice none 0 0, .int .i64 3, .int .i64 0, .int .i64 0, .int .i64 0, .slice none 0 0, .int .i64 1, .int .i64 2, .int .i64 0, .bool false, .int .i64 0, .slice none 0 0, .bool false, .bool false, .slice none 0 0, .int .i64 2, .int .i64 0, .int .i64 0, .int .i64 0, .slice none 0 0, .int .i64 3, .int .i64 0, .int .i64 0, .bool false, .int .i64 0, .slice none 0 0, .bool false, .bool false, .slice none 0 0, .int .i64 2, .int .i64 0, .int .i64 0, .int .i64 0, .slice none 0 0, .int .i64 3, .int .i64 0, .int .i64 0, .bool false, .int .i64 0, .slice none 0 0, .bool false, .bool false, .slice none 0 0, .int .i64 1, .int .i64 0, .int .i64 0, .int .i64 0, .slice none 0 0, .int .i64 0, .int .i64 0, .int .i64 0]) (ok := fun _ => True) (okp := fun _ => True) ?hr ?hp (fun _ hk => hk) trivial (Below.refl _ _) (Nat.le_refl _) (by simp) ?_; (case hd => rfl); (case hg => rfl); (case hr => first | (go_simp; done) | (go_simp; rfl)); (case hp => exact (Reps.front (show Kd.M k50 _ _ _ (⟨false, (⟨0, ([] : List Int), false, false⟩ : S47), ([] : List (S117)), (⟨3, 0, 0, 0, ([] : List Int), 1, 2, 0⟩ : S44)⟩ : S50) [.bool false, .int .i64 0, .slice none 0 0, .bool false, .bool false, .slice none 0 0, .int .i64 3, .int .i64 0, .int .i64 0, .int .i64 0, .slice none 0 0, .int .i64 1, .int .i64 2, .int .i64 0] from (k50_mkM _ _ _ (⟨false, (⟨0, ([] : List Int), false, false⟩ : S47), ([] : List (S117)), (⟨3, 0, 0, 0, ([] : List Int), 1, 2, 0⟩ : S44)⟩ : S50) (Kd.R_nil _ _ _ _ _) (Kd.R_nil _ _ _ _ _) (Kd.R_nil _ _ _ _ _))) rfl (Reps.front (show Kd.M k50 _ _ _ (⟨false, (⟨0, ([] : List Int), false, false⟩ : S47), ([] : List (S117)), (⟨2, 0, 0, 0, ([] : List Int), 3, 0, 0⟩ : S44)⟩ : S50) [.bool false, .int .i64 0, .slice none 0 0, .bool false, .bool false, .slice none 0 0, .int .i64 2, .int .i64 0, .int .i64 0, .int .i64 0, .slice none 0 0, .int .i64 3, .int .i64 0, .int .i64 0] from (k50_mkM _ _ _ (⟨false, (⟨0, ([] : List Int), false, false⟩ : S47), ([] : List (S117)), (⟨2, 0, 0, 0, ([] : List Int), 3, 0, 0⟩ : S44)⟩ : S50) (Kd.R_nil _ _ _ _ _) (Kd.R_nil _ _ _ _ _) (Kd.R_nil _ _ _ _ _))) rfl (Reps.front (show Kd.M k50 _ _ _ (⟨false, (⟨0, ([] : List Int), false, false⟩ : S47), ([] : List (S117)), (⟨2, 0, 0, 0, ([] : List Int), 3, 0, 0⟩ : S44)⟩ : S50) [.bool false, .int .i64 0, .slice none 0 0, .bool false, .bool false, .slice none 0 0, .int .i64 2, .int .i64 0, .int .i64 0, .int .i64 0, .slice none 0 0, .int .i64 3, .int .i64 0, .int .i64 0] from (k50_mkM _ _ _ (⟨false, (⟨0, ([] : List Int), false, false⟩ : S47), ([] : List (S117)), (⟨2, 0, 0, 0, ([] : List Int), 3, 0, 0⟩ : S44)⟩ : S50) (Kd.R_nil _ _ _ _ _) (Kd.R_nil _ _ _ _ _) (Kd.R_nil _ _ _ _ _))) rfl (Reps.front (show Kd.M k50 _ _ _ (⟨false, (⟨0, ([] : List Int), false, false⟩ : S47), ([] : List (S117)), (⟨1, 0, 0, 0, ([] : List Int), 0, 0, 0⟩ : S44)⟩ : S50) [.bool false, .int .i64 0, .slice none 0 0, .bool false, .bool false, .slice none 0 0, .int .i64 1, .int .i64 0, .int .i64 0, .int .i64 0, .slice none 0 0, .int .i64 0, .int .i64 0, .int .i64 0] from (k50_mkM _ _ _ (⟨false, (⟨0, ([] : List Int), false, false⟩ : S47), ([] : List (S117)), (⟨1, 0, 0, 0, ([] : List Int), 0, 0, 0⟩ : S44)⟩ : S50) (Kd.R_nil _ _ _ _ _) (Kd.R_nil _ _ _ _ _) (Kd.R_nil _ _ _ _ _))) rfl (Reps.none _ _) rfl) rfl) rfl) rfl)); intro v131 w12 ho13 hb hg_ hnew_; clear hg_ hnew_; (first | rw [← Ny130.out] at ho13 | (simp only [Int.reduceToNat] at ho13; rw [← Ny130.out] at ho13)); have n0_ := Aside0.mk (Kd.R_lower (Kd.R_newB ho13 (g := gb129) (o := .cells #[.bool false, .int .i64 0, .slice none 0 0, .bool false, .bool false, .slice none 0 0, .int .i64 2, .int .i64 0, .int .i64 0, .int .i64 0, .slice none 0 0, .int .i64 3, .int .i64 0, .int .i64 0] 50 (0, 0)) (by (with_reducible repeat (first | refine blk_drewN ?_ _ | refine blk_drew ?_ | refine blk_alloc ?_ _)); refine blk_put (cs := #[.bool false, .int .i64 0, .slice none 0 0, .bool false, .bool false, .slice none 0 0, .int .i64 2, .int .i64 0, .int .i64 0, .int .i64 0, .slice none 0 0, .int .i64 3, .int .i64 0, .int .i64 0]) ?_ 13 _ rfl; (with_reducible repeat (first | refine blk_drewN ?_ _ | refine blk_drew ?_ | refine blk_alloc ?_ _)); refine blk_put (cs := #[.bool false, .int .i64 0, .slice none 0 0, .bool false, .bool false, .slice none 0 0, .int .i64 2, .int .i64 0, .int .i64 0, .int .i64 0, .slice none 0 0, .int .i64 3, .int .i64 0, .int .i64 0]) ?_ 12 _ rfl; (with_reducible repeat (first | refine blk_drewN ?_ _ | refine blk_drew ?_ | refine blk_alloc ?_ _)); refine blk_put (cs := #[.bool false, .int .i64 0, .slice none 0 0, .bool false, .bool false, .slice none 0 0, .int .i64 2, .int .i64 0, .int .i64 0, .int .i64 0, .slice none 0 0, .int .i64 0, .int .i64 0, .int .i64 0]) ?_ 11 _ rfl; (with_reducible repeat (first | refine blk_drewN ?_ _ | refine blk_drew ?_ | refine blk_alloc ?_ _)); refine blk_put (cs := #[.bool false, .int .i64 0, .slice none 0 0, .bool false, .bool false, .slice none 0 0, .int .i64 2, .int .i64 0, .int .i64 0, .int .i64 0, .slice none 0 0, .int .i64 0, .int .i64 0, .int .i64 0]) ?_ 10 _ rfl; (with_reducible repeat (first | refine blk_drewN ?_ _ | refine blk_drew ?_ | refine blk_alloc ?_ _)); refine blk_put (cs := #[.bool false, .int .i64 0, .slice none 0 0, .bool false, .bool false, .slice none 0 0, .int .i64 2, .int .i64 0, .int .i64 0, .int .i64 0, .slice none 0 0, .int .i64 0, .int .i64 0, .int .i64 0]) ?_ 9 _ rfl; (with_reducible repeat (first | refine blk_drewN ?_ _ | refine blk_drew ?_ | refine blk_alloc ?_ _)); refine blk_put (cs := #[.bool false, .int .i64 0, .slice none 0 0, .bool false, .bool false, .slice none 0 0, .int .i64 2, .int .i64 0, .int .i64 0, .int .i64 0, .slice none 0 0, .int .i64 0, .int .i64 0, .int .i64 0]) ?_ 8 _ rfl; (with_reducible repeat (first | refine blk_drewN ?_ _ | refine blk_drew ?_ | refine blk_alloc ?_ _)); refine blk_put (cs := #[.bool false, .int .i64 0, .slice none 0 0, .bool false, .bool false, .slice none 0 0, .int .i64 2, .int .i64 0, .int .i64 0, .int .i64 0, .slice none 0 0, .int .i64 0, .int .i64 0, .int .i64 0]) ?_ 7 _ rfl; (with_reducible repeat (first | refine blk_drewN ?_ _ | refine blk_drew ?_ | refine blk_alloc ?_ _)); refine blk_put (cs := #[.bool false, .int .i64 0, .slice none 0 0, .bool false, .bool false, .slice none 0 0, .int .i64 0, .int .i64 0, .int .i64 0, .int .i64 0, .slice none 0 0, .int .i64 0, .int .i64 0, .int .i64 0]) ?_ 6 _ rfl; (with_reducible repeat (first | refine blk_drewN ?_ _ | refine blk_drew ?_ | refine blk_alloc ?_ _)); refine blk_put (cs := #[.bool false, .int .i64 0, .slice none 0 0, .bool false, .bool false, .slice none 0 0, .int .i64 0, .int .i64 0, .int .i64 0, .int .i64 0, .slice none 0 0, .int .i64 0, .int .i64 0, .int .i64 0]) ?_ 5 _ rfl; (with_reducible repeat (first | refine blk_drewN ?_ _ | refine blk_drew ?_ | refine blk_alloc ?_ _)); refine blk_put (cs := #[.bool false, .int .i64 0, .slice none 0 0, .bool false, .bool false, .slice none 0 0, .int .i64 0, .int .i64 0, .int .i64 0, .int .i64 0, .slice none 0 0, .int .i64 0, .int .i64 0, .int .i64 0]) ?_ 4 _ rfl; (with_reducible repeat (first | refine blk_drewN ?_ _ | refine blk_drew ?_ | refine blk_alloc ?_ _)); refine blk_put (cs := #[.bool false, .int .i64 0, .slice none 0 0, .bool false, .bool false, .slice none 0 0, .int .i64 0, .int .i64 0, .int .i64 0, .int .i64 0, .slice none 0 0, .int .i64 0, .int .i64 0, .int .i64 0]) ?_ 3 _ rfl; (with_reducible repeat (first | refine blk_drewN ?_ _ | refine blk_drew ?_ | refine blk_alloc ?_ _)); refine blk_put (cs := #[.bool false, .int .i64 0, .slice none 0 0, .bool false, .bool false, .slice none 0 0, .int .i64 0, .int .i64 0, .int .i64 0, .int .i64 0, .slice none 0 0, .int .i64 0, .int .i64 0, .int .i64 0]) ?_ 2 _ rfl; (with_reducible repeat (first | refine blk_drewN ?_ _ | refine blk_drew ?_ | refine blk_alloc ?_ _)); refine blk_put (cs := #[.bool false, .int .i64 0, .slice none 0 0, .bool false, .bool false, .slice none 0 0, .int .i64 0, .int .i64 0, .int .i64 0, .int .i64 0, .slice none 0 0, .int .i64 0, .int .i64 0, .int .i64 0]) ?_ 1 _ rfl; (with_reducible repeat (first | refine blk_drewN ?_ _ | refine blk_drew ?_ | refine blk_alloc ?_ _)); refine blk_put (cs := #[.bool false, .int .i64 0, .slice none 0 0, .bool false, .bool false, .slice none 0 0, .int .i64 0, .int .i64 0, .int .i64 0, .int .i64 0, .slice none 0 0, .int .i64 0, .int .i64 0, .int .i64 0]) ?_ 0 _ rfl; (with_reducible repeat (first | refine blk_drewN ?_ _ | refine blk_drew ?_ | refine blk_alloc ?_ _)); exact BK129.out)) (below_size (by repeat (first | (with_reducible first | exact HB.out | apply below_alloc | apply pw_below_drewN | apply below_drew1 | refine below_set ?_ GE129.out) | exact HB.out)))); have n1_ := Aside0.mk (blk_below (g := gb129) (o := .cells #[.bool false, .int .i64 0, .slice none 0 0, .bool false, .bool false, .slice none 0 0, .int .i64 2, .int .i64 0, .int .i64 0, .int .i64 0, .slice none 0 0, .int .i64 3, .int .i64 0, .int .i64 0] 50 (0, 0)) (by (with_reducible repeat (first | refine blk_drewN ?_ _ | refine blk_drew ?_ | refine blk_alloc ?_ _)); refine blk_put (cs := #[.bool false, .int .i64 0, .slice none 0 0, .bool false, .bool false, .slice none 0 0, .int .i64 2, .int .i64 0, .int .i64 0, .int .i64 0, .slice none 0 0, .int .i64 3, .int .i64 0, .int .i64 0]) ?_ 13 _ rfl; (with_reducible repeat (first | refine blk_drewN ?_ _ | refine blk_drew ?_ | refine blk_alloc ?_ _)); refine blk_put (cs := #[.bool false, .int .i64 0, .slice none 0 0, .bool false, .bool false, .slice none 0 0, .int .i64 2, .int .i64 0, .int .i64 0, .int .i64 0, .slice none 0 0, .int .i64 3, .int .i64 0, .int .i64 0]) ?_ 12 _ rfl; (with_reducible repeat (first | refine blk_drewN ?_ _ | refine blk_drew ?_ | refine blk_alloc ?_ _)); refine blk_put (cs := #[.bool false, .int .i64 0, .slice none 0 0, .bool false, .bool false, .slice none 0 0, .int .i64 2, .int .i64 0, .int .i64 0, .int .i64 0, .slice none 0 0, .int .i64 0, .int .i64 0, .int .i64 0]) ?_ 11 _ rfl; (with_reducible repeat (first | refine blk_drewN ?_ _ | refine blk_drew ?_ | refine blk_alloc ?_ _)); refine blk_put (cs := #[.bool false, .int .i64 0, .slice none 0 0, .bool false, .bool false, .slice none 0 0, .int .i64 2, .int .i64 0, .int .i64 0, .int .i64 0, .slice none 0 0, .int .i64 0, .int .i64 0, .int .i64 0]) ?_ 10 _ rfl; (with_reducible repeat (first | refine blk_drewN ?_ _ | refine blk_drew ?_ | refine blk_alloc ?_ _)); refine blk_put (cs := #[.bool false, .int .i64 0, .slice none 0 0, .bool false, .bool false, .slice none 0 0, .int .i64 2, .int .i64 0, .int .i64 0, .int .i64 0, .slice none 0 0, .int .i64 0, .int .i64 0, .int .i64 0]) ?_ 9 _ rfl; (with_reducible repeat (first | refine blk_drewN ?_ _ | refine blk_drew ?_ | refine blk_alloc ?_ _)); refine blk_put (cs := #[.bool false, .int .i64 0, .slice none 0 0, .bool false, .bool false, .slice none 0 0, .int .i64 2, .int .i64 0, .int .i64 0, .int .i64 0, .slice none 0 0, .int .i64 0, .int .i64 0, .int .i64 0]) ?_ 8 _ rfl; (with_reducible repeat (first | refine blk_drewN ?_ _ | refine blk_drew ?_ | refine blk_alloc ?_ _)); refine blk_put (cs := #[.bool false, .int .i64 0, .slice none 0 0, .bool false, .bool false, .slice none 0 0, .int .i64 2, .int .i64 0, .int .i64 0, .int .i64 0, .slice none 0 0, .int .i64 0, .int .i64 0, .int .i64 0]) ?_ 7 _ rfl; (with_reducible repeat (first | refine blk_drewN ?_ _ | refine blk_drew ?_ | refine blk_alloc ?_ _)); refine blk_put (cs := #[.bool false, .int .i64 0, .slice none 0 0, .bool false, .bool false, .slice none 0 0, .int .i64 0, .int .i64 0, .int .i64 0, .int .i64 0, .slice none 0 0, .int .i64 0, .int .i64 0, .int .i64 0]) ?_ 6 _ rfl; (with_reducible repeat (first | refine blk_drewN ?_ _ | refine blk_drew ?_ | refine blk_alloc ?_ _)); refine blk_put (cs := #[.bool false, .int .i64 0, .slice none 0 0, .bool false, .bool false, .slice none 0 0, .int .i64 0, .int .i64 0, .int .i64 0, .int .i64 0, .slice none 0 0, .int .i64 0, .int .i64 0, .int .i64 0]) ?_ 5 _ rfl; (with_reducible repeat (first | refine blk_drewN ?_ _ | refine blk_drew ?_ | refine blk_alloc ?_ _)); refine blk_put (cs := #[.bool false, .int .i64 0, .slice none 0 0, .bool false, .bool false, .slice none 0 0, .int .i64 0, .int .i64 0, .int .i64 0, .int .i64 0, .slice none 0 0, .int .i64 0, .int .i64 0, .int .i64 0]) ?_ 4 _ rfl; (with_reducible repeat (first | refine blk_drewN ?_ _ | refine blk_drew ?_ | refine blk_alloc ?_ _)); refine blk_put (cs := #[.bool false, .int .i64 0, .slice none 0 0, .bool false, .bool false, .slice none 0 0, .int .i64 0, .int .i64 0, .int .i64 0, .int .i64 0, .slice none 0 0, .int .i64 0, .int .i64 0, .int .i64 0]) ?_ 3 _ rfl; (with_reducible repeat (first | refine blk_drewN ?_ _ | refine blk_drew ?_ | refine blk_alloc ?_ _)); refine blk_put (cs := #[.bool false, .int .i64 0, .slice none 0 0, .bool false, .bool false, .slice none 0 0, .int .i64 0, .int .i64 0, .int .i64 0, .int .i64 0, .slice none 0 0, .int .i64 0, .int .i64 0, .int .i64 0]) ?_ 2 _ rfl; (with_reducible repeat (first | refine blk_drewN ?_ _ | refine blk_drew ?_ | refine blk_alloc ?_ _)); refine blk_put (cs := #[.bool false, .int .i64 0, .slice none 0 0, .bool false, .bool false, .slice none 0 0, .int .i64 0, .int .i64 0, .int .i64 0, .int .i64 0, .slice none 0 0, .int .i64 0, .int .i64 0, .int .i64 0]) ?_ 1 _ rfl; (with_reducible repeat (first | refine blk_drewN ?_ _ | refine blk_drew ?_ | refine blk_alloc ?_ _)); refine blk_put (cs := #[.bool false, .int .i64 0, .slice none 0 0, .bool false, .bool false, .slice none 0 0, .int .i64 0, .int .i64 0, .int .i64 0, .int .i64 0, .slice none 0 0, .int .i64 0, .int .i64 0, .int .i64 0]) ?_ 0 _ rfl; (with_reducible repeat (first | refine blk_drewN ?_ _ | refine blk_drew ?_ | refine blk_alloc ?_ _)); exact BK129.out) hb); have n2_ := Aside0.mk (below_step (by repeat (first | (with_reducible first | exact HB.out | apply below_alloc | apply pw_below_drewN | apply below_drew1 | refine below_set ?_ GE129.out) | exact HB.out)) hb); clear BK129; clear HB; have HO132 := n0_; have BK129 := n1_; have HB := n2_; clear n0_ n1_ n2_; clear hb ho13; obtain ⟨Ao14, co14, eo14⟩ := Kd.R_slice HO132.out; subst eo14) | ((with_reducible refine gate_dst (N := 2) rfl ?_); (try (refine gate_guard (by rfl) ?_; dsimp only)); refine box_event ?hg (N := 2) ?hd (cs := #[.int .i64 0, .int .i64 0, .slice none 0 0]) (t := 24) ?hr ?_; (case hd => rfl); (case hg => rfl); (case hr => first | (go_simp; done) | (go_simp; rfl)); intro gb133 hg w15 hbox hb; have n0_ := Aside0.mk (Kd.R_below (by (with_reducible repeat (first | apply Kd.R_alloc | apply Kd.R_drewN | apply Kd.R_drew)); exact HO132.out) hb); have n1_ := Aside0.mk (blk_below (g := gb129) (o := .cells #[.bool false, .int .i64 0, .slice none 0 0, .bool false, .bool false, .slice none 0 0, .int .i64 2, .int .i64 0, .int .i64 0, .int .i64 0, .slice none 0 0, .int .i64 3, .int .i64 0, .int .i64 0] 50 (0, 0)) (by (with_reducible repeat (first | refine blk_drewN ?_ _ | refine blk_drew ?_ | refine blk_alloc ?_ _)); exact BK129.out) hb); have n2_ := Aside0.mk (below_step (by repeat (first | (with_reducible first | exact HB.out | apply below_alloc | apply pw_below_drewN | apply below_drew1 | refine below_set ?_ GE129.out) | exact HB.out)) hb); have n3_ := Aside0.mk (hbox); have n4_ := Aside0.mk ((by rw [hg]; exact (below_size (by repeat (first | (with_reducible first | exact HB.out | apply below_alloc | apply pw_below_drewN | apply below_drew1 | refine below_set ?_ GE129.out) | exact HB.out))) : w.heap.size ≤ gb133)); have n5_ := Aside0.mk ((by rw [hg]; exact (below_size (by repeat (first | (with_reducible first | exact HB.out | apply below_alloc | apply pw_below_drewN | apply below_drew1 | refine below_set ?_ GE129.out) | exact HB.out))) : w.heap.size ≤ gb133)); have n6_ := Aside0.mk ((by rw [hg]; exact Nat.ne_of_lt (blk_lt (g := gb129) (o := .cells #[.bool false, .int .i64 0, .slice none 0 0, .bool false, .bool false, .slice none 0 0, .int .i64 2, .int .i64 0, .int .i64 0, .int .i64 0, .slice none 0 0, .int .i64 3, .int .i64 0, .int .i64 0] 50 (0, 0)) (by (with_reducible repeat (first | refine blk_drewN ?_ _ | refine blk_drew ?_ | refine blk_alloc ?_ _)); exact BK129.out)) : gb129 ≠ gb133)); have n7_ := Aside0.mk ((by rw [hg]; exact Nat.ne_of_gt (blk_lt (g := gb129) (o := .cells #[.bool false, .int .i64 0, .slice none 0 0, .bool false, .bool false, .slice none 0 0, .int .i64 2, .int .i64 0, .int .i64 0, .int .i64 0, .slice none 0 0, .int .i64 3, .int .i64 0, .int .i64 0] 50 (0, 0)) (by (with_reducible repeat (first | refine blk_drewN ?_ _ | refine blk_drew ?_ | refine blk_alloc ?_ _)); exact BK129.out)) : gb133 ≠ gb129)); clear HO132; clear BK129; clear HB; have HO132 := n0_; have BK129 := n1_; have HB := n2_; have BK133 := n3_; have GW133 := n4_; have GE133 := n5_; have NB129_133 := n6_; have NB133_129 := n7_; clear n0_ n1_ n2_ n3_ n4_ n5_ n6_ n7_; clear hb hbox hg; have hnb16 := NB133_129.out; have hnc16 := NB129_133.out; have hcz17_0 : w15.cell? ⟨gb133, 0, none⟩ = some (.int .i64 0) := (blk_cell BK133.out 0).trans rfl; have hcz17_1 : w15.cell? ⟨gb133, 1, none⟩ = some (.int .i64 0) := (blk_cell BK133.out 1).trans rfl; have hcz17_2 : w15.cell? ⟨gb133, 2, none⟩ = some (.slice none 0 0) := (blk_cell BK133.out 2).trans rfl; have hfz17_0 := blk_frozen BK133.out 0; have hfz17_1 := blk_frozen BK133.out 1; have hfz17_2 := blk_frozen BK133.out 2) | ((with_reducible refine gate_callee (f := 13) rfl ?_); refine goesL_ (some 14) rfl rfl Try.func13 (by kernel_rfl) rfl #[.agg #[.int .i64 0, .int .i64 1, .slice Ao14 y130.length co14]] rfl (by (try simp only [List.map_toArray, List.map_cons, List.map_nil]); first | done | rfl | (simp only [List.length_drop, List.length_take]; rfl)) ?_; (with_reducible refine (dom_Over.calls 0 1 _ _ y130 t134 _ ?side1 ?side2 A1.out).mono ?_); (case side1 => refine (Kd.R_reads' (e := 50) (base := w.heap.size) (ok := fun k_ => (True ∧ k_ ≠ gb129)) (n := y130.length) (c := co14) ?_).2.2; exact (by (with_reducible repeat (first | apply Kd.R_alloc | apply Kd.R_drewN | apply Kd.R_drew)); exact (Kd.R_mono (Kd.R_far (p := ⟨gb133, 2, none⟩) (Kd.R_far (p := ⟨gb133, 1, none⟩) (Kd.R_far (p := ⟨gb133, 0, none⟩) (Kd.R_types HO132.out BK133.out (by decide)) (fun _ hk => hk.2) (.int .i64 0)) (fun _ hk => hk.2) (.int .i64 1)) (fun _ hk => hk.2) (.slice Ao14 y130.length co14)) (fun _ h_ => h_.1)))); (case side2 => exact (Kd.R_reads' HO132.out).2.1); rintro e w18 ⟨v135, rfl, ho0, hb⟩; refine ⟨_, rfl, ?_⟩; have n0_ := Aside0.mk (Kd.R_elder' (by (with_reducible repeat (first | apply Kd.R_alloc | apply Kd.R_drewN | apply Kd.R_drew)); exact (Kd.R_mono (Kd.R_far (p := ⟨gb133, 2, none⟩) (Kd.R_far (p := ⟨gb133, 1, none⟩) (Kd.R_far (p := ⟨gb133, 0, none⟩) (Kd.R_types HO132.out BK133.out (by decide)) (fun _ hk => hk.2) (.int .i64 0)) (fun _ hk => hk.2) (.int .i64 1)) (fun _ hk => hk.2) (.slice Ao14 y130.length co14)) (fun _ h_ => h_.1))) (Kd.R_base ho0) hb); have n1_ := Aside0.mk (Kd.R_lower ho0 (below_size (by repeat (first | (with_reducible first | exact HB.out | apply below_alloc | apply pw_below_drewN | apply below_drew1 | refine below_set ?_ GE129.out | refine below_set ?_ GE133.out) | exact HB.out)))); have n2_ := Aside0.mk (blk_below (g := gb129) (o := .cells #[.bool false, .int .i64 0, .slice none 0 0, .bool false, .bool false, .slice none 0 0, .int .i64 2, .int .i64 0, .int .i64 0, .int .i64 0, .slice none 0 0, .int .i64 3, .int .i64 0, .int .i64 0] 50 (0, 0)) (by (with_reducible repeat (first | refine blk_drewN ?_ _ | refine blk_drew ?_ | refine blk_alloc ?_ _)); refine blk_far ?_ NB129_133.out _; (with_reducible repeat (first | refine blk_drewN ?_ _ | refine blk_drew ?_ | refine blk_alloc ?_ _)); refine blk_far ?_ NB129_133.out _; (with_reducible repeat (first | refine blk_drewN ?_ _ | refine blk_drew ?_ | refine blk_alloc ?_ _)); refine blk_far ?_ NB129_133.out _; (with_reducible repeat (first | refine blk_drewN ?_ _ | refine blk_drew ?_ | refine blk_alloc ?_ _)); exact BK129.out) hb); have n3_ := Aside0.mk (blk_below (g := gb133) (o := .cells #[.int .i64 0, .int .i64 1, .slice Ao14 y130.length co14] 24 (0, 0)) (by (with_reducible repeat (first | refine blk_drewN ?_ _ | refine blk_drew ?_ | refine blk_alloc ?_ _)); refine blk_put (cs := #[.int .i64 0, .int .i64 1, .slice none 0 0]) ?_ 2 _ rfl; (with_reducible repeat (first | refine blk_drewN ?_ _ | refine blk_drew ?_ | refine blk_alloc ?_ _)); refine blk_put (cs := #[.int .i64 0, .int .i64 0, .slice none 0 0]) ?_ 1 _ rfl; (with_reducible repeat (first | refine blk_drewN ?_ _ | refine blk_drew ?_ | refine blk_alloc ?_ _)); refine blk_put (cs := #[.int .i64 0, .int .i64 0, .slice none 0 0]) ?_ 0 _ rfl; (with_reducible repeat (first | refine blk_drewN ?_ _ | refine blk_drew ?_ | refine blk_alloc ?_ _)); exact BK133.out) hb); have n4_ := Aside0.mk (below_step (by repeat (first | (with_reducible first | exact HB.out | apply below_alloc | apply pw_below_drewN | apply below_drew1 | refine below_set ?_ GE129.out | refine below_set ?_ GE133.out) | exact HB.out)) hb); clear HO132; clear BK129; clear BK133; clear HB; have HO132 := n0_; have HO136 := n1_; have BK129 := n2_; have BK133 := n3_; have HB := n4_; clear n0_ n1_ n2_ n3_ n4_; (try clear hb); (try clear hb2); (try clear hk); (try clear hi); (try clear ho0)) | ((with_reducible refine gate_dst (N := 15) rfl ?_); (try (refine gate_guard (by rfl) ?_; dsimp only)); refine Kd.R_lit (Kd.int .i64) _ 3 ?hg (N := 15) ?hd (xs := ([(-1), 0, 0, 0] : List Int)) (inner := [.int .i64 (-1), .int .i64 0, .int .i64 0, .int .i64 0]) (ok := fun _ => True) (okp := fun _ => True) ?hr ?hp (fun _ hk => hk) trivial (Below.refl _ _) (Nat.le_refl _) (by simp) ?_; (case hd => rfl); (case hg => rfl); (case hr => first | (go_simp; done) | (go_simp; rfl)); (case hp => exact (Reps.one (show Kd.M (Kd.int .i64) _ _ _ (-1) [.int .i64 (-1)] from rfl) (Reps.one (show Kd.M (Kd.int .i64) _ _ _ 0 [.int .i64 0] from rfl) (Reps.one (show Kd.M (Kd.int .i64) _ _ _ 0 [.int .i64 0] from rfl) (Reps.one (show Kd.M (Kd.int .i64) _ _ _ 0 [.int .i64 0] from rfl) (Reps.none _ _)))))); intro v138 w19 ho20 hb hg_ hnew_; clear hg_ hnew_; (first | rw [← Ny137.out] at ho20 | (simp only [Int.reduceToNat] at ho20; rw [← Ny137.out] at ho20)); have n0_ := Aside0.mk (Kd.R_elder' (by (with_reducible repeat (first | apply Kd.R_alloc | apply Kd.R_drewN | apply Kd.R_drew)); exact HO132.out) (Kd.R_base ho20) hb); have n1_ := Aside0.mk (Kd.R_elder' (by (with_reducible repeat (first | apply Kd.R_alloc | apply Kd.R_drewN | apply Kd.R_drew)); exact HO136.out) (Kd.R_base ho20) hb); have n2_ := Aside0.mk (Kd.R_lower (Kd.R_new' ho20 (Kd.R_lt (by (with_reducible repeat (first | apply Kd.R_alloc | apply Kd.R_drewN | apply Kd.R_drew)); exact HO136.out))) (below_size (by repeat (first | (with_reducible first | exact HB.out | apply below_alloc | apply pw_below_drewN | apply below_drew1 | refine below_set ?_ GE129.out | refine below_set ?_ GE133.out) | exact HB.out)))); have n3_ := Aside0.mk (blk_below (g := gb129) (o := .cells #[.bool false, .int .i64 0, .slice none 0 0, .bool false, .bool false, .slice none 0 0, .int .i64 2, .int .i64 0, .int .i64 0, .int .i64 0, .slice none 0 0, .int .i64 3, .int .i64 0, .int .i64 0] 50 (0, 0)) (by (with_reducible repeat (first | refine blk_drewN ?_ _ | refine blk_drew ?_ | refine blk_alloc ?_ _)); exact BK129.out) hb); have n4_ := Aside0.mk (blk_below (g := gb133) (o := .cells #[.int .i64 0, .int .i64 1, .slice Ao14 y130.length co14] 24 (0, 0)) (by (with_reducible repeat (first | refine blk_drewN ?_ _ | refine blk_drew ?_ | refine blk_alloc ?_ _)); exact BK133.out) hb); have n5_ := Aside0.mk (below_step (by repeat (first | (with_reducible first | exact HB.out | apply below_alloc | apply pw_below_drewN | apply below_drew1 | refine below_set ?_ GE129.out | refine below_set ?_ GE133.out) | exact HB.out)) hb); clear HO132; clear HO136; clear BK129; clear BK133; clear HB; have HO132 := n0_; have HO136 := n1_; have HO139 := n2_; have BK129 := n3_; have BK133 := n4_; have HB := n5_; clear n0_ n1_ n2_ n3_ n4_ n5_; clear hb ho20; obtain ⟨Ao21, co21, eo21⟩ := Kd.R_slice HO136.out; subst eo21; obtain ⟨Ao22, co22, eo22⟩ := Kd.R_slice HO139.out; subst eo22) | ((with_reducible refine gate_callee (f := 12) rfl ?_); refine goesL_ (some 16) rfl rfl Try.func12 (by kernel_rfl) rfl #[.slice Ao21 t134.length co21, .slice Ao22 y137.length co22] rfl (by (try simp only [List.map_toArray, List.map_cons, List.map_nil]); first | done | rfl | (simp only [List.length_drop, List.length_take]; rfl)) ?_; (with_reducible refine (davitref02_Ints.calls k _ _ t134 _ _ y137 true _ ?side1 ?side2 ?side3 ?side4 A2.out).mono ?_); (case side1 => repeat (first | exact (Kd.R_reads' HO136.out).2.2 | (with_reducible refine Kd.C_alloc ?_ _) | (with_reducible refine Kd.C_drewN ?_ _) | (with_reducible refine Kd.C_drew ?_))); (case side2 => exact (Kd.R_reads' HO136.out).2.1); (case side3 => repeat (first | exact (Kd.R_reads' HO139.out).2.2 | (with_reducible refine Kd.C_alloc ?_ _) | (with_reducible refine Kd.C_drewN ?_ _) | (with_reducible refine Kd.C_drew ?_))); (case side4 => exact (Kd.R_reads' HO139.out).2.1); rintro e w' ⟨rfl, ⟨nd, rfl⟩⟩; refine ⟨_, rfl, ?_⟩; have hcz23_0 : w19.cell? ⟨gb133, 0, none⟩ = some (.int .i64 0) := (blk_cell BK133.out 0).trans rfl; have hcz23_1 : w19.cell? ⟨gb133, 1, none⟩ = some (.int .i64 1) := (blk_cell BK133.out 1).trans rfl; have hcz23_2 : w19.cell? ⟨gb133, 2, none⟩ = some (.slice Ao14 y130.length co14) := (blk_cell BK133.out 2).trans rfl; have hfz23_0 := blk_frozen BK133.out 0; have hfz23_1 := blk_frozen BK133.out 1; have hfz23_2 := blk_frozen BK133.out 2) | (go_at_call 17; (with_reducible refine (dom_Edge.calls k 0 1 _ _ y130 1 t141 _ ?side1 ?side2 A4.out).mono ?_); (case side1 => repeat (first | exact (Kd.R_reads' HO132.out).2.2 | (with_reducible refine Kd.C_alloc ?_ _) | (with_reducible refine Kd.C_drewN ?_ _) | (with_reducible refine Kd.C_drew ?_))); (case side2 => exact (Kd.R_reads' HO132.out).2.1); rintro e w24 ⟨v142, rfl, ho0, hb⟩; have n0_ := Aside0.mk (Kd.R_elder' (by (with_reducible repeat (first | apply Kd.R_alloc | apply Kd.R_drewN | apply Kd.R_drew)); exact HO132.out) (Kd.R_base ho0) hb); have n1_ := Aside0.mk (Kd.R_elder' (by (with_reducible repeat (first | apply Kd.R_alloc | apply Kd.R_drewN | apply Kd.R_drew)); exact HO136.out) (Kd.R_base ho0) hb); have n2_ := Aside0.mk (Kd.R_elder' (by (with_reducible repeat (first | apply Kd.R_alloc | apply Kd.R_drewN | apply Kd.R_drew)); exact HO139.out) (Kd.R_base ho0) hb); have n3_ := Aside0.mk (Kd.R_lower (Kd.R_new' (Kd.R_new' ho0 (Kd.R_lt (by (with_reducible repeat (first | apply Kd.R_alloc | apply Kd.R_drewN | apply Kd.R_drew)); exact HO136.out))) (Kd.R_lt (by (with_reducible repeat (first | apply Kd.R_alloc | apply Kd.R_drewN | apply Kd.R_drew)); exact HO139.out))) (below_size (by repeat (first | (with_reducible first | exact HB.out | apply below_alloc | apply pw_below_drewN | apply below_drew1 | refine below_set ?_ GE129.out | refine below_set ?_ GE133.out) | exact HB.out)))); have n4_ := Aside0.mk (blk_below (g := gb129) (o := .cells #[.bool false, .int .i64 0, .slice none 0 0, .bool false, .bool false, .slice none 0 0, .int .i64 2, .int .i64 0, .int .i64 0, .int .i64 0, .slice none 0 0, .int .i64 3, .int .i64 0, .int .i64 0] 50 (0, 0)) (by (with_reducible repeat (first | refine blk_drewN ?_ _ | refine blk_drew ?_ | refine blk_alloc ?_ _)); exact BK129.out) hb); have n5_ := Aside0.mk (blk_below (g := gb133) (o := .cells #[.int .i64 0, .int .i64 1, .slice Ao14 y130.length co14] 24 (0, 0)) (by (with_reducible repeat (first | refine blk_drewN ?_ _ | refine blk_drew ?_ | refine blk_alloc ?_ _)); exact BK133.out) hb); have n6_ := Aside0.mk (below_step (by repeat (first | (with_reducible first | exact HB.out | apply below_alloc | apply pw_below_drewN | apply below_drew1 | refine below_set ?_ GE129.out | refine below_set ?_ GE133.out) | exact HB.out)) hb); clear HO132; clear HO136; clear HO139; clear BK129; clear BK133; clear HB; have HO132 := n0_; have HO136 := n1_; have HO139 := n2_; have HO143 := n3_; have BK129 := n4_; have BK133 := n5_; have HB := n6_; clear n0_ n1_ n2_ n3_ n4_ n5_ n6_; (try clear hb); (try clear hb2); (try clear hk); (try clear hi); (try clear ho0)) | ((with_reducible refine gate_dst (N := 20) rfl ?_); (try (refine gate_guard (by rfl) ?_; dsimp only)); refine Kd.R_lit (Kd.int .i64) _ 3 ?hg (N := 20) ?hd (xs := ([3] : List Int)) (inner := [.int .i64 3]) (ok := fun _ => True) (okp := fun _ => True) ?hr ?hp (fun _ hk => hk) trivial (Below.refl _ _) (Nat.le_refl _) (by simp) ?_; (case hd => rfl); (case hg => rfl); (case hr => first | (go_simp; done) | (go_simp; rfl)); (case hp => exact (Reps.one (show Kd.M (Kd.int .i64) _ _ _ 3 [.int .i64 3] from rfl) (Reps.none _ _))); intro v145 w25 ho26 hb hg_ hnew_; clear hg_ hnew_; (first | rw [← Ny144.out] at ho26 | (simp only [Int.reduceToNat] at ho26; rw [← Ny144.out] at ho26)); have n0_ := Aside0.mk (Kd.R_elder' (by (with_reducible repeat (first | apply Kd.R_alloc | apply Kd.R_drewN | apply Kd.R_drew)); exact HO132.out) (Kd.R_base ho26) hb); have n1_ := Aside0.mk (Kd.R_elder' (by (with_reducible repeat (first | apply Kd.R_alloc | apply Kd.R_drewN | apply Kd.R_drew)); exact HO136.out) (Kd.R_base ho26) hb); have n2_ := Aside0.mk (Kd.R_elder' (by (with_reducible repeat (first | apply Kd.R_alloc | apply Kd.R_drewN | apply Kd.R_drew)); exact HO139.out) (Kd.R_base ho26) hb); have n3_ := Aside0.mk (Kd.R_elder' (by (with_reducible repeat (first | apply Kd.R_alloc | apply Kd.R_drewN | apply Kd.R_drew)); exact HO143.out) (Kd.R_base ho26) hb); have n4_ := Aside0.mk (Kd.R_lower (Kd.R_new' (Kd.R_new' (Kd.R_new' ho26 (Kd.R_lt (by (with_reducible repeat (first | apply Kd.R_alloc | apply Kd.R_drewN | apply Kd.R_drew)); exact HO136.out))) (Kd.R_lt (by (with_reducible repeat (first | apply Kd.R_alloc | apply Kd.R_drewN | apply Kd.R_drew)); exact HO139.out))) (Kd.R_lt (by (with_reducible repeat (first | apply Kd.R_alloc | apply Kd.R_drewN | apply Kd.R_drew)); exact HO143.out))) (below_size (by repeat (first | (with_reducible first | exact HB.out | apply below_alloc | apply pw_below_drewN | apply below_drew1 | refine below_set ?_ GE129.out | refine below_set ?_ GE133.out) | exact HB.out)))); have n5_ := Aside0.mk (blk_below (g := gb129) (o := .cells #[.bool false, .int .i64 0, .slice none 0 0, .bool false, .bool false, .slice none 0 0, .int .i64 2, .int .i64 0, .int .i64 0, .int .i64 0, .slice none 0 0, .int .i64 3, .int .i64 0, .int .i64 0] 50 (0, 0)) (by (with_reducible repeat (first | refine blk_drewN ?_ _ | refine blk_drew ?_ | refine blk_alloc ?_ _)); exact BK129.out) hb); have n6_ := Aside0.mk (blk_below (g := gb133) (o := .cells #[.int .i64 0, .int .i64 1, .slice Ao14 y130.length co14] 24 (0, 0)) (by (with_reducible repeat (first | refine blk_drewN ?_ _ | refine blk_drew ?_ | refine blk_alloc ?_ _)); exact BK133.out) hb); have n7_ := Aside0.mk (below_step (by repeat (first | (with_reducible first | exact HB.out | apply below_alloc | apply pw_below_drewN | apply below_drew1 | refine below_set ?_ GE129.out | refine below_set ?_ GE133.out) | exact HB.out)) hb); clear HO132; clear HO136; clear HO139; clear HO143; clear BK129; clear BK133; clear HB; have HO132 := n0_; have HO136 := n1_; have HO139 := n2_; have HO143 := n3_; have HO146 := n4_; have BK129 := n5_; have BK133 := n6_; have HB := n7_; clear n0_ n1_ n2_ n3_ n4_ n5_ n6_ n7_; clear hb ho26; obtain ⟨Ao27, co27, eo27⟩ := Kd.R_slice HO143.out; subst eo27; obtain ⟨Ao28, co28, eo28⟩ := Kd.R_slice HO146.out; subst eo28) | (go_at_call 12; (with_reducible refine (davitref02_Ints.calls k _ _ t141 _ _ y144 true _ ?side1 ?side2 ?side3 ?side4 A5.out).mono ?_); (case side1 => repeat (first | exact (Kd.R_reads' HO143.out).2.2 | (with_reducible refine Kd.C_alloc ?_ _) | (with_reducible refine Kd.C_drewN ?_ _) | (with_reducible refine Kd.C_drew ?_))); (case side2 => exact (Kd.R_reads' HO143.out).2.1); (case side3 => repeat (first | exact (Kd.R_reads' HO146.out).2.2 | (with_reducible refine Kd.C_alloc ?_ _) | (with_reducible refine Kd.C_drewN ?_ _) | (with_reducible refine Kd.C_drew ?_))); (case side4 => exact (Kd.R_reads' HO146.out).2.1); rintro e w' ⟨rfl, ⟨nd, rfl⟩⟩; have hcz29_0 : w25.cell? ⟨gb133, 0, none⟩ = some (.int .i64 0) := (blk_cell BK133.out 0).trans rfl; have hcz29_1 : w25.cell? ⟨gb133, 1, none⟩ = some (.int .i64 1) := (blk_cell BK133.out 1).trans rfl; have hcz29_2 : w25.cell? ⟨gb133, 2, none⟩ = some (.slice Ao14 y130.length co14) := (blk_cell BK133.out 2).trans rfl; have hfz29_0 := blk_frozen BK133.out 0; have hfz29_1 := blk_frozen BK133.out 1; have hfz29_2 := blk_frozen BK133.out 2) | (go_at_call 15; (with_reducible refine (dom_Is.calls k 0 1 _ _ y130 0 3 true _ ?side1 ?side2 A7.out).mono ?_); (case side1 => repeat (first | exact (Kd.R_reads' HO132.out).2.2 | (with_reducible refine Kd.C_alloc ?_ _) | (with_reducible refine Kd.C_drewN ?_ _) | (with_reducible refine Kd.C_drew ?_))); (case side2 => exact (Kd.R_reads' HO132.out).2.1); rintro e w30 ⟨rfl, hb⟩; have n0_ := Aside0.mk (Kd.R_below (by (with_reducible repeat (first | apply Kd.R_alloc | apply Kd.R_drewN | apply Kd.R_drew)); exact HO132.out) hb); have n1_ := Aside0.mk (Kd.R_below (by (with_reducible repeat (first | apply Kd.R_alloc | apply Kd.R_drewN | apply Kd.R_drew)); exact HO136.out) hb); have n2_ := Aside0.mk (Kd.R_below (by (with_reducible repeat (first | apply Kd.R_alloc | apply Kd.R_drewN | apply Kd.R_drew)); exact HO139.out) hb); have n3_ := Aside0.mk (Kd.R_below (by (with_reducible repeat (first | apply Kd.R_alloc | apply Kd.R_drewN | apply Kd.R_drew)); exact HO143.out) hb); have n4_ := Aside0.mk (Kd.R_below (by (with_reducible repeat (first | apply Kd.R_alloc | apply Kd.R_drewN | apply Kd.R_drew)); exact HO146.out) hb); have n5_ := Aside0.mk (blk_below (g := gb129) (o := .cells #[.bool false, .int .i64 0, .slice none 0 0, .bool false, .bool false, .slice none 0 0, .int .i64 2, .int .i64 0, .int .i64 0, .int .i64 0, .slice none 0 0, .int .i64 3, .int .i64 0, .int .i64 0] 50 (0, 0)) (by (with_reducible repeat (first | refine blk_drewN ?_ _ | refine blk_drew ?_ | refine blk_alloc ?_ _)); exact BK129.out) hb); have n6_ := Aside0.mk (blk_below (g := gb133) (o := .cells #[.int .i64 0, .int .i64 1, .slice Ao14 y130.length co14] 24 (0, 0)) (by (with_reducible repeat (first | refine blk_drewN ?_ _ | refine blk_drew ?_ | refine blk_alloc ?_ _)); exact BK133.out) hb); have n7_ := Aside0.mk (below_step (by repeat (first | (with_reducible first | exact HB.out | apply below_alloc | apply pw_below_drewN | apply below_drew1 | refine below_set ?_ GE129.out | refine below_set ?_ GE133.out) | exact HB.out)) hb); clear HO132; clear HO136; clear HO139; clear HO143; clear HO146; clear BK129; clear BK133; clear HB; have HO132 := n0_; have HO136 := n1_; have HO139 := n2_; have HO143 := n3_; have HO146 := n4_; have BK129 := n5_; have BK133 := n6_; have HB := n7_; clear n0_ n1_ n2_ n3_ n4_ n5_ n6_ n7_; (try clear hb); (try clear hb2); (try clear hk); (try clear hi); have hcz31_0 : w30.cell? ⟨gb133, 0, none⟩ = some (.int .i64 0) := (blk_cell BK133.out 0).trans rfl; have hcz31_1 : w30.cell? ⟨gb133, 1, none⟩ = some (.int .i64 1) := (blk_cell BK133.out 1).trans rfl; have hcz31_2 : w30.cell? ⟨gb133, 2, none⟩ = some (.slice Ao14 y130.length co14) := (blk_cell BK133.out 2).trans rfl; have hfz31_0 := blk_frozen BK133.out 0; have hfz31_1 := blk_frozen BK133.out 1; have hfz31_2 := blk_frozen BK133.out 2) | (go_at_call 15; (with_reducible refine (dom_Is.calls k 0 1 _ _ y130 1 3 t149 _ ?side1 ?side2 A9.out).mono ?_); (case side1 => repeat (first | exact (Kd.R_reads' HO132.out).2.2 | (with_reducible refine Kd.C_alloc ?_ _) | (with_reducible refine Kd.C_drewN ?_ _) | (with_reducible refine Kd.C_drew ?_))); (case side2 => exact (Kd.R_reads' HO132.out).2.1); rintro e w32 ⟨rfl, hb⟩; have n0_ := Aside0.mk (Kd.R_below (by (with_reducible repeat (first | apply Kd.R_alloc | apply Kd.R_drewN | apply Kd.R_drew)); exact HO132.out) hb); have n1_ := Aside0.mk (Kd.R_below (by (with_reducible repeat (first | apply Kd.R_alloc | apply Kd.R_drewN | apply Kd.R_drew)); exact HO136.out) hb); have n2_ := Aside0.mk (Kd.R_below (by (with_reducible repeat (first | apply Kd.R_alloc | apply Kd.R_drewN | apply Kd.R_drew)); exact HO139.out) hb); have n3_ := Aside0.mk (Kd.R_below (by (with_reducible repeat (first | apply Kd.R_alloc | apply Kd.R_drewN | apply Kd.R_drew)); exact HO143.out) hb); have n4_ := Aside0.mk (Kd.R_below (by (with_reducible repeat (first | apply Kd.R_alloc | apply Kd.R_drewN | apply Kd.R_drew)); exact HO146.out) hb); have n5_ := Aside0.mk (blk_below (g := gb129) (o := .cells #[.bool false, .int .i64 0, .slice none 0 0, .bool false, .bool false, .slice none 0 0, .int .i64 2, .int .i64 0, .int .i64 0, .int .i64 0, .slice none 0 0, .int .i64 3, .int .i64 0, .int .i64 0] 50 (0, 0)) (by (with_reducible repeat (first | refine blk_drewN ?_ _ | refine blk_drew ?_ | refine blk_alloc ?_ _)); exact BK129.out) hb); have n6_ := Aside0.mk (blk_below (g := gb133) (o := .cells #[.int .i64 0, .int .i64 1, .slice Ao14 y130.length co14] 24 (0, 0)) (by (with_reducible repeat (first | refine blk_drewN ?_ _ | refine blk_drew ?_ | refine blk_alloc ?_ _)); exact BK133.out) hb); have n7_ := Aside0.mk (below_step (by repeat (first | (with_reducible first | exact HB.out | apply below_alloc | apply pw_below_drewN | apply below_drew1 | refine below_set ?_ GE129.out | refine below_set ?_ GE133.out) | exact HB.out)) hb); clear HO132; clear HO136; clear HO139; clear HO143; clear HO146; clear BK129; clear BK133; clear HB; have HO132 := n0_; have HO136 := n1_; have HO139 := n2_; have HO143 := n3_; have HO146 := n4_; have BK129 := n5_; have BK133 := n6_; have HB := n7_; clear n0_ n1_ n2_ n3_ n4_ n5_ n6_ n7_; (try clear hb); (try clear hb2); (try clear hk); (try clear hi)))
    go_ret
    exact ⟨by first | rfl | (simp [errW_none, errW_some] <;> rfl) | (simp [*, errW_none, errW_some] <;> rfl), by repeat (first | (with_reducible first | exact HB.out | apply below_alloc | apply pw_below_drewN | apply below_drew1 | refine below_set ?_ GE129.out | refine below_set ?_ GE133.out) | exact HB.out)⟩
   ·replace c8 := Bool.eq_false_iff.mpr c8
    subst c8
    have H1 : (some false) = some r := by rw [if_neg (show ¬ (false = true) by decide)] at H; exact H
    clear H
    have H := H1
    clear H1
    obtain rfl := Option.some.inj H
    go_enter Try.func11, Try.ntmps11
    go_wp2_with (first | ((with_reducible refine gate_dst (N := 1) rfl ?_); (try (refine gate_guard (by rfl) ?_; dsimp only)); refine box_event ?hg (N := 1) ?hd (cs := #[.bool false, .int .i64 0, .slice none 0 0, .bool false, .bool false, .slice none 0 0, .int .i64 0, .int .i64 0, .int .i64 0, .int .i64 0, .slice none 0 0, .int .i64 0, .int .i64 0, .int .i64 0]) (t := 50) ?hr ?_; (case hd => rfl); (case hg => rfl); (case hr => first | (go_simp; done) | (go_simp; rfl)); intro gb129 hg w33 hbox hb; have n0_ := Aside0.mk (below_step (by repeat (first | (with_reducible first | exact HB.out | apply below_alloc | apply pw_below_drewN | apply below_drew1) | exact HB.out)) hb); have n1_ := Aside0.mk (hbox); have n2_ := Aside0.mk ((by rw [hg]; exact (below_size (by repeat (first | (with_reducible first | exact HB.out | apply below_alloc | apply pw_below_drewN | apply below_drew1) | exact HB.out))) : w.heap.size ≤ gb129)); have n3_ := Aside0.mk ((by rw [hg]; exact (below_size (by repeat (first | (with_reducible first | exact HB.out | apply below_alloc | apply pw_below_drewN | apply below_drew1) | exact HB.out))) : w.heap.size ≤ gb129)); clear HB; have HB := n0_; have BK129 := n1_; have GW129 := n2_; have GE129 := n3_; clear n0_ n1_ n2_ n3_; clear hb hbox hg; have hcz34_0 : w33.cell? ⟨gb129, 0, none⟩ = some (.bool false) := (blk_cell BK129.out 0).trans rfl; have hcz34_1 : w33.cell? ⟨gb129, 1, none⟩ = some (.int .i64 0) := (blk_cell BK129.out 1).trans rfl; have hcz34_2 : w33.cell? ⟨gb129, 2, none⟩ = some (.slice none 0 0) := (blk_cell BK129.out 2).trans rfl; have hcz34_3 : w33.cell? ⟨gb129, 3, none⟩ = some (.bool false) := (blk_cell BK129.out 3).trans rfl; have hcz34_4 : w33.cell? ⟨gb129, 4, none⟩ = some (.bool false) := (blk_cell BK129.out 4).trans rfl; have hcz34_5 : w33.cell? ⟨gb129, 5, none⟩ = some (.slice none 0 0) := (blk_cell BK129.out 5).trans rfl; have hcz34_6 : w33.cell? ⟨gb129, 6, none⟩ = some (.int .i64 0) := (blk_cell BK129.out 6).trans rfl; have hcz34_7 : w33.cell? ⟨gb129, 7, none⟩ = some (.int .i64 0) := (blk_cell BK129.out 7).trans rfl; have hcz34_8 : w33.cell? ⟨gb129, 8, none⟩ = some (.int .i64 0) := (blk_cell BK129.out 8).trans rfl; have hcz34_9 : w33.cell? ⟨gb129, 9, none⟩ = some (.int .i64 0) := (blk_cell BK129.out 9).trans rfl; have hcz34_10 : w33.cell? ⟨gb129, 10, none⟩ = some (.slice none 0 0) := (blk_cell BK129.out 10).trans rfl; have hcz34_11 : w33.cell? ⟨gb129, 11, none⟩ = some (.int .i64 0) := (blk_cell BK129.out 11).trans rfl; have hcz34_12 : w33.cell? ⟨gb129, 12, none⟩ = some (.int .i64 0) := (blk_cell BK129.out 12).trans rfl; have hcz34_13 : w33.cell? ⟨gb129, 13, none⟩ = some (.int .i64 0) := (blk_cell BK129.out 13).trans rfl; have hfz34_0 := blk_frozen BK129.out 0; have hfz34_1 := blk_frozen BK129.out 1; have hfz34_2 := blk_frozen BK129.out 2; have hfz34_3 := blk_frozen BK129.out 3; have hfz34_4 := blk_frozen BK129.out 4; have hfz34_5 := blk_frozen BK129.out 5; have hfz34_6 := blk_frozen BK129.out 6; have hfz34_7 := blk_frozen BK129.out 7; have hfz34_8 := blk_frozen BK129.out 8; have hfz34_9 := blk_frozen BK129.out 9; have hfz34_10 := blk_frozen BK129.out 10; have hfz34_11 := blk_frozen BK129.out 11; have hfz34_12 := blk_frozen BK129.out 12; have hfz34_13 := blk_frozen BK129.out 13) | ((with_reducible refine gate_dst (N := 11) rfl ?_); (try (refine gate_guard (by rfl) ?_; dsimp only)); refine Kd.R_lit k50 _ 50 ?hg (N := 11) ?hd (xs := ([(⟨false, (⟨0, ([] : List Int), false, false⟩ : S47), ([] : List (S117)), (⟨3, 0, 0, 0, ([] : List Int), 1, 2, 0⟩ : S44)⟩ : S50), (⟨false, (⟨0, ([] : List Int), false, false⟩ : S47), ([] : List (S117)), (⟨2, 0, 0, 0, ([] : List Int), 3, 0, 0⟩ : S44)⟩ : S50), (⟨false, (⟨0, ([] : List Int), false, false⟩ : S47), ([] : List (S117)), (⟨2, 0, 0, 0, ([] : List Int), 3, 0, 0⟩ : S44)⟩ : S50), (⟨false, (⟨0, ([] : List Int), false, false⟩ : S47), ([] : List (S117)), (⟨1, 0, 0, 0, ([] : List Int), 0, 0, 0⟩ : S44)⟩ : S50)] : List (S50))) (inner := [.bool false, .int .i64 0, .slice none 0 0, .bool false, .bool false, .slice none 0 0, .int .i64 3, .int .i64 0, .int .i64 0, .int .i64 0, .slice none 0 0, .int .i64 1, .int .i64 2, .int .i64 0, .bool false, .int .i64 0, .slice none 0 0, .bool false, .bool false, .slice none 0 0, .int .i64 2, .int .i64 0, .int .i64 0, .int .i64 0, .slice none 0 0, .int .i64 3, .int .i64 0, .int .i64 0, .bool false, .int .i64 0, .slice none 0 0, .bool false, .bool false, .slice none 0 0, .int .i64 2, .int .i64 0, .int .i64 0, .int .i64 0, .slice none 0 0, .int .i64 3, .int .i64 0, .int .i64 0, .bool false, .int .i64 0, .slice none 0 0, .bool false, .bool false, .slice none 0 0, .int .i64 1, .int .i64 0, .int .i64 0, .int .i64 0, .slice none 0 0, .int .i64 0, .int .i64 0, .int .i64 0]) (ok := fun _ => True) (okp := fun _ => True) ?hr ?hp (fun _ hk => hk) trivial (Below.refl _ _) (Nat.le_refl _) (by simp) ?_; (case hd => rfl); (case hg => rfl); (case hr => first | (go_simp; done) | (go_simp; rfl)); (case hp => exact (Reps.front (show Kd.M k50 _ _ _ (⟨false, (⟨0, ([] : List Int), false, false⟩ : S47), ([] : List (S117)), (⟨3, 0, 0, 0, ([] : List Int), 1, 2, 0⟩ : S44)⟩ : S50) [.bool false, .int .i64 0, .slice none 0 0, .bool false, .bool false, .slice none 0 0, .int .i64 3, .int .i64 0, .int .i64 0, .int .i64 0, .slice none 0 0, .int .i64 1, .int .i64 2, .int .i64 0] from (k50_mkM _ _ _ (⟨false, (⟨0, ([] : List Int), false, false⟩ : S47), ([] : List (S117)), (⟨3, 0, 0, 0, ([] : List Int), 1, 2, 0⟩ : S44)⟩ : S50) (Kd.R_nil _ _ _ _ _) (Kd.R_nil _ _ _ _ _) (Kd.R_nil _ _ _ _ _))) rfl (Reps.front (show Kd.M k50 _ _ _ (⟨false, (⟨0, ([] : List Int), false, false⟩ : S47), ([] : List (S117)), (⟨2, 0, 0, 0, ([] : List Int), 3, 0, 0⟩ : S44)⟩ : S50) [.bool false, .int .i64 0, .slice none 0 0, .bool false, .bool false, .slice none 0 0, .int .i64 2, .int .i64 0, .int .i64 0, .int .i64 0, .slice none 0 0, .int .i64 3, .int .i64 0, .int .i64 0] from (k50_mkM _ _ _ (⟨false, (⟨0, ([] : List Int), false, false⟩ : S47), ([] : List (S117)), (⟨2, 0, 0, 0, ([] : List Int), 3, 0, 0⟩ : S44)⟩ : S50) (Kd.R_nil _ _ _ _ _) (Kd.R_nil _ _ _ _ _) (Kd.R_nil _ _ _ _ _))) rfl (Reps.front (show Kd.M k50 _ _ _ (⟨false, (⟨0, ([] : List Int), false, false⟩ : S47), ([] : List (S117)), (⟨2, 0, 0, 0, ([] : List Int), 3, 0, 0⟩ : S44)⟩ : S50) [.bool false, .int .i64 0, .slice none 0 0, .bool false, .bool false, .slice none 0 0, .int .i64 2, .int .i64 0, .int .i64 0, .int .i64 0, .slice none 0 0, .int .i64 3, .int .i64 0, .int .i64 0] from (k50_mkM _ _ _ (⟨false, (⟨0, ([] : List Int), false, false⟩ : S47), ([] : List (S117)), (⟨2, 0, 0, 0, ([] : List Int), 3, 0, 0⟩ : S44)⟩ : S50) (Kd.R_nil _ _ _ _ _) (Kd.R_nil _ _ _ _ _) (Kd.R_nil _ _ _ _ _))) rfl (Reps.front (show Kd.M k50 _ _ _ (⟨false, (⟨0, ([] : List Int), false, false⟩ : S47), ([] : List (S117)), (⟨1, 0, 0, 0, ([] : List Int), 0, 0, 0⟩ : S44)⟩ : S50) [.bool false, .int .i64 0, .slice none 0 0, .bool false, .bool false, .slice none 0 0, .int .i64 1, .int .i64 0, .int .i64 0, .int .i64 0, .slice none 0 0, .int .i64 0, .int .i64 0, .int .i64 0] from (k50_mkM _ _ _ (⟨false, (⟨0, ([] : List Int), false, false⟩ : S47), ([] : List (S117)), (⟨1, 0, 0, 0, ([] : List Int), 0, 0, 0⟩ : S44)⟩ : S50) (Kd.R_nil _ _ _ _ _) (Kd.R_nil _ _ _ _ _) (Kd.R_nil _ _ _ _ _))) rfl (Reps.none _ _) rfl) rfl) rfl) rfl)); intro v131 w35 ho36 hb hg_ hnew_; clear hg_ hnew_; (first | rw [← Ny130.out] at ho36 | (simp only [Int.reduceToNat] at ho36; rw [← Ny130.out] at ho36)); have n0_ := Aside0.mk (Kd.R_lower (Kd.R_newB ho36 (g := gb129) (o := .cells #[.bool false, .int .i64 0, .slice none 0 0, .bool false, .bool false, .slice none 0 0, .int .i64 2, .int .i64 0, .int .i64 0, .int .i64 0, .slice none 0 0, .int .i64 3, .int .i64 0, .int .i64 0] 50 (0, 0)) (by (with_reducible repeat (first | refine blk_drewN ?_ _ | refine blk_drew ?_ | refine blk_alloc ?_ _)); refine blk_put (cs := #[.bool false, .int .i64 0, .slice none 0 0, .bool false, .bool false, .slice none 0 0, .int .i64 2, .int .i64 0, .int .i64 0, .int .i64 0, .slice none 0 0, .int .i64 3, .int .i64 0, .int .i64 0]) ?_ 13 _ rfl; (with_reducible repeat (first | refine blk_drewN ?_ _ | refine blk_drew ?_ | refine blk_alloc ?_ _)); refine blk_put (cs := #[.bool false, .int .i64 0, .slice none 0 0, .bool false, .bool false, .slice none 0 0, .int .i64 2, .int .i64 0, .int .i64 0, .int .i64 0, .slice none 0 0, .int .i64 3, .int .i64 0, .int .i64 0]) ?_ 12 _ rfl; (with_reducible repeat (first | refine blk_drewN ?_ _ | refine blk_drew ?_ | refine blk_alloc ?_ _)); refine blk_put (cs := #[.bool false, .int .i64 0, .slice none 0 0, .bool false, .bool false, .slice none 0 0, .int .i64 2, .int .i64 0, .int .i64 0, .int .i64 0, .slice none 0 0, .int .i64 0, .int .i64 0, .int .i64 0]) ?_ 11 _ rfl; (with_reducible repeat (first | refine blk_drewN ?_ _ | refine blk_drew ?_ | refine blk_alloc ?_ _)); refine blk_put (cs := #[.bool false, .int .i64 0, .slice none 0 0, .bool false, .bool false, .slice none 0 0, .int .i64 2, .int .i64 0, .int .i64 0, .int .i64 0, .slice none 0 0, .int .i64 0, .int .i64 0, .int .i64 0]) ?_ 10 _ rfl; (with_reducible repeat (first | refine blk_drewN ?_ _ | refine blk_drew ?_ | refine blk_alloc ?_ _)); refine blk_put (cs := #[.bool false, .int .i64 0, .slice none 0 0, .bool false, .bool false, .slice none 0 0, .int .i64 2, .int .i64 0, .int .i64 0, .int .i64 0, .slice none 0 0, .int .i64 0, .int .i64 0, .int .i64 0]) ?_ 9 _ rfl; (with_reducible repeat (first | refine blk_drewN ?_ _ | refine blk_drew ?_ | refine blk_alloc ?_ _)); refine blk_put (cs := #[.bool false, .int .i64 0, .slice none 0 0, .bool false, .bool false, .slice none 0 0, .int .i64 2, .int .i64 0, .int .i64 0, .int .i64 0, .slice none 0 0, .int .i64 0, .int .i64 0, .int .i64 0]) ?_ 8 _ rfl; (with_reducible repeat (first | refine blk_drewN ?_ _ | refine blk_drew ?_ | refine blk_alloc ?_ _)); refine blk_put (cs := #[.bool false, .int .i64 0, .slice none 0 0, .bool false, .bool false, .slice none 0 0, .int .i64 2, .int .i64 0, .int .i64 0, .int .i64 0, .slice none 0 0, .int .i64 0, .int .i64 0, .int .i64 0]) ?_ 7 _ rfl; (with_reducible repeat (first | refine blk_drewN ?_ _ | refine blk_drew ?_ | refine blk_alloc ?_ _)); refine blk_put (cs := #[.bool false, .int .i64 0, .slice none 0 0, .bool false, .bool false, .slice none 0 0, .int .i64 0, .int .i64 0, .int .i64 0, .int .i64 0, .slice none 0 0, .int .i64 0, .int .i64 0, .int .i64 0]) ?_ 6 _ rfl; (with_reducible repeat (first | refine blk_drewN ?_ _ | refine blk_drew ?_ | refine blk_alloc ?_ _)); refine blk_put (cs := #[.bool false, .int .i64 0, .slice none 0 0, .bool false, .bool false, .slice none 0 0, .int .i64 0, .int .i64 0, .int .i64 0, .int .i64 0, .slice none 0 0, .int .i64 0, .int .i64 0, .int .i64 0]) ?_ 5 _ rfl; (with_reducible repeat (first | refine blk_drewN ?_ _ | refine blk_drew ?_ | refine blk_alloc ?_ _)); refine blk_put (cs := #[.bool false, .int .i64 0, .slice none 0 0, .bool false, .bool false, .slice none 0 0, .int .i64 0, .int .i64 0, .int .i64 0, .int .i64 0, .slice none 0 0, .int .i64 0, .int .i64 0, .int .i64 0]) ?_ 4 _ rfl; (with_reducible repeat (first | refine blk_drewN ?_ _ | refine blk_drew ?_ | refine blk_alloc ?_ _)); refine blk_put (cs := #[.bool false, .int .i64 0, .slice none 0 0, .bool false, .bool false, .slice none 0 0, .int .i64 0, .int .i64 0, .int .i64 0, .int .i64 0, .slice none 0 0, .int .i64 0, .int .i64 0, .int .i64 0]) ?_ 3 _ rfl; (with_reducible repeat (first | refine blk_drewN ?_ _ | refine blk_drew ?_ | refine blk_alloc ?_ _)); refine blk_put (cs := #[.bool false, .int .i64 0, .slice none 0 0, .bool false, .bool false, .slice none 0 0, .int .i64 0, .int .i64 0, .int .i64 0, .int .i64 0, .slice none 0 0, .int .i64 0, .int .i64 0, .int .i64 0]) ?_ 2 _ rfl; (with_reducible repeat (first | refine blk_drewN ?_ _ | refine blk_drew ?_ | refine blk_alloc ?_ _)); refine blk_put (cs := #[.bool false, .int .i64 0, .slice none 0 0, .bool false, .bool false, .slice none 0 0, .int .i64 0, .int .i64 0, .int .i64 0, .int .i64 0, .slice none 0 0, .int .i64 0, .int .i64 0, .int .i64 0]) ?_ 1 _ rfl; (with_reducible repeat (first | refine blk_drewN ?_ _ | refine blk_drew ?_ | refine blk_alloc ?_ _)); refine blk_put (cs := #[.bool false, .int .i64 0, .slice none 0 0, .bool false, .bool false, .slice none 0 0, .int .i64 0, .int .i64 0, .int .i64 0, .int .i64 0, .slice none 0 0, .int .i64 0, .int .i64 0, .int .i64 0]) ?_ 0 _ rfl; (with_reducible repeat (first | refine blk_drewN ?_ _ | refine blk_drew ?_ | refine blk_alloc ?_ _)); exact BK129.out)) (below_size (by repeat (first | (with_reducible first | exact HB.out | apply below_alloc | apply pw_below_drewN | apply below_drew1 | refine below_set ?_ GE129.out) | exact HB.out)))); have n1_ := Aside0.mk (blk_below (g := gb129) (o := .cells #[.bool false, .int .i64 0, .slice none 0 0, .bool false, .bool false, .slice none 0 0, .int .i64 2, .int .i64 0, .int .i64 0, .int .i64 0, .slice none 0 0, .int .i64 3, .int .i64 0, .int .i64 0] 50 (0, 0)) (by (with_reducible repeat (first | refine blk_drewN ?_ _ | refine blk_drew ?_ | refine blk_alloc ?_ _)); refine blk_put (cs := #[.bool false, .int .i64 0, .slice none 0 0, .bool false, .bool false, .slice none 0 0, .int .i64 2, .int .i64 0, .int .i64 0, .int .i64 0, .slice none 0 0, .int .i64 3, .int .i64 0, .int .i64 0]) ?_ 13 _ rfl; (with_reducible repeat (first | refine blk_drewN ?_ _ | refine blk_drew ?_ | refine blk_alloc ?_ _)); refine blk_put (cs := #[.bool false, .int .i64 0, .slice none 0 0, .bool false, .bool false, .slice none 0 0, .int .i64 2, .int .i64 0, .int .i64 0, .int .i64 0, .slice none 0 0, .int .i64 3, .int .i64 0, .int .i64 0]) ?_ 12 _ rfl; (with_reducible repeat (first | refine blk_drewN ?_ _ | refine blk_drew ?_ | refine blk_alloc ?_ _)); refine blk_put (cs := #[.bool false, .int .i64 0, .slice none 0 0, .bool false, .bool false, .slice none 0 0, .int .i64 2, .int .i64 0, .int .i64 0, .int .i64 0, .slice none 0 0, .int .i64 0, .int .i64 0, .int .i64 0]) ?_ 11 _ rfl; (with_reducible repeat (first | refine blk_drewN ?_ _ | refine blk_drew ?_ | refine blk_alloc ?_ _)); refine blk_put (cs := #[.bool false, .int .i64 0, .slice none 0 0, .bool false, .bool false, .slice none 0 0, .int .i64 2, .int .i64 0, .int .i64 0, .int .i64 0, .slice none 0 0, .int .i64 0, .int .i64 0, .int .i64 0]) ?_ 10 _ rfl; (with_reducible repeat (first | refine blk_drewN ?_ _ | refine blk_drew ?_ | refine blk_alloc ?_ _)); refine blk_put (cs := #[.bool false, .int .i64 0, .slice none 0 0, .bool false, .bool false, .slice none 0 0, .int .i64 2, .int .i64 0, .int .i64 0, .int .i64 0, .slice none 0 0, .int .i64 0, .int .i64 0, .int .i64 0]) ?_ 9 _ rfl; (with_reducible repeat (first | refine blk_drewN ?_ _ | refine blk_drew ?_ | refine blk_alloc ?_ _)); refine blk_put (cs := #[.bool false, .int .i64 0, .slice none 0 0, .bool false, .bool false, .slice none 0 0, .int .i64 2, .int .i64 0, .int .i64 0, .int .i64 0, .slice none 0 0, .int .i64 0, .int .i64 0, .int .i64 0]) ?_ 8 _ rfl; (with_reducible repeat (first | refine blk_drewN ?_ _ | refine blk_drew ?_ | refine blk_alloc ?_ _)); refine blk_put (cs := #[.bool false, .int .i64 0, .slice none 0 0, .bool false, .bool false, .slice none 0 0, .int .i64 2, .int .i64 0, .int .i64 0, .int .i64 0, .slice none 0 0, .int .i64 0, .int .i64 0, .int .i64 0]) ?_ 7 _ rfl; (with_reducible repeat (first | refine blk_drewN ?_ _ | refine blk_drew ?_ | refine blk_alloc ?_ _)); refine blk_put (cs := #[.bool false, .int .i64 0, .slice none 0 0, .bool false, .bool false, .slice none 0 0, .int .i64 0, .int .i64 0, .int .i64 0, .int .i64 0, .slice none 0 0, .int .i64 0, .int .i64 0, .int .i64 0]) ?_ 6 _ rfl; (with_reducible repeat (first | refine blk_drewN ?_ _ | refine blk_drew ?_ | refine blk_alloc ?_ _)); refine blk_put (cs := #[.bool false, .int .i64 0, .slice none 0 0, .bool false, .bool false, .slice none 0 0, .int .i64 0, .int .i64 0, .int .i64 0, .int .i64 0, .slice none 0 0, .int .i64 0, .int .i64 0, .int .i64 0]) ?_ 5 _ rfl; (with_reducible repeat (first | refine blk_drewN ?_ _ | refine blk_drew ?_ | refine blk_alloc ?_ _)); refine blk_put (cs := #[.bool false, .int .i64 0, .slice none 0 0, .bool false, .bool false, .slice none 0 0, .int .i64 0, .int .i64 0, .int .i64 0, .int .i64 0, .slice none 0 0, .int .i64 0, .int .i64 0, .int .i64 0]) ?_ 4 _ rfl; (with_reducible repeat (first | refine blk_drewN ?_ _ | refine blk_drew ?_ | refine blk_alloc ?_ _)); refine blk_put (cs := #[.bool false, .int .i64 0, .slice none 0 0, .bool false, .bool false, .slice none 0 0, .int .i64 0, .int .i64 0, .int .i64 0, .int .i64 0, .slice none 0 0, .int .i64 0, .int .i64 0, .int .i64 0]) ?_ 3 _ rfl; (with_reducible repeat (first | refine blk_drewN ?_ _ | refine blk_drew ?_ | refine blk_alloc ?_ _)); refine blk_put (cs := #[.bool false, .int .i64 0, .slice none 0 0, .bool false, .bool false, .slice none 0 0, .int .i64 0, .int .i64 0, .int .i64 0, .int .i64 0, .slice none 0 0, .int .i64 0, .int .i64 0, .int .i64 0]) ?_ 2 _ rfl; (with_reducible repeat (first | refine blk_drewN ?_ _ | refine blk_drew ?_ | refine blk_alloc ?_ _)); refine blk_put (cs := #[.bool false, .int .i64 0, .slice none 0 0, .bool false, .bool false, .slice none 0 0, .int .i64 0, .int .i64 0, .int .i64 0, .int .i64 0, .slice none 0 0, .int .i64 0, .int .i64 0, .int .i64 0]) ?_ 1 _ rfl; (with_reducible repeat (first | refine blk_drewN ?_ _ | refine blk_drew ?_ | refine blk_alloc ?_ _)); refine blk_put (cs := #[.bool false, .int .i64 0, .slice none 0 0, .bool false, .bool false, .slice none 0 0, .int .i64 0, .int .i64 0, .int .i64 0, .int .i64 0, .slice none 0 0, .int .i64 0, .int .i64 0, .int .i64 0]) ?_ 0 _ rfl; (with_reducible repeat (first | refine blk_drewN ?_ _ | refine blk_drew ?_ | refine blk_alloc ?_ _)); exact BK129.out) hb); have n2_ := Aside0.mk (below_step (by repeat (first | (with_reducible first | exact HB.out | apply below_alloc | apply pw_below_drewN | apply below_drew1 | refine below_set ?_ GE129.out) | exact HB.out)) hb); clear BK129; clear HB; have HO132 := n0_; have BK129 := n1_; have HB := n2_; clear n0_ n1_ n2_; clear hb ho36; obtain ⟨Ao37, co37, eo37⟩ := Kd.R_slice HO132.out; subst eo37) | ((with_reducible refine gate_dst (N := 2) rfl ?_); (try (refine gate_guard (by rfl) ?_; dsimp only)); refine box_event ?hg (N := 2) ?hd (cs := #[.int .i64 0, .int .i64 0, .slice none 0 0]) (t := 24) ?hr ?_; (case hd => rfl); (case hg => rfl); (case hr => first | (go_simp; done) | (go_simp; rfl)); intro gb133 hg w38 hbox hb; have n0_ := Aside0.mk (Kd.R_below (by (with_reducible repeat (first | apply Kd.R_alloc | apply Kd.R_drewN | apply Kd.R_drew)); exact HO132.out) hb); have n1_ := Aside0.mk (blk_below (g := gb129) (o := .cells #[.bool false, .int .i64 0, .slice none 0 0, .bool false, .bool false, .slice none 0 0, .int .i64 2, .int .i64 0, .int .i64 0, .int .i64 0, .slice none 0 0, .int .i64 3, .int .i64 0, .int .i64 0] 50 (0, 0)) (by (with_reducible repeat (first | refine blk_drewN ?_ _ | refine blk_drew ?_ | refine blk_alloc ?_ _)); exact BK129.out) hb); have n2_ := Aside0.mk (below_step (by repeat (first | (with_reducible first | exact HB.out | apply below_alloc | apply pw_below_drewN | apply below_drew1 | refine below_set ?_ GE129.out) | exact HB.out)) hb); have n3_ := Aside0.mk (hbox); have n4_ := Aside0.mk ((by rw [hg]; exact (below_size (by repeat (first | (with_reducible first | exact HB.out | apply below_alloc | apply pw_below_drewN | apply below_drew1 | refine below_set ?_ GE129.out) | exact HB.out))) : w.heap.size ≤ gb133)); have n5_ := Aside0.mk ((by rw [hg]; exact (below_size (by repeat (first | (with_reducible first | exact HB.out | apply below_alloc | apply pw_below_drewN | apply below_drew1 | refine below_set ?_ GE129.out) | exact HB.out))) : w.heap.size ≤ gb133)); have n6_ := Aside0.mk ((by rw [hg]; exact Nat.ne_of_lt (blk_lt (g := gb129) (o := .cells #[.bool false, .int .i64 0, .slice none 0 0, .bool false, .bool false, .slice none 0 0, .int .i64 2, .int .i64 0, .int .i64 0, .int .i64 0, .slice none 0 0, .int .i64 3, .int .i64 0, .int .i64 0] 50 (0, 0)) (by (with_reducible repeat (first | refine blk_drewN ?_ _ | refine blk_drew ?_ | refine blk_alloc ?_ _)); exact BK129.out)) : gb129 ≠ gb133)); have n7_ := Aside0.mk ((by rw [hg]; exact Nat.ne_of_gt (blk_lt (g := gb129) (o := .cells #[.bool false, .int .i64 0, .slice none 0 0, .bool false, .bool false, .slice none 0 0, .int .i64 2, .int .i64 0, .int .i64 0, .int .i64 0, .slice none 0 0, .int .i64 3, .int .i64 0, .int .i64 0] 50 (0, 0)) (by (with_reducible repeat (first | refine blk_drewN ?_ _ | refine blk_drew ?_ | refine blk_alloc ?_ _)); exact BK129.out)) : gb133 ≠ gb129)); clear HO132; clear BK129; clear HB; have HO132 := n0_; have BK129 := n1_; have HB := n2_; have BK133 := n3_; have GW133 := n4_; have GE133 := n5_; have NB129_133 := n6_; have NB133_129 := n7_; clear n0_ n1_ n2_ n3_ n4_ n5_ n6_ n7_; clear hb hbox hg; have hnb39 := NB133_129.out; have hnc39 := NB129_133.out; have hcz40_0 : w38.cell? ⟨gb133, 0, none⟩ = some (.int .i64 0) := (blk_cell BK133.out 0).trans rfl; have hcz40_1 : w38.cell? ⟨gb133, 1, none⟩ = some (.int .i64 0) := (blk_cell BK133.out 1).trans rfl; have hcz40_2 : w38.cell? ⟨gb133, 2, none⟩ = some (.slice none 0 0) := (blk_cell BK133.out 2).trans rfl; have hfz40_0 := blk_frozen BK133.out 0; have hfz40_1 := blk_frozen BK133.out 1; have hfz40_2 := blk_frozen BK133.out 2) | ((with_reducible refine gate_callee (f := 13) rfl ?_); refine goesL_ (some 14) rfl rfl Try.func13 (by kernel_rfl) rfl #[.agg #[.int .i64 0, .int .i64 1, .slice Ao37 y130.length co37]] rfl (by (try simp only [List.map_toArray, List.map_cons, List.map_nil]); first | done | rfl | (simp only [List.length_drop, List.length_take]; rfl)) ?_; (with_reducible refine (dom_Over.calls 0 1 _ _ y130 t134 _ ?side1 ?side2 A1.out).mono ?_); (case side1 => refine (Kd.R_reads' (e := 50) (base := w.heap.size) (ok := fun k_ => (True ∧ k_ ≠ gb129)) (n := y130.length) (c := co37) ?_).2.2; exact (by (with_reducible repeat (first | apply Kd.R_alloc | apply Kd.R_drewN | apply Kd.R_drew)); exact (Kd.R_mono (Kd.R_far (p := ⟨gb133, 2, none⟩) (Kd.R_far (p := ⟨gb133, 1, none⟩) (Kd.R_far (p := ⟨gb133, 0, none⟩) (Kd.R_types HO132.out BK133.out (by decide)) (fun _ hk => hk.2) (.int .i64 0)) (fun _ hk => hk.2) (.int .i64 1)) (fun _ hk => hk.2) (.slice Ao37 y130.length co37)) (fun _ h_ => h_.1)))); (case side2 => exact (Kd.R_reads' HO132.out).2.1); rintro e w41 ⟨v135, rfl, ho0, hb⟩; refine ⟨_, rfl, ?_⟩; have n0_ := Aside0.mk (Kd.R_elder' (by (with_reducible repeat (first | apply Kd.R_alloc | apply Kd.R_drewN | apply Kd.R_drew)); exact (Kd.R_mono (Kd.R_far (p := ⟨gb133, 2, none⟩) (Kd.R_far (p := ⟨gb133, 1, none⟩) (Kd.R_far (p := ⟨gb133, 0, none⟩) (Kd.R_types HO132.out BK133.out (by decide)) (fun _ hk => hk.2) (.int .i64 0)) (fun _ hk => hk.2) (.int .i64 1)) (fun _ hk => hk.2) (.slice Ao37 y130.length co37)) (fun _ h_ => h_.1))) (Kd.R_base ho0) hb); have n1_ := Aside0.mk (Kd.R_lower ho0 (below_size (by repeat (first | (with_reducible first | exact HB.out | apply below_alloc | apply pw_below_drewN | apply below_drew1 | refine below_set ?_ GE129.out | refine below_set ?_ GE133.out) | exact HB.out)))); have n2_ := Aside0.mk (blk_below (g := gb129) (o := .cells #[.bool false, .int .i64 0, .slice none 0 0, .bool false, .bool false, .slice none 0 0, .int .i64 2, .int .i64 0, .int .i64 0, .int .i64 0, .slice none 0 0, .int .i64 3, .int .i64 0, .int .i64 0] 50 (0, 0)) (by (with_reducible repeat (first | refine blk_drewN ?_ _ | refine blk_drew ?_ | refine blk_alloc ?_ _)); refine blk_far ?_ NB129_133.out _; (with_reducible repeat (first | refine blk_drewN ?_ _ | refine blk_drew ?_ | refine blk_alloc ?_ _)); refine blk_far ?_ NB129_133.out _; (with_reducible repeat (first | refine blk_drewN ?_ _ | refine blk_drew ?_ | refine blk_alloc ?_ _)); refine blk_far ?_ NB129_133.out _; (with_reducible repeat (first | refine blk_drewN ?_ _ | refine blk_drew ?_ | refine blk_alloc ?_ _)); exact BK129.out) hb); have n3_ := Aside0.mk (blk_below (g := gb133) (o := .cells #[.int .i64 0, .int .i64 1, .slice Ao37 y130.length co37] 24 (0, 0)) (by (with_reducible repeat (first | refine blk_drewN ?_ _ | refine blk_drew ?_ | refine blk_alloc ?_ _)); refine blk_put (cs := #[.int .i64 0, .int .i64 1, .slice none 0 0]) ?_ 2 _ rfl; (with_reducible repeat (first | refine blk_drewN ?_ _ | refine blk_drew ?_ | refine blk_alloc ?_ _)); refine blk_put (cs := #[.int .i64 0, .int .i64 0, .slice none 0 0]) ?_ 1 _ rfl; (with_reducible repeat (first | refine blk_drewN ?_ _ | refine blk_drew ?_ | refine blk_alloc ?_ _)); refine blk_put (cs := #[.int .i64 0, .int .i64 0, .slice none 0 0]) ?_ 0 _ rfl; (with_reducible repeat (first | refine blk_drewN ?_ _ | refine blk_drew ?_ | refine blk_alloc ?_ _)); exact BK133.out) hb); have n4_ := Aside0.mk (below_step (by repeat (first | (with_reducible first | exact HB.out | apply below_alloc | apply pw_below_drewN | apply below_drew1 | refine below_set ?_ GE129.out | refine below_set ?_ GE133.out) | exact HB.out)) hb); clear HO132; clear BK129; clear BK133; clear HB; have HO132 := n0_; have HO136 := n1_; have BK129 := n2_; have BK133 := n3_; have HB := n4_; clear n0_ n1_ n2_ n3_ n4_; (try clear hb); (try clear hb2); (try clear hk); (try clear hi); (try clear ho0)) | ((with_reducible refine gate_dst (N := 15) rfl ?_); (try (refine gate_guard (by rfl) ?_; dsimp only)); refine Kd.R_lit (Kd.int .i64) _ 3 ?hg (N := 15) ?hd (xs := ([(-1), 0, 0, 0] : List Int)) (inner := [.int .i64 (-1), .int .i64 0, .int .i64 0, .int .i64 0]) (ok := fun _ => True) (okp := fun _ => True) ?hr ?hp (fun _ hk => hk) trivial (Below.refl _ _) (Nat.le_refl _) (by simp) ?_; (case hd => rfl); (case hg => rfl); (case hr => first | (go_simp; done) | (go_simp; rfl)); (case hp => exact (Reps.one (show Kd.M (Kd.int .i64) _ _ _ (-1) [.int .i64 (-1)] from rfl) (Reps.one (show Kd.M (Kd.int .i64) _ _ _ 0 [.int .i64 0] from rfl) (Reps.one (show Kd.M (Kd.int .i64) _ _ _ 0 [.int .i64 0] from rfl) (Reps.one (show Kd.M (Kd.int .i64) _ _ _ 0 [.int .i64 0] from rfl) (Reps.none _ _)))))); intro v138 w42 ho43 hb hg_ hnew_; clear hg_ hnew_; (first | rw [← Ny137.out] at ho43 | (simp only [Int.reduceToNat] at ho43; rw [← Ny137.out] at ho43)); have n0_ := Aside0.mk (Kd.R_elder' (by (with_reducible repeat (first | apply Kd.R_alloc | apply Kd.R_drewN | apply Kd.R_drew)); exact HO132.out) (Kd.R_base ho43) hb); have n1_ := Aside0.mk (Kd.R_elder' (by (with_reducible repeat (first | apply Kd.R_alloc | apply Kd.R_drewN | apply Kd.R_drew)); exact HO136.out) (Kd.R_base ho43) hb); have n2_ := Aside0.mk (Kd.R_lower (Kd.R_new' ho43 (Kd.R_lt (by (with_reducible repeat (first | apply Kd.R_alloc | apply Kd.R_drewN | apply Kd.R_drew)); exact HO136.out))) (below_size (by repeat (first | (with_reducible first | exact HB.out | apply below_alloc | apply pw_below_drewN | apply below_drew1 | refine below_set ?_ GE129.out | refine below_set ?_ GE133.out) | exact HB.out)))); have n3_ := Aside0.mk (blk_below (g := gb129) (o := .cells #[.bool false, .int .i64 0, .slice none 0 0, .bool false, .bool false, .slice none 0 0, .int .i64 2, .int .i64 0, .int .i64 0, .int .i64 0, .slice none 0 0, .int .i64 3, .int .i64 0, .int .i64 0] 50 (0, 0)) (by (with_reducible repeat (first | refine blk_drewN ?_ _ | refine blk_drew ?_ | refine blk_alloc ?_ _)); exact BK129.out) hb); have n4_ := Aside0.mk (blk_below (g := gb133) (o := .cells #[.int .i64 0, .int .i64 1, .slice Ao37 y130.length co37] 24 (0, 0)) (by (with_reducible repeat (first | refine blk_drewN ?_ _ | refine blk_drew ?_ | refine blk_alloc ?_ _)); exact BK133.out) hb); have n5_ := Aside0.mk (below_step (by repeat (first | (with_reducible first | exact HB.out | apply below_alloc | apply pw_below_drewN | apply below_drew1 | refine below_set ?_ GE129.out | refine below_set ?_ GE133.out) | exact HB.out)) hb); clear HO132; clear HO136; clear BK129; clear BK133; clear HB; have HO132 := n0_; have HO136 := n1_; have HO139 := n2_; have BK129 := n3_; have BK133 := n4_; have HB := n5_; clear n0_ n1_ n2_ n3_ n4_ n5_; clear hb ho43; obtain ⟨Ao44, co44, eo44⟩ := Kd.R_slice HO136.out; subst eo44; obtain ⟨Ao45, co45, eo45⟩ := Kd.R_slice HO139.out; subst eo45) | ((with_reducible refine gate_callee (f := 12) rfl ?_); refine goesL_ (some 16) rfl rfl Try.func12 (by kernel_rfl) rfl #[.slice Ao44 t134.length co44, .slice Ao45 y137.length co45] rfl (by (try simp only [List.map_toArray, List.map_cons, List.map_nil]); first | done | rfl | (simp only [List.length_drop, List.length_take]; rfl)) ?_; (with_reducible refine (davitref02_Ints.calls k _ _ t134 _ _ y137 true _ ?side1 ?side2 ?side3 ?side4 A2.out).mono ?_); (case side1 => repeat (first | exact (Kd.R_reads' HO136.out).2.2 | (with_reducible refine Kd.C_alloc ?_ _) | (with_reducible refine Kd.C_drewN ?_ _) | (with_reducible refine Kd.C_drew ?_))); (case side2 => exact (Kd.R_reads' HO136.out).2.1); (case side3 => repeat (first | exact (Kd.R_reads' HO139.out).2.2 | (with_reducible refine Kd.C_alloc ?_ _) | (with_reducible refine Kd.C_drewN ?_ _) | (with_reducible refine Kd.C_drew ?_))); (case side4 => exact (Kd.R_reads' HO139.out).2.1); rintro e w' ⟨rfl, ⟨nd, rfl⟩⟩; refine ⟨_, rfl, ?_⟩; have hcz46_0 : w42.cell? ⟨gb133, 0, none⟩ = some (.int .i64 0) := (blk_cell BK133.out 0).trans rfl; have hcz46_1 : w42.cell? ⟨gb133, 1, none⟩ = some (.int .i64 1) := (blk_cell BK133.out 1).trans rfl; have hcz46_2 : w42.cell? ⟨gb133, 2, none⟩ = some (.slice Ao37 y130.length co37) := (blk_cell BK133.out 2).trans rfl; have hfz46_0 := blk_frozen BK133.out 0; have hfz46_1 := blk_frozen BK133.out 1; have hfz46_2 := blk_frozen BK133.out 2) | (go_at_call 17; (with_reducible refine (dom_Edge.calls k 0 1 _ _ y130 1 t141 _ ?side1 ?side2 A4.out).mono ?_); (case side1 => repeat (first | exact (Kd.R_reads' HO132.out).2.2 | (with_reducible refine Kd.C_alloc ?_ _) | (with_reducible refine Kd.C_drewN ?_ _) | (with_reducible refine Kd.C_drew ?_))); (case side2 => exact (Kd.R_reads' HO132.out).2.1); rintro e w47 ⟨v142, rfl, ho0, hb⟩; have n0_ := Aside0.mk (Kd.R_elder' (by (with_reducible repeat (first | apply Kd.R_alloc | apply Kd.R_drewN | apply Kd.R_drew)); exact HO132.out) (Kd.R_base ho0) hb); have n1_ := Aside0.mk (Kd.R_elder' (by (with_reducible repeat (first | apply Kd.R_alloc | apply Kd.R_drewN | apply Kd.R_drew)); exact HO136.out) (Kd.R_base ho0) hb); have n2_ := Aside0.mk (Kd.R_elder' (by (with_reducible repeat (first | apply Kd.R_alloc | apply Kd.R_drewN | apply Kd.R_drew)); exact HO139.out) (Kd.R_base ho0) hb); have n3_ := Aside0.mk (Kd.R_lower (Kd.R_new' (Kd.R_new' ho0 (Kd.R_lt (by (with_reducible repeat (first | apply Kd.R_alloc | apply Kd.R_drewN | apply Kd.R_drew)); exact HO136.out))) (Kd.R_lt (by (with_reducible repeat (first | apply Kd.R_alloc | apply Kd.R_drewN | apply Kd.R_drew)); exact HO139.out))) (below_size (by repeat (first | (with_reducible first | exact HB.out | apply below_alloc | apply pw_below_drewN | apply below_drew1 | refine below_set ?_ GE129.out | refine below_set ?_ GE133.out) | exact HB.out)))); have n4_ := Aside0.mk (blk_below (g := gb129) (o := .cells #[.bool false, .int .i64 0, .slice none 0 0, .bool false, .bool false, .slice none 0 0, .int .i64 2, .int .i64 0, .int .i64 0, .int .i64 0, .slice none 0 0, .int .i64 3, .int .i64 0, .int .i64 0] 50 (0, 0)) (by (with_reducible repeat (first | refine blk_drewN ?_ _ | refine blk_drew ?_ | refine blk_alloc ?_ _)); exact BK129.out) hb); have n5_ := Aside0.mk (blk_below (g := gb133) (o := .cells #[.int .i64 0, .int .i64 1, .slice Ao37 y130.length co37] 24 (0, 0)) (by (with_reducible repeat (first | refine blk_drewN ?_ _ | refine blk_drew ?_ | refine blk_alloc ?_ _)); exact BK133.out) hb); have n6_ := Aside0.mk (below_step (by repeat (first | (with_reducible first | exact HB.out | apply below_alloc | apply pw_below_drewN | apply below_drew1 | refine below_set ?_ GE129.out | refine below_set ?_ GE133.out) | exact HB.out)) hb); clear HO132; clear HO136; clear HO139; clear BK129; clear BK133; clear HB; have HO132 := n0_; have HO136 := n1_; have HO139 := n2_; have HO143 := n3_; have BK129 := n4_; have BK133 := n5_; have HB := n6_; clear n0_ n1_ n2_ n3_ n4_ n5_ n6_; (try clear hb); (try clear hb2); (try clear hk); (try clear hi); (try clear ho0)) | ((with_reducible refine gate_dst (N := 20) rfl ?_); (try (refine gate_guard (by rfl) ?_; dsimp only)); refine Kd.R_lit (Kd.int .i64) _ 3 ?hg (N := 20) ?hd (xs := ([3] : List Int)) (inner := [.int .i64 3]) (ok := fun _ => True) (okp := fun _ => True) ?hr ?hp (fun _ hk => hk) trivial (Below.refl _ _) (Nat.le_refl _) (by simp) ?_; (case hd => rfl); (case hg => rfl); (case hr => first | (go_simp; done) | (go_simp; rfl)); (case hp => exact (Reps.one (show Kd.M (Kd.int .i64) _ _ _ 3 [.int .i64 3] from rfl) (Reps.none _ _))); intro v145 w48 ho49 hb hg_ hnew_; clear hg_ hnew_; (first | rw [← Ny144.out] at ho49 | (simp only [Int.reduceToNat] at ho49; rw [← Ny144.out] at ho49)); have n0_ := Aside0.mk (Kd.R_elder' (by (with_reducible repeat (first | apply Kd.R_alloc | apply Kd.R_drewN | apply Kd.R_drew)); exact HO132.out) (Kd.R_base ho49) hb); have n1_ := Aside0.mk (Kd.R_elder' (by (with_reducible repeat (first | apply Kd.R_alloc | apply Kd.R_drewN | apply Kd.R_drew)); exact HO136.out) (Kd.R_base ho49) hb); have n2_ := Aside0.mk (Kd.R_elder' (by (with_reducible repeat (first | apply Kd.R_alloc | apply Kd.R_drewN | apply Kd.R_drew)); exact HO139.out) (Kd.R_base ho49) hb); have n3_ := Aside0.mk (Kd.R_elder' (by (with_reducible repeat (first | apply Kd.R_alloc | apply Kd.R_drewN | apply Kd.R_drew)); exact HO143.out) (Kd.R_base ho49) hb); have n4_ := Aside0.mk (Kd.R_lower (Kd.R_new' (Kd.R_new' (Kd.R_new' ho49 (Kd.R_lt (by (with_reducible repeat (first | apply Kd.R_alloc | apply Kd.R_drewN | apply Kd.R_drew)); exact HO136.out))) (Kd.R_lt (by (with_reducible repeat (first | apply Kd.R_alloc | apply Kd.R_drewN | apply Kd.R_drew)); exact HO139.out))) (Kd.R_lt (by (with_reducible repeat (first | apply Kd.R_alloc | apply Kd.R_drewN | apply Kd.R_drew)); exact HO143.out))) (below_size (by repeat (first | (with_reducible first | exact HB.out | apply below_alloc | apply pw_below_drewN | apply below_drew1 | refine below_set ?_ GE129.out | refine below_set ?_ GE133.out) | exact HB.out)))); have n5_ := Aside0.mk (blk_below (g := gb129) (o := .cells #[.bool false, .int .i64 0, .slice none 0 0, .bool false, .bool false, .slice none 0 0, .int .i64 2, .int .i64 0, .int .i64 0, .int .i64 0, .slice none 0 0, .int .i64 3, .int .i64 0, .int .i64 0] 50 (0, 0)) (by (with_reducible repeat (first | refine blk_drewN ?_ _ | refine blk_drew ?_ | refine blk_alloc ?_ _)); exact BK129.out) hb); have n6_ := Aside0.mk (blk_below (g := gb133) (o := .cells #[.int .i64 0, .int .i64 1, .slice Ao37 y130.length co37] 24 (0, 0)) (by (with_reducible repeat (first | refine blk_drewN ?_ _ | refine blk_drew ?_ | refine blk_alloc ?_ _)); exact BK133.out) hb); have n7_ := Aside0.mk (below_step (by repeat (first | (with_reducible first | exact HB.out | apply below_alloc | apply pw_below_drewN | apply below_drew1 | refine below_set ?_ GE129.out | refine below_set ?_ GE133.out) | exact HB.out)) hb); clear HO132; clear HO136; clear HO139; clear HO143; clear BK129; clear BK133; clear HB; have HO132 := n0_; have HO136 := n1_; have HO139 := n2_; have HO143 := n3_; have HO146 := n4_; have BK129 := n5_; have BK133 := n6_; have HB := n7_; clear n0_ n1_ n2_ n3_ n4_ n5_ n6_ n7_; clear hb ho49; obtain ⟨Ao50, co50, eo50⟩ := Kd.R_slice HO143.out; subst eo50; obtain ⟨Ao51, co51, eo51⟩ := Kd.R_slice HO146.out; subst eo51) | (go_at_call 12; (with_reducible refine (davitref02_Ints.calls k _ _ t141 _ _ y144 true _ ?side1 ?side2 ?side3 ?side4 A5.out).mono ?_); (case side1 => repeat (first | exact (Kd.R_reads' HO143.out).2.2 | (with_reducible refine Kd.C_alloc ?_ _) | (with_reducible refine Kd.C_drewN ?_ _) | (with_reducible refine Kd.C_drew ?_))); (case side2 => exact (Kd.R_reads' HO143.out).2.1); (case side3 => repeat (first | exact (Kd.R_reads' HO146.out).2.2 | (with_reducible refine Kd.C_alloc ?_ _) | (with_reducible refine Kd.C_drewN ?_ _) | (with_reducible refine Kd.C_drew ?_))); (case side4 => exact (Kd.R_reads' HO146.out).2.1); rintro e w' ⟨rfl, ⟨nd, rfl⟩⟩; have hcz52_0 : w48.cell? ⟨gb133, 0, none⟩ = some (.int .i64 0) := (blk_cell BK133.out 0).trans rfl; have hcz52_1 : w48.cell? ⟨gb133, 1, none⟩ = some (.int .i64 1) := (blk_cell BK133.out 1).trans rfl; have hcz52_2 : w48.cell? ⟨gb133, 2, none⟩ = some (.slice Ao37 y130.length co37) := (blk_cell BK133.out 2).trans rfl; have hfz52_0 := blk_frozen BK133.out 0; have hfz52_1 := blk_frozen BK133.out 1; have hfz52_2 := blk_frozen BK133.out 2) | (go_at_call 15; (with_reducible refine (dom_Is.calls k 0 1 _ _ y130 0 3 false _ ?side1 ?side2 A7.out).mono ?_); (case side1 => repeat (first | exact (Kd.R_reads' HO132.out).2.2 | (with_reducible refine Kd.C_alloc ?_ _) | (with_reducible refine Kd.C_drewN ?_ _) | (with_reducible refine Kd.C_drew ?_))); (case side2 => exact (Kd.R_reads' HO132.out).2.1); rintro e w53 ⟨rfl, hb⟩; have n0_ := Aside0.mk (Kd.R_below (by (with_reducible repeat (first | apply Kd.R_alloc | apply Kd.R_drewN | apply Kd.R_drew)); exact HO132.out) hb); have n1_ := Aside0.mk (Kd.R_below (by (with_reducible repeat (first | apply Kd.R_alloc | apply Kd.R_drewN | apply Kd.R_drew)); exact HO136.out) hb); have n2_ := Aside0.mk (Kd.R_below (by (with_reducible repeat (first | apply Kd.R_alloc | apply Kd.R_drewN | apply Kd.R_drew)); exact HO139.out) hb); have n3_ := Aside0.mk (Kd.R_below (by (with_reducible repeat (first | apply Kd.R_alloc | apply Kd.R_drewN | apply Kd.R_drew)); exact HO143.out) hb); have n4_ := Aside0.mk (Kd.R_below (by (with_reducible repeat (first | apply Kd.R_alloc | apply Kd.R_drewN | apply Kd.R_drew)); exact HO146.out) hb); have n5_ := Aside0.mk (blk_below (g := gb129) (o := .cells #[.bool false, .int .i64 0, .slice none 0 0, .bool false, .bool false, .slice none 0 0, .int .i64 2, .int .i64 0, .int .i64 0, .int .i64 0, .slice none 0 0, .int .i64 3, .int .i64 0, .int .i64 0] 50 (0, 0)) (by (with_reducible repeat (first | refine blk_drewN ?_ _ | refine blk_drew ?_ | refine blk_alloc ?_ _)); exact BK129.out) hb); have n6_ := Aside0.mk (blk_below (g := gb133) (o := .cells #[.int .i64 0, .int .i64 1, .slice Ao37 y130.length co37] 24 (0, 0)) (by (with_reducible repeat (first | refine blk_drewN ?_ _ | refine blk_drew ?_ | refine blk_alloc ?_ _)); exact BK133.out) hb); have n7_ := Aside0.mk (below_step (by repeat (first | (with_reducible first | exact HB.out | apply below_alloc | apply pw_below_drewN | apply below_drew1 | refine below_set ?_ GE129.out | refine below_set ?_ GE133.out) | exact HB.out)) hb); clear HO132; clear HO136; clear HO139; clear HO143; clear HO146; clear BK129; clear BK133; clear HB; have HO132 := n0_; have HO136 := n1_; have HO139 := n2_; have HO143 := n3_; have HO146 := n4_; have BK129 := n5_; have BK133 := n6_; have HB := n7_; clear n0_ n1_ n2_ n3_ n4_ n5_ n6_ n7_; (try clear hb); (try clear hb2); (try clear hk); (try clear hi)))
    go_ret
    exact ⟨by first | rfl | (simp [errW_none, errW_some] <;> rfl) | (simp [*, errW_none, errW_some] <;> rfl), by repeat (first | (with_reducible first | exact HB.out | apply below_alloc | apply pw_below_drewN | apply below_drew1 | refine below_set ?_ GE129.out | refine below_set ?_ GE133.out) | exact HB.out)⟩
  ·replace c6 := Bool.eq_false_iff.mpr c6
   subst c6
   have H1 : (some false) = some r := by rw [if_neg (show ¬ (false = true) by decide)] at H; exact H
   clear H
   have H := H1
   clear H1
   obtain rfl := Option.some.inj H
   go_enter Try.func11, Try.ntmps11
   go_wp2_with (first | ((with_reducible refine gate_dst (N := 1) rfl ?_); (try (refine gate_guard (by rfl) ?_; dsimp only)); refine box_event ?hg (N := 1) ?hd (cs := #[.bool false, .int .i64 0, .slice none 0 0, .bool false, .bool false, .slice none 0 0, .int .i64 0, .int .i64 0, .int .i64 0, .int .i64 0, .slice none 0 0, .int .i64 0, .int .i64 0, .int .i64 0]) (t := 50) ?hr ?_; (case hd => rfl); (case hg => rfl); (case hr => first | (go_simp; done) | (go_simp; rfl)); intro gb129 hg w54 hbox hb; have n0_ := Aside0.mk (below_step (by repeat (first | (with_reducible first | exact HB.out | apply below_alloc | apply pw_below_drewN | apply below_drew1) | exact HB.out)) hb); have n1_ := Aside0.mk (hbox); have n2_ := Aside0.mk ((by rw [hg]; exact (below_size (by repeat (first | (with_reducible first | exact HB.out | apply below_alloc | apply pw_below_drewN | apply below_drew1) | exact HB.out))) : w.heap.size ≤ gb129)); have n3_ := Aside0.mk ((by rw [hg]; exact (below_size (by repeat (first | (with_reducible first | exact HB.out | apply below_alloc | apply pw_below_drewN | apply below_drew1) | exact HB.out))) : w.heap.size ≤ gb129)); clear HB; have HB := n0_; have BK129 := n1_; have GW129 := n2_; have GE129 := n3_; clear n0_ n1_ n2_ n3_; clear hb hbox hg; have hcz55_0 : w54.cell? ⟨gb129, 0, none⟩ = some (.bool false) := (blk_cell BK129.out 0).trans rfl; have hcz55_1 : w54.cell? ⟨gb129, 1, none⟩ = some (.int .i64 0) := (blk_cell BK129.out 1).trans rfl; have hcz55_2 : w54.cell? ⟨gb129, 2, none⟩ = some (.slice none 0 0) := (blk_cell BK129.out 2).trans rfl; have hcz55_3 : w54.cell? ⟨gb129, 3, none⟩ = some (.bool false) := (blk_cell BK129.out 3).trans rfl; have hcz55_4 : w54.cell? ⟨gb129, 4, none⟩ = some (.bool false) := (blk_cell BK129.out 4).trans rfl; have hcz55_5 : w54.cell? ⟨gb129, 5, none⟩ = some (.slice none 0 0) := (blk_cell BK129.out 5).trans rfl; have hcz55_6 : w54.cell? ⟨gb129, 6, none⟩ = some (.int .i64 0) := (blk_cell BK129.out 6).trans rfl; have hcz55_7 : w54.cell? ⟨gb129, 7, none⟩ = some (.int .i64 0) := (blk_cell BK129.out 7).trans rfl; have hcz55_8 : w54.cell? ⟨gb129, 8, none⟩ = some (.int .i64 0) := (blk_cell BK129.out 8).trans rfl; have hcz55_9 : w54.cell? ⟨gb129, 9, none⟩ = some (.int .i64 0) := (blk_cell BK129.out 9).trans rfl; have hcz55_10 : w54.cell? ⟨gb129, 10, none⟩ = some (.slice none 0 0) := (blk_cell BK129.out 10).trans rfl; have hcz55_11 : w54.cell? ⟨gb129, 11, none⟩ = some (.int .i64 0) := (blk_cell BK129.out 11).trans rfl; have hcz55_12 : w54.cell? ⟨gb129, 12, none⟩ = some (.int .i64 0) := (blk_cell BK129.out 12).trans rfl; have hcz55_13 : w54.cell? ⟨gb129, 13, none⟩ = some (.int .i64 0) := (blk_cell BK129.out 13).trans rfl; have hfz55_0 := blk_frozen BK129.out 0; have hfz55_1 := blk_frozen BK129.out 1; have hfz55_2 := blk_frozen BK129.out 2; have hfz55_3 := blk_frozen BK129.out 3; have hfz55_4 := blk_frozen BK129.out 4; have hfz55_5 := blk_frozen BK129.out 5; have hfz55_6 := blk_frozen BK129.out 6; have hfz55_7 := blk_frozen BK129.out 7; have hfz55_8 := blk_frozen BK129.out 8; have hfz55_9 := blk_frozen BK129.out 9; have hfz55_10 := blk_frozen BK129.out 10; have hfz55_11 := blk_frozen BK129.out 11; have hfz55_12 := blk_frozen BK129.out 12; have hfz55_13 := blk_frozen BK129.out 13) | ((with_reducible refine gate_dst (N := 11) rfl ?_); (try (refine gate_guard (by rfl) ?_; dsimp only)); refine Kd.R_lit k50 _ 50 ?hg (N := 11) ?hd (xs := ([(⟨false, (⟨0, ([] : List Int), false, false⟩ : S47), ([] : List (S117)), (⟨3, 0, 0, 0, ([] : List Int), 1, 2, 0⟩ : S44)⟩ : S50), (⟨false, (⟨0, ([] : List Int), false, false⟩ : S47), ([] : List (S117)), (⟨2, 0, 0, 0, ([] : List Int), 3, 0, 0⟩ : S44)⟩ : S50), (⟨false, (⟨0, ([] : List Int), false, false⟩ : S47), ([] : List (S117)), (⟨2, 0, 0, 0, ([] : List Int), 3, 0, 0⟩ : S44)⟩ : S50), (⟨false, (⟨0, ([] : List Int), false, false⟩ : S47), ([] : List (S117)), (⟨1, 0, 0, 0, ([] : List Int), 0, 0, 0⟩ : S44)⟩ : S50)] : List (S50))) (inner := [.bool false, .int .i64 0, .slice none 0 0, .bool false, .bool false, .slice none 0 0, .int .i64 3, .int .i64 0, .int .i64 0, .int .i64 0, .slice none 0 0, .int .i64 1, .int .i64 2, .int .i64 0, .bool false, .int .i64 0, .slice none 0 0, .bool false, .bool false, .slice none 0 0, .int .i64 2, .int .i64 0, .int .i64 0, .int .i64 0, .slice none 0 0, .int .i64 3, .int .i64 0, .int .i64 0, .bool false, .int .i64 0, .slice none 0 0, .bool false, .bool false, .slice none 0 0, .int .i64 2, .int .i64 0, .int .i64 0, .int .i64 0, .slice none 0 0, .int .i64 3, .int .i64 0, .int .i64 0, .bool false, .int .i64 0, .slice none 0 0, .bool false, .bool false, .slice none 0 0, .int .i64 1, .int .i64 0, .int .i64 0, .int .i64 0, .slice none 0 0, .int .i64 0, .int .i64 0, .int .i64 0]) (ok := fun _ => True) (okp := fun _ => True) ?hr ?hp (fun _ hk => hk) trivial (Below.refl _ _) (Nat.le_refl _) (by simp) ?_; (case hd => rfl); (case hg => rfl); (case hr => first | (go_simp; done) | (go_simp; rfl)); (case hp => exact (Reps.front (show Kd.M k50 _ _ _ (⟨false, (⟨0, ([] : List Int), false, false⟩ : S47), ([] : List (S117)), (⟨3, 0, 0, 0, ([] : List Int), 1, 2, 0⟩ : S44)⟩ : S50) [.bool false, .int .i64 0, .slice none 0 0, .bool false, .bool false, .slice none 0 0, .int .i64 3, .int .i64 0, .int .i64 0, .int .i64 0, .slice none 0 0, .int .i64 1, .int .i64 2, .int .i64 0] from (k50_mkM _ _ _ (⟨false, (⟨0, ([] : List Int), false, false⟩ : S47), ([] : List (S117)), (⟨3, 0, 0, 0, ([] : List Int), 1, 2, 0⟩ : S44)⟩ : S50) (Kd.R_nil _ _ _ _ _) (Kd.R_nil _ _ _ _ _) (Kd.R_nil _ _ _ _ _))) rfl (Reps.front (show Kd.M k50 _ _ _ (⟨false, (⟨0, ([] : List Int), false, false⟩ : S47), ([] : List (S117)), (⟨2, 0, 0, 0, ([] : List Int), 3, 0, 0⟩ : S44)⟩ : S50) [.bool false, .int .i64 0, .slice none 0 0, .bool false, .bool false, .slice none 0 0, .int .i64 2, .int .i64 0, .int .i64 0, .int .i64 0, .slice none 0 0, .int .i64 3, .int .i64 0, .int .i64 0] from (k50_mkM _ _ _ (⟨false, (⟨0, ([] : List Int), false, false⟩ : S47), ([] : List (S117)), (⟨2, 0, 0, 0, ([] : List Int), 3, 0, 0⟩ : S44)⟩ : S50) (Kd.R_nil _ _ _ _ _) (Kd.R_nil _ _ _ _ _) (Kd.R_nil _ _ _ _ _))) rfl (Reps.front (show Kd.M k50 _ _ _ (⟨false, (⟨0, ([] : List Int), false, false⟩ : S47), ([] : List (S117)), (⟨2, 0, 0, 0, ([] : List Int), 3, 0, 0⟩ : S44)⟩ : S50) [.bool false, .int .i64 0, .slice none 0 0, .bool false, .bool false, .slice none 0 0, .int .i64 2, .int .i64 0, .int .i64 0, .int .i64 0, .slice none 0 0, .int .i64 3, .int .i64 0, .int .i64 0] from (k50_mkM _ _ _ (⟨false, (⟨0, ([] : List Int), false, false⟩ : S47), ([] : List (S117)), (⟨2, 0, 0, 0, ([] : List Int), 3, 0, 0⟩ : S44)⟩ : S50) (Kd.R_nil _ _ _ _ _) (Kd.R_nil _ _ _ _ _) (Kd.R_nil _ _ _ _ _))) rfl (Reps.front (show Kd.M k50 _ _ _ (⟨false, (⟨0, ([] : List Int), false, false⟩ : S47), ([] : List (S117)), (⟨1, 0, 0, 0, ([] : List Int), 0, 0, 0⟩ : S44)⟩ : S50) [.bool false, .int .i64 0, .slice none 0 0, .bool false, .bool false, .slice none 0 0, .int .i64 1, .int .i64 0, .int .i64 0, .int .i64 0, .slice none 0 0, .int .i64 0, .int .i64 0, .int .i64 0] from (k50_mkM _ _ _ (⟨false, (⟨0, ([] : List Int), false, false⟩ : S47), ([] : List (S117)), (⟨1, 0, 0, 0, ([] : List Int), 0, 0, 0⟩ : S44)⟩ : S50) (Kd.R_nil _ _ _ _ _) (Kd.R_nil _ _ _ _ _) (Kd.R_nil _ _ _ _ _))) rfl (Reps.none _ _) rfl) rfl) rfl) rfl)); intro v131 w56 ho57 hb hg_ hnew_; clear hg_ hnew_; (first | rw [← Ny130.out] at ho57 | (simp only [Int.reduceToNat] at ho57; rw [← Ny130.out] at ho57)); have n0_ := Aside0.mk (Kd.R_lower (Kd.R_newB ho57 (g := gb129) (o := .cells #[.bool false, .int .i64 0, .slice none 0 0, .bool false, .bool false, .slice none 0 0, .int .i64 2, .int .i64 0, .int .i64 0, .int .i64 0, .slice none 0 0, .int .i64 3, .int .i64 0, .int .i64 0] 50 (0, 0)) (by (with_reducible repeat (first | refine blk_drewN ?_ _ | refine blk_drew ?_ | refine blk_alloc ?_ _)); refine blk_put (cs := #[.bool false, .int .i64 0, .slice none 0 0, .bool false, .bool false, .slice none 0 0, .int .i64 2, .int .i64 0, .int .i64 0, .int .i64 0, .slice none 0 0, .int .i64 3, .int .i64 0, .int .i64 0]) ?_ 13 _ rfl; (with_reducible repeat (first | refine blk_drewN ?_ _ | refine blk_drew ?_ | refine blk_alloc ?_ _)); refine blk_put (cs := #[.bool false, .int .i64 0, .slice none 0 0, .bool false, .bool false, .slice none 0 0, .int .i64 2, .int .i64 0, .int .i64 0, .int .i64 0, .slice none 0 0, .int .i64 3, .int .i64 0, .int .i64 0]) ?_ 12 _ rfl; (with_reducible repeat (first | refine blk_drewN ?_ _ | refine blk_drew ?_ | refine blk_alloc ?_ _)); refine blk_put (cs := #[.bool false, .int .i64 0, .slice none 0 0, .bool false, .bool false, .slice none 0 0, .int .i64 2, .int .i64 0, .int .i64 0, .int .i64 0, .slice none 0 0, .int .i64 0, .int .i64 0, .int .i64 0]) ?_ 11 _ rfl; (with_reducible repeat (first | refine blk_drewN ?_ _ | refine blk_drew ?_ | refine blk_alloc ?_ _)); refine blk_put (cs := #[.bool false, .int .i64 0, .slice none 0 0, .bool false, .bool false, .slice none 0 0, .int .i64 2, .int .i64 0, .int .i64 0, .int .i64 0, .slice none 0 0, .int .i64 0, .int .i64 0, .int .i64 0]) ?_ 10 _ rfl; (with_reducible repeat (first | refine blk_drewN ?_ _ | refine blk_drew ?_ | refine blk_alloc ?_ _)); refine blk_put (cs := #[.bool false, .int .i64 0, .slice none 0 0, .bool false, .bool false, .slice none 0 0, .int .i64 2, .int .i64 0, .int .i64 0, .int .i64 0, .slice none 0 0, .int .i64 0, .int .i64 0, .int .i64 0]) ?_ 9 _ rfl; (with_reducible repeat (first | refine blk_drewN ?_ _ | refine blk_drew ?_ | refine blk_alloc ?_ _)); refine blk_put (cs := #[.bool false, .int .i64 0, .slice none 0 0, .bool false, .bool false, .slice none 0 0, .int .i64 2, .int .i64 0, .int .i64 0, .int .i64 0, .slice none 0 0, .int .i64 0, .int .i64 0, .int .i64 0]) ?_ 8 _ rfl; (with_reducible repeat (first | refine blk_drewN ?_ _ | refine blk_drew ?_ | refine blk_alloc ?_ _)); refine blk_put (cs := #[.bool false, .int .i64 0, .slice none 0 0, .bool false, .bool false, .slice none 0 0, .int .i64 2, .int .i64 0, .int .i64 0, .int .i64 0, .slice none 0 0, .int .i64 0, .int .i64 0, .int .i64 0]) ?_ 7 _ rfl; (with_reducible repeat (first | refine blk_drewN ?_ _ | refine blk_drew ?_ | refine blk_alloc ?_ _)); refine blk_put (cs := #[.bool false, .int .i64 0, .slice none 0 0, .bool false, .bool false, .slice none 0 0, .int .i64 0, .int .i64 0, .int .i64 0, .int .i64 0, .slice none 0 0, .int .i64 0, .int .i64 0, .int .i64 0]) ?_ 6 _ rfl; (with_reducible repeat (first | refine blk_drewN ?_ _ | refine blk_drew ?_ | refine blk_alloc ?_ _)); refine blk_put (cs := #[.bool false, .int .i64 0, .slice none 0 0, .bool false, .bool false, .slice none 0 0, .int .i64 0, .int .i64 0, .int .i64 0, .int .i64 0, .slice none 0 0, .int .i64 0, .int .i64 0, .int .i64 0]) ?_ 5 _ rfl; (with_reducible repeat (first | refine blk_drewN ?_ _ | refine blk_drew ?_ | refine blk_alloc ?_ _)); refine blk_put (cs := #[.bool false, .int .i64 0, .slice none 0 0, .bool false, .bool false, .slice none 0 0, .int .i64 0, .int .i64 0, .int .i64 0, .int .i64 0, .slice none 0 0, .int .i64 0, .int .i64 0, .int .i64 0]) ?_ 4 _ rfl; (with_reducible repeat (first | refine blk_drewN ?_ _ | refine blk_drew ?_ | refine blk_alloc ?_ _)); refine blk_put (cs := #[.bool false, .int .i64 0, .slice none 0 0, .bool false, .bool false, .slice none 0 0, .int .i64 0, .int .i64 0, .int .i64 0, .int .i64 0, .slice none 0 0, .int .i64 0, .int .i64 0, .int .i64 0]) ?_ 3 _ rfl; (with_reducible repeat (first | refine blk_drewN ?_ _ | refine blk_drew ?_ | refine blk_alloc ?_ _)); refine blk_put (cs := #[.bool false, .int .i64 0, .slice none 0 0, .bool false, .bool false, .slice none 0 0, .int .i64 0, .int .i64 0, .int .i64 0, .int .i64 0, .slice none 0 0, .int .i64 0, .int .i64 0, .int .i64 0]) ?_ 2 _ rfl; (with_reducible repeat (first | refine blk_drewN ?_ _ | refine blk_drew ?_ | refine blk_alloc ?_ _)); refine blk_put (cs := #[.bool false, .int .i64 0, .slice none 0 0, .bool false, .bool false, .slice none 0 0, .int .i64 0, .int .i64 0, .int .i64 0, .int .i64 0, .slice none 0 0, .int .i64 0, .int .i64 0, .int .i64 0]) ?_ 1 _ rfl; (with_reducible repeat (first | refine blk_drewN ?_ _ | refine blk_drew ?_ | refine blk_alloc ?_ _)); refine blk_put (cs := #[.bool false, .int .i64 0, .slice none 0 0, .bool false, .bool false, .slice none 0 0, .int .i64 0, .int .i64 0, .int .i64 0, .int .i64 0, .slice none 0 0, .int .i64 0, .int .i64 0, .int .i64 0]) ?_ 0 _ rfl; (with_reducible repeat (first | refine blk_drewN ?_ _ | refine blk_drew ?_ | refine blk_alloc ?_ _)); exact BK129.out)) (below_size (by repeat (first | (with_reducible first | exact HB.out | apply below_alloc | apply pw_below_drewN | apply below_drew1 | refine below_set ?_ GE129.out) | exact HB.out)))); have n1_ := Aside0.mk (blk_below (g := gb129) (o := .cells #[.bool false, .int .i64 0, .slice none 0 0, .bool false, .bool false, .slice none 0 0, .int .i64 2, .int .i64 0, .int .i64 0, .int .i64 0, .slice none 0 0, .int .i64 3, .int .i64 0, .int .i64 0] 50 (0, 0)) (by (with_reducible repeat (first | refine blk_drewN ?_ _ | refine blk_drew ?_ | refine blk_alloc ?_ _)); refine blk_put (cs := #[.bool false, .int .i64 0, .slice none 0 0, .bool false, .bool false, .slice none 0 0, .int .i64 2, .int .i64 0, .int .i64 0, .int .i64 0, .slice none 0 0, .int .i64 3, .int .i64 0, .int .i64 0]) ?_ 13 _ rfl; (with_reducible repeat (first | refine blk_drewN ?_ _ | refine blk_drew ?_ | refine blk_alloc ?_ _)); refine blk_put (cs := #[.bool false, .int .i64 0, .slice none 0 0, .bool false, .bool false, .slice none 0 0, .int .i64 2, .int .i64 0, .int .i64 0, .int .i64 0, .slice none 0 0, .int .i64 3, .int .i64 0, .int .i64 0]) ?_ 12 _ rfl; (with_reducible repeat (first | refine blk_drewN ?_ _ | refine blk_drew ?_ | refine blk_alloc ?_ _)); refine blk_put (cs := #[.bool false, .int .i64 0, .slice none 0 0, .bool false, .bool false, .slice none 0 0, .int .i64 2, .int .i64 0, .int .i64 0, .int .i64 0, .slice none 0 0, .int .i64 0, .int .i64 0, .int .i64 0]) ?_ 11 _ rfl; (with_reducible repeat (first | refine blk_drewN ?_ _ | refine blk_drew ?_ | refine blk_alloc ?_ _)); refine blk_put (cs := #[.bool false, .int .i64 0, .slice none 0 0, .bool false, .bool false, .slice none 0 0, .int .i64 2, .int .i64 0, .int .i64 0, .int .i64 0, .slice none 0 0, .int .i64 0, .int .i64 0, .int .i64 0]) ?_ 10 _ rfl; (with_reducible repeat (first | refine blk_drewN ?_ _ | refine blk_drew ?_ | refine blk_alloc ?_ _)); refine blk_put (cs := #[.bool false, .int .i64 0, .slice none 0 0, .bool false, .bool false, .slice none 0 0, .int .i64 2, .int .i64 0, .int .i64 0, .int .i64 0, .slice none 0 0, .int .i64 0, .int .i64 0, .int .i64 0]) ?_ 9 _ rfl; (with_reducible repeat (first | refine blk_drewN ?_ _ | refine blk_drew ?_ | refine blk_alloc ?_ _)); refine blk_put (cs := #[.bool false, .int .i64 0, .slice none 0 0, .bool false, .bool false, .slice none 0 0, .int .i64 2, .int .i64 0, .int .i64 0, .int .i64 0, .slice none 0 0, .int .i64 0, .int .i64 0, .int .i64 0]) ?_ 8 _ rfl; (with_reducible repeat (first | refine blk_drewN ?_ _ | refine blk_drew ?_ | refine blk_alloc ?_ _)); refine blk_put (cs := #[.bool false, .int .i64 0, .slice none 0 0, .bool false, .bool false, .slice none 0 0, .int .i64 2, .int .i64 0, .int .i64 0, .int .i64 0, .slice none 0 0, .int .i64 0, .int .i64 0, .int .i64 0]) ?_ 7 _ rfl; (with_reducible repeat (first | refine blk_drewN ?_ _ | refine blk_drew ?_ | refine blk_alloc ?_ _)); refine blk_put (cs := #[.bool false, .int .i64 0, .slice none 0 0, .bool false, .bool false, .slice none 0 0, .int .i64 0, .int .i64 0, .int .i64 0, .int .i64 0, .slice none 0 0, .int .i64 0, .int .i64 0, .int .i64 0]) ?_ 6 _ rfl; (with_reducible repeat (first | refine blk_drewN ?_ _ | refine blk_drew ?_ | refine blk_alloc ?_ _)); refine blk_put (cs := #[.bool false, .int .i64 0, .slice none 0 0, .bool false, .bool false, .slice none 0 0, .int .i64 0, .int .i64 0, .int .i64 0, .int .i64 0, .slice none 0 0, .int .i64 0, .int .i64 0, .int .i64 0]) ?_ 5 _ rfl; (with_reducible repeat (first | refine blk_drewN ?_ _ | refine blk_drew ?_ | refine blk_alloc ?_ _)); refine blk_put (cs := #[.bool false, .int .i64 0, .slice none 0 0, .bool false, .bool false, .slice none 0 0, .int .i64 0, .int .i64 0, .int .i64 0, .int .i64 0, .slice none 0 0, .int .i64 0, .int .i64 0, .int .i64 0]) ?_ 4 _ rfl; (with_reducible repeat (first | refine blk_drewN ?_ _ | refine blk_drew ?_ | refine blk_alloc ?_ _)); refine blk_put (cs := #[.bool false, .int .i64 0, .slice none 0 0, .bool false, .bool false, .slice none 0 0, .int .i64 0, .int .i64 0, .int .i64 0, .int .i64 0, .slice none 0 0, .int .i64 0, .int .i64 0, .int .i64 0]) ?_ 3 _ rfl; (with_reducible repeat (first | refine blk_drewN ?_ _ | refine blk_drew ?_ | refine blk_alloc ?_ _)); refine blk_put (cs := #[.bool false, .int .i64 0, .slice none 0 0, .bool false, .bool false, .slice none 0 0, .int .i64 0, .int .i64 0, .int .i64 0, .int .i64 0, .slice none 0 0, .int .i64 0, .int .i64 0, .int .i64 0]) ?_ 2 _ rfl; (with_reducible repeat (first | refine blk_drewN ?_ _ | refine blk_drew ?_ | refine blk_alloc ?_ _)); refine blk_put (cs := #[.bool false, .int .i64 0, .slice none 0 0, .bool false, .bool false, .slice none 0 0, .int .i64 0, .int .i64 0, .int .i64 0, .int .i64 0, .slice none 0 0, .int .i64 0, .int .i64 0, .int .i64 0]) ?_ 1 _ rfl; (with_reducible repeat (first | refine blk_drewN ?_ _ | refine blk_drew ?_ | refine blk_alloc ?_ _)); refine blk_put (cs := #[.bool false, .int .i64 0, .slice none 0 0, .bool false, .bool false, .slice none 0 0, .int .i64 0, .int .i64 0, .int .i64 0, .int .i64 0, .slice none 0 0, .int .i64 0, .int .i64 0, .int .i64 0]) ?_ 0 _ rfl; (with_reducible repeat (first | refine blk_drewN ?_ _ | refine blk_drew ?_ | refine blk_alloc ?_ _)); exact BK129.out) hb); have n2_ := Aside0.mk (below_step (by repeat (first | (with_reducible first | exact HB.out | apply below_alloc | apply pw_below_drewN | apply below_drew1 | refine below_set ?_ GE129.out) | exact HB.out)) hb); clear BK129; clear HB; have HO132 := n0_; have BK129 := n1_; have HB := n2_; clear n0_ n1_ n2_; clear hb ho57; obtain ⟨Ao58, co58, eo58⟩ := Kd.R_slice HO132.out; subst eo58) | ((with_reducible refine gate_dst (N := 2) rfl ?_); (try (refine gate_guard (by rfl) ?_; dsimp only)); refine box_event ?hg (N := 2) ?hd (cs := #[.int .i64 0, .int .i64 0, .slice none 0 0]) (t := 24) ?hr ?_; (case hd => rfl); (case hg => rfl); (case hr => first | (go_simp; done) | (go_simp; rfl)); intro gb133 hg w59 hbox hb; have n0_ := Aside0.mk (Kd.R_below (by (with_reducible repeat (first | apply Kd.R_alloc | apply Kd.R_drewN | apply Kd.R_drew)); exact HO132.out) hb); have n1_ := Aside0.mk (blk_below (g := gb129) (o := .cells #[.bool false, .int .i64 0, .slice none 0 0, .bool false, .bool false, .slice none 0 0, .int .i64 2, .int .i64 0, .int .i64 0, .int .i64 0, .slice none 0 0, .int .i64 3, .int .i64 0, .int .i64 0] 50 (0, 0)) (by (with_reducible repeat (first | refine blk_drewN ?_ _ | refine blk_drew ?_ | refine blk_alloc ?_ _)); exact BK129.out) hb); have n2_ := Aside0.mk (below_step (by repeat (first | (with_reducible first | exact HB.out | apply below_alloc | apply pw_below_drewN | apply below_drew1 | refine below_set ?_ GE129.out) | exact HB.out)) hb); have n3_ := Aside0.mk (hbox); have n4_ := Aside0.mk ((by rw [hg]; exact (below_size (by repeat (first | (with_reducible first | exact HB.out | apply below_alloc | apply pw_below_drewN | apply below_drew1 | refine below_set ?_ GE129.out) | exact HB.out))) : w.heap.size ≤ gb133)); have n5_ := Aside0.mk ((by rw [hg]; exact (below_size (by repeat (first | (with_reducible first | exact HB.out | apply below_alloc | apply pw_below_drewN | apply below_drew1 | refine below_set ?_ GE129.out) | exact HB.out))) : w.heap.size ≤ gb133)); have n6_ := Aside0.mk ((by rw [hg]; exact Nat.ne_of_lt (blk_lt (g := gb129) (o := .cells #[.bool false, .int .i64 0, .slice none 0 0, .bool false, .bool false, .slice none 0 0, .int .i64 2, .int .i64 0, .int .i64 0, .int .i64 0, .slice none 0 0, .int .i64 3, .int .i64 0, .int .i64 0] 50 (0, 0)) (by (with_reducible repeat (first | refine blk_drewN ?_ _ | refine blk_drew ?_ | refine blk_alloc ?_ _)); exact BK129.out)) : gb129 ≠ gb133)); have n7_ := Aside0.mk ((by rw [hg]; exact Nat.ne_of_gt (blk_lt (g := gb129) (o := .cells #[.bool false, .int .i64 0, .slice none 0 0, .bool false, .bool false, .slice none 0 0, .int .i64 2, .int .i64 0, .int .i64 0, .int .i64 0, .slice none 0 0, .int .i64 3, .int .i64 0, .int .i64 0] 50 (0, 0)) (by (with_reducible repeat (first | refine blk_drewN ?_ _ | refine blk_drew ?_ | refine blk_alloc ?_ _)); exact BK129.out)) : gb133 ≠ gb129)); clear HO132; clear BK129; clear HB; have HO132 := n0_; have BK129 := n1_; have HB := n2_; have BK133 := n3_; have GW133 := n4_; have GE133 := n5_; have NB129_133 := n6_; have NB133_129 := n7_; clear n0_ n1_ n2_ n3_ n4_ n5_ n6_ n7_; clear hb hbox hg; have hnb60 := NB133_129.out; have hnc60 := NB129_133.out; have hcz61_0 : w59.cell? ⟨gb133, 0, none⟩ = some (.int .i64 0) := (blk_cell BK133.out 0).trans rfl; have hcz61_1 : w59.cell? ⟨gb133, 1, none⟩ = some (.int .i64 0) := (blk_cell BK133.out 1).trans rfl; have hcz61_2 : w59.cell? ⟨gb133, 2, none⟩ = some (.slice none 0 0) := (blk_cell BK133.out 2).trans rfl; have hfz61_0 := blk_frozen BK133.out 0; have hfz61_1 := blk_frozen BK133.out 1; have hfz61_2 := blk_frozen BK133.out 2) | ((with_reducible refine gate_callee (f := 13) rfl ?_); refine goesL_ (some 14) rfl rfl Try.func13 (by kernel_rfl) rfl #[.agg #[.int .i64 0, .int .i64 1, .slice Ao58 y130.length co58]] rfl (by (try simp only [List.map_toArray, List.map_cons, List.map_nil]); first | done | rfl | (simp only [List.length_drop, List.length_take]; rfl)) ?_; (with_reducible refine (dom_Over.calls 0 1 _ _ y130 t134 _ ?side1 ?side2 A1.out).mono ?_); (case side1 => refine (Kd.R_reads' (e := 50) (base := w.heap.size) (ok := fun k_ => (True ∧ k_ ≠ gb129)) (n := y130.length) (c := co58) ?_).2.2; exact (by (with_reducible repeat (first | apply Kd.R_alloc | apply Kd.R_drewN | apply Kd.R_drew)); exact (Kd.R_mono (Kd.R_far (p := ⟨gb133, 2, none⟩) (Kd.R_far (p := ⟨gb133, 1, none⟩) (Kd.R_far (p := ⟨gb133, 0, none⟩) (Kd.R_types HO132.out BK133.out (by decide)) (fun _ hk => hk.2) (.int .i64 0)) (fun _ hk => hk.2) (.int .i64 1)) (fun _ hk => hk.2) (.slice Ao58 y130.length co58)) (fun _ h_ => h_.1)))); (case side2 => exact (Kd.R_reads' HO132.out).2.1); rintro e w62 ⟨v135, rfl, ho0, hb⟩; refine ⟨_, rfl, ?_⟩; have n0_ := Aside0.mk (Kd.R_elder' (by (with_reducible repeat (first | apply Kd.R_alloc | apply Kd.R_drewN | apply Kd.R_drew)); exact (Kd.R_mono (Kd.R_far (p := ⟨gb133, 2, none⟩) (Kd.R_far (p := ⟨gb133, 1, none⟩) (Kd.R_far (p := ⟨gb133, 0, none⟩) (Kd.R_types HO132.out BK133.out (by decide)) (fun _ hk => hk.2) (.int .i64 0)) (fun _ hk => hk.2) (.int .i64 1)) (fun _ hk => hk.2) (.slice Ao58 y130.length co58)) (fun _ h_ => h_.1))) (Kd.R_base ho0) hb); have n1_ := Aside0.mk (Kd.R_lower ho0 (below_size (by repeat (first | (with_reducible first | exact HB.out | apply below_alloc | apply pw_below_drewN | apply below_drew1 | refine below_set ?_ GE129.out | refine below_set ?_ GE133.out) | exact HB.out)))); have n2_ := Aside0.mk (blk_below (g := gb129) (o := .cells #[.bool false, .int .i64 0, .slice none 0 0, .bool false, .bool false, .slice none 0 0, .int .i64 2, .int .i64 0, .int .i64 0, .int .i64 0, .slice none 0 0, .int .i64 3, .int .i64 0, .int .i64 0] 50 (0, 0)) (by (with_reducible repeat (first | refine blk_drewN ?_ _ | refine blk_drew ?_ | refine blk_alloc ?_ _)); refine blk_far ?_ NB129_133.out _; (with_reducible repeat (first | refine blk_drewN ?_ _ | refine blk_drew ?_ | refine blk_alloc ?_ _)); refine blk_far ?_ NB129_133.out _; (with_reducible repeat (first | refine blk_drewN ?_ _ | refine blk_drew ?_ | refine blk_alloc ?_ _)); refine blk_far ?_ NB129_133.out _; (with_reducible repeat (first | refine blk_drewN ?_ _ | refine blk_drew ?_ | refine blk_alloc ?_ _)); exact BK129.out) hb); have n3_ := Aside0.mk (blk_below (g := gb133) (o := .cells #[.int .i64 0, .int .i64 1, .slice Ao58 y130.length co58] 24 (0, 0)) (by (with_reducible repeat (first | refine blk_drewN ?_ _ | refine blk_drew ?_ | refine blk_alloc ?_ _)); refine blk_put (cs := #[.int .i64 0, .int .i64 1, .slice none 0 0]) ?_ 2 _ rfl; (with_reducible repeat (first | refine blk_drewN ?_ _ | refine blk_drew ?_ | refine blk_alloc ?_ _)); refine blk_put (cs := #[.int .i64 0, .int .i64 0, .slice none 0 0]) ?_ 1 _ rfl; (with_reducible repeat (first | refine blk_drewN ?_ _ | refine blk_drew ?_ | refine blk_alloc ?_ _)); refine blk_put (cs := #[.int .i64 0, .int .i64 0, .slice none 0 0]) ?_ 0 _ rfl; (with_reducible repeat (first | refine blk_drewN ?_ _ | refine blk_drew ?_ | refine blk_alloc ?_ _)); exact BK133.out) hb); have n4_ := Aside0.mk (below_step (by repeat (first | (with_reducible first | exact HB.out | apply below_alloc | apply pw_below_drewN | apply below_drew1 | refine below_set ?_ GE129.out | refine below_set ?_ GE133.out) | exact HB.out)) hb); clear HO132; clear BK129; clear BK133; clear HB; have HO132 := n0_; have HO136 := n1_; have BK129 := n2_; have BK133 := n3_; have HB := n4_; clear n0_ n1_ n2_ n3_ n4_; (try clear hb); (try clear hb2); (try clear hk); (try clear hi); (try clear ho0)) | ((with_reducible refine gate_dst (N := 15) rfl ?_); (try (refine gate_guard (by rfl) ?_; dsimp only)); refine Kd.R_lit (Kd.int .i64) _ 3 ?hg (N := 15) ?hd (xs := ([(-1), 0, 0, 0] : List Int)) (inner := [.int .i64 (-1), .int .i64 0, .int .i64 0, .int .i64 0]) (ok := fun _ => True) (okp := fun _ => True) ?hr ?hp (fun _ hk => hk) trivial (Below.refl _ _) (Nat.le_refl _) (by simp) ?_; (case hd => rfl); (case hg => rfl); (case hr => first | (go_simp; done) | (go_simp; rfl)); (case hp => exact (Reps.one (show Kd.M (Kd.int .i64) _ _ _ (-1) [.int .i64 (-1)] from rfl) (Reps.one (show Kd.M (Kd.int .i64) _ _ _ 0 [.int .i64 0] from rfl) (Reps.one (show Kd.M (Kd.int .i64) _ _ _ 0 [.int .i64 0] from rfl) (Reps.one (show Kd.M (Kd.int .i64) _ _ _ 0 [.int .i64 0] from rfl) (Reps.none _ _)))))); intro v138 w63 ho64 hb hg_ hnew_; clear hg_ hnew_; (first | rw [← Ny137.out] at ho64 | (simp only [Int.reduceToNat] at ho64; rw [← Ny137.out] at ho64)); have n0_ := Aside0.mk (Kd.R_elder' (by (with_reducible repeat (first | apply Kd.R_alloc | apply Kd.R_drewN | apply Kd.R_drew)); exact HO132.out) (Kd.R_base ho64) hb); have n1_ := Aside0.mk (Kd.R_elder' (by (with_reducible repeat (first | apply Kd.R_alloc | apply Kd.R_drewN | apply Kd.R_drew)); exact HO136.out) (Kd.R_base ho64) hb); have n2_ := Aside0.mk (Kd.R_lower (Kd.R_new' ho64 (Kd.R_lt (by (with_reducible repeat (first | apply Kd.R_alloc | apply Kd.R_drewN | apply Kd.R_drew)); exact HO136.out))) (below_size (by repeat (first | (with_reducible first | exact HB.out | apply below_alloc | apply pw_below_drewN | apply below_drew1 | refine below_set ?_ GE129.out | refine below_set ?_ GE133.out) | exact HB.out)))); have n3_ := Aside0.mk (blk_below (g := gb129) (o := .cells #[.bool false, .int .i64 0, .slice none 0 0, .bool false, .bool false, .slice none 0 0, .int .i64 2, .int .i64 0, .int .i64 0, .int .i64 0, .slice none 0 0, .int .i64 3, .int .i64 0, .int .i64 0] 50 (0, 0)) (by (with_reducible repeat (first | refine blk_drewN ?_ _ | refine blk_drew ?_ | refine blk_alloc ?_ _)); exact BK129.out) hb); have n4_ := Aside0.mk (blk_below (g := gb133) (o := .cells #[.int .i64 0, .int .i64 1, .slice Ao58 y130.length co58] 24 (0, 0)) (by (with_reducible repeat (first | refine blk_drewN ?_ _ | refine blk_drew ?_ | refine blk_alloc ?_ _)); exact BK133.out) hb); have n5_ := Aside0.mk (below_step (by repeat (first | (with_reducible first | exact HB.out | apply below_alloc | apply pw_below_drewN | apply below_drew1 | refine below_set ?_ GE129.out | refine below_set ?_ GE133.out) | exact HB.out)) hb); clear HO132; clear HO136; clear BK129; clear BK133; clear HB; have HO132 := n0_; have HO136 := n1_; have HO139 := n2_; have BK129 := n3_; have BK133 := n4_; have HB := n5_; clear n0_ n1_ n2_ n3_ n4_ n5_; clear hb ho64; obtain ⟨Ao65, co65, eo65⟩ := Kd.R_slice HO136.out; subst eo65; obtain ⟨Ao66, co66, eo66⟩ := Kd.R_slice HO139.out; subst eo66) | ((with_reducible refine gate_callee (f := 12) rfl ?_); refine goesL_ (some 16) rfl rfl Try.func12 (by kernel_rfl) rfl #[.slice Ao65 t134.length co65, .slice Ao66 y137.length co66] rfl (by (try simp only [List.map_toArray, List.map_cons, List.map_nil]); first | done | rfl | (simp only [List.length_drop, List.length_take]; rfl)) ?_; (with_reducible refine (davitref02_Ints.calls k _ _ t134 _ _ y137 true _ ?side1 ?side2 ?side3 ?side4 A2.out).mono ?_); (case side1 => repeat (first | exact (Kd.R_reads' HO136.out).2.2 | (with_reducible refine Kd.C_alloc ?_ _) | (with_reducible refine Kd.C_drewN ?_ _) | (with_reducible refine Kd.C_drew ?_))); (case side2 => exact (Kd.R_reads' HO136.out).2.1); (case side3 => repeat (first | exact (Kd.R_reads' HO139.out).2.2 | (with_reducible refine Kd.C_alloc ?_ _) | (with_reducible refine Kd.C_drewN ?_ _) | (with_reducible refine Kd.C_drew ?_))); (case side4 => exact (Kd.R_reads' HO139.out).2.1); rintro e w' ⟨rfl, ⟨nd, rfl⟩⟩; refine ⟨_, rfl, ?_⟩; have hcz67_0 : w63.cell? ⟨gb133, 0, none⟩ = some (.int .i64 0) := (blk_cell BK133.out 0).trans rfl; have hcz67_1 : w63.cell? ⟨gb133, 1, none⟩ = some (.int .i64 1) := (blk_cell BK133.out 1).trans rfl; have hcz67_2 : w63.cell? ⟨gb133, 2, none⟩ = some (.slice Ao58 y130.length co58) := (blk_cell BK133.out 2).trans rfl; have hfz67_0 := blk_frozen BK133.out 0; have hfz67_1 := blk_frozen BK133.out 1; have hfz67_2 := blk_frozen BK133.out 2) | (go_at_call 17; (with_reducible refine (dom_Edge.calls k 0 1 _ _ y130 1 t141 _ ?side1 ?side2 A4.out).mono ?_); (case side1 => repeat (first | exact (Kd.R_reads' HO132.out).2.2 | (with_reducible refine Kd.C_alloc ?_ _) | (with_reducible refine Kd.C_drewN ?_ _) | (with_reducible refine Kd.C_drew ?_))); (case side2 => exact (Kd.R_reads' HO132.out).2.1); rintro e w68 ⟨v142, rfl, ho0, hb⟩; have n0_ := Aside0.mk (Kd.R_elder' (by (with_reducible repeat (first | apply Kd.R_alloc | apply Kd.R_drewN | apply Kd.R_drew)); exact HO132.out) (Kd.R_base ho0) hb); have n1_ := Aside0.mk (Kd.R_elder' (by (with_reducible repeat (first | apply Kd.R_alloc | apply Kd.R_drewN | apply Kd.R_drew)); exact HO136.out) (Kd.R_base ho0) hb); have n2_ := Aside0.mk (Kd.R_elder' (by (with_reducible repeat (first | apply Kd.R_alloc | apply Kd.R_drewN | apply Kd.R_drew)); exact HO139.out) (Kd.R_base ho0) hb); have n3_ := Aside0.mk (Kd.R_lower (Kd.R_new' (Kd.R_new' ho0 (Kd.R_lt (by (with_reducible repeat (first | apply Kd.R_alloc | apply Kd.R_drewN | apply Kd.R_drew)); exact HO136.out))) (Kd.R_lt (by (with_reducible repeat (first | apply Kd.R_alloc | apply Kd.R_drewN | apply Kd.R_drew)); exact HO139.out))) (below_size (by repeat (first | (with_reducible first | exact HB.out | apply below_alloc | apply pw_below_drewN | apply below_drew1 | refine below_set ?_ GE129.out | refine below_set ?_ GE133.out) | exact HB.out)))); have n4_ := Aside0.mk (blk_below (g := gb129) (o := .cells #[.bool false, .int .i64 0, .slice none 0 0, .bool false, .bool false, .slice none 0 0, .int .i64 2, .int .i64 0, .int .i64 0, .int .i64 0, .slice none 0 0, .int .i64 3, .int .i64 0, .int .i64 0] 50 (0, 0)) (by (with_reducible repeat (first | refine blk_drewN ?_ _ | refine blk_drew ?_ | refine blk_alloc ?_ _)); exact BK129.out) hb); have n5_ := Aside0.mk (blk_below (g := gb133) (o := .cells #[.int .i64 0, .int .i64 1, .slice Ao58 y130.length co58] 24 (0, 0)) (by (with_reducible repeat (first | refine blk_drewN ?_ _ | refine blk_drew ?_ | refine blk_alloc ?_ _)); exact BK133.out) hb); have n6_ := Aside0.mk (below_step (by repeat (first | (with_reducible first | exact HB.out | apply below_alloc | apply pw_below_drewN | apply below_drew1 | refine below_set ?_ GE129.out | refine below_set ?_ GE133.out) | exact HB.out)) hb); clear HO132; clear HO136; clear HO139; clear BK129; clear BK133; clear HB; have HO132 := n0_; have HO136 := n1_; have HO139 := n2_; have HO143 := n3_; have BK129 := n4_; have BK133 := n5_; have HB := n6_; clear n0_ n1_ n2_ n3_ n4_ n5_ n6_; (try clear hb); (try clear hb2); (try clear hk); (try clear hi); (try clear ho0)) | ((with_reducible refine gate_dst (N := 20) rfl ?_); (try (refine gate_guard (by rfl) ?_; dsimp only)); refine Kd.R_lit (Kd.int .i64) _ 3 ?hg (N := 20) ?hd (xs := ([3] : List Int)) (inner := [.int .i64 3]) (ok := fun _ => True) (okp := fun _ => True) ?hr ?hp (fun _ hk => hk) trivial (Below.refl _ _) (Nat.le_refl _) (by simp) ?_; (case hd => rfl); (case hg => rfl); (case hr => first | (go_simp; done) | (go_simp; rfl)); (case hp => exact (Reps.one (show Kd.M (Kd.int .i64) _ _ _ 3 [.int .i64 3] from rfl) (Reps.none _ _))); intro v145 w69 ho70 hb hg_ hnew_; clear hg_ hnew_; (first | rw [← Ny144.out] at ho70 | (simp only [Int.reduceToNat] at ho70; rw [← Ny144.out] at ho70)); have n0_ := Aside0.mk (Kd.R_elder' (by (with_reducible repeat (first | apply Kd.R_alloc | apply Kd.R_drewN | apply Kd.R_drew)); exact HO132.out) (Kd.R_base ho70) hb); have n1_ := Aside0.mk (Kd.R_elder' (by (with_reducible repeat (first | apply Kd.R_alloc | apply Kd.R_drewN | apply Kd.R_drew)); exact HO136.out) (Kd.R_base ho70) hb); have n2_ := Aside0.mk (Kd.R_elder' (by (with_reducible repeat (first | apply Kd.R_alloc | apply Kd.R_drewN | apply Kd.R_drew)); exact HO139.out) (Kd.R_base ho70) hb); have n3_ := Aside0.mk (Kd.R_elder' (by (with_reducible repeat (first | apply Kd.R_alloc | apply Kd.R_drewN | apply Kd.R_drew)); exact HO143.out) (Kd.R_base ho70) hb); have n4_ := Aside0.mk (Kd.R_lower (Kd.R_new' (Kd.R_new' (Kd.R_new' ho70 (Kd.R_lt (by (with_reducible repeat (first | apply Kd.R_alloc | apply Kd.R_drewN | apply Kd.R_drew)); exact HO136.out))) (Kd.R_lt (by (with_reducible repeat (first | apply Kd.R_alloc | apply Kd.R_drewN | apply Kd.R_drew)); exact HO139.out))) (Kd.R_lt (by (with_reducible repeat (first | apply Kd.R_alloc | apply Kd.R_drewN | apply Kd.R_drew)); exact HO143.out))) (below_size (by repeat (first | (with_reducible first | exact HB.out | apply below_alloc | apply pw_below_drewN | apply below_drew1 | refine below_set ?_ GE129.out | refine below_set ?_ GE133.out) | exact HB.out)))); have n5_ := Aside0.mk (blk_below (g := gb129) (o := .cells #[.bool false, .int .i64 0, .slice none 0 0, .bool false, .bool false, .slice none 0 0, .int .i64 2, .int .i64 0, .int .i64 0, .int .i64 0, .slice none 0 0, .int .i64 3, .int .i64 0, .int .i64 0] 50 (0, 0)) (by (with_reducible repeat (first | refine blk_drewN ?_ _ | refine blk_drew ?_ | refine blk_alloc ?_ _)); exact BK129.out) hb); have n6_ := Aside0.mk (blk_below (g := gb133) (o := .cells #[.int .i64 0, .int .i64 1, .slice Ao58 y130.length co58] 24 (0, 0)) (by (with_reducible repeat (first | refine blk_drewN ?_ _ | refine blk_drew ?_ | refine blk_alloc ?_ _)); exact BK133.out) hb); have n7_ := Aside0.mk (below_step (by repeat (first | (with_reducible first | exact HB.out | apply below_alloc | apply pw_below_drewN | apply below_drew1 | refine below_set ?_ GE129.out | refine below_set ?_ GE133.out) | exact HB.out)) hb); clear HO132; clear HO136; clear HO139; clear HO143; clear BK129; clear BK133; clear HB; have HO132 := n0_; have HO136 := n1_; have HO139 := n2_; have HO143 := n3_; have HO146 := n4_; have BK129 := n5_; have BK133 := n6_; have HB := n7_; clear n0_ n1_ n2_ n3_ n4_ n5_ n6_ n7_; clear hb ho70; obtain ⟨Ao71, co71, eo71⟩ := Kd.R_slice HO143.out; subst eo71; obtain ⟨Ao72, co72, eo72⟩ := Kd.R_slice HO146.out; subst eo72) | (go_at_call 12; (with_reducible refine (davitref02_Ints.calls k _ _ t141 _ _ y144 false _ ?side1 ?side2 ?side3 ?side4 A5.out).mono ?_); (case side1 => repeat (first | exact (Kd.R_reads' HO143.out).2.2 | (with_reducible refine Kd.C_alloc ?_ _) | (with_reducible refine Kd.C_drewN ?_ _) | (with_reducible refine Kd.C_drew ?_))); (case side2 => exact (Kd.R_reads' HO143.out).2.1); (case side3 => repeat (first | exact (Kd.R_reads' HO146.out).2.2 | (with_reducible refine Kd.C_alloc ?_ _) | (with_reducible refine Kd.C_drewN ?_ _) | (with_reducible refine Kd.C_drew ?_))); (case side4 => exact (Kd.R_reads' HO146.out).2.1); rintro e w' ⟨rfl, ⟨nd, rfl⟩⟩))
   go_ret
   exact ⟨by first | rfl | (simp [errW_none, errW_some] <;> rfl) | (simp [*, errW_none, errW_some] <;> rfl), by repeat (first | (with_reducible first | exact HB.out | apply below_alloc | apply pw_below_drewN | apply below_drew1 | refine below_set ?_ GE129.out | refine below_set ?_ GE133.out) | exact HB.out)⟩
 ·replace c3 := Bool.eq_false_iff.mpr c3
  subst c3
  have H1 : (some false) = some r := by rw [if_neg (show ¬ (false = true) by decide)] at H; exact H
  clear H
  have H := H1
  clear H1
  obtain rfl := Option.some.inj H
  go_enter Try.func11, Try.ntmps11
  go_wp2_with (first | ((with_reducible refine gate_dst (N := 1) rfl ?_); (try (refine gate_guard (by rfl) ?_; dsimp only)); refine box_event ?hg (N := 1) ?hd (cs := #[.bool false, .int .i64 0, .slice none 0 0, .bool false, .bool false, .slice none 0 0, .int .i64 0, .int .i64 0, .int .i64 0, .int .i64 0, .slice none 0 0, .int .i64 0, .int .i64 0, .int .i64 0]) (t := 50) ?hr ?_; (case hd => rfl); (case hg => rfl); (case hr => first | (go_simp; done) | (go_simp; rfl)); intro gb129 hg w73 hbox hb; have n0_ := Aside0.mk (below_step (by repeat (first | (with_reducible first | exact HB.out | apply below_alloc | apply pw_below_drewN | apply below_drew1) | exact HB.out)) hb); have n1_ := Aside0.mk (hbox); have n2_ := Aside0.mk ((by rw [hg]; exact (below_size (by repeat (first | (with_reducible first | exact HB.out | apply below_alloc | apply pw_below_drewN | apply below_drew1) | exact HB.out))) : w.heap.size ≤ gb129)); have n3_ := Aside0.mk ((by rw [hg]; exact (below_size (by repeat (first | (with_reducible first | exact HB.out | apply below_alloc | apply pw_below_drewN | apply below_drew1) | exact HB.out))) : w.heap.size ≤ gb129)); clear HB; have HB := n0_; have BK129 := n1_; have GW129 := n2_; have GE129 := n3_; clear n0_ n1_ n2_ n3_; clear hb hbox hg; have hcz74_0 : w73.cell? ⟨gb129, 0, none⟩ = some (.bool false) := (blk_cell BK129.out 0).trans rfl; have hcz74_1 : w73.cell? ⟨gb129, 1, none⟩ = some (.int .i64 0) := (blk_cell BK129.out 1).trans rfl; have hcz74_2 : w73.cell? ⟨gb129, 2, none⟩ = some (.slice none 0 0) := (blk_cell BK129.out 2).trans rfl; have hcz74_3 : w73.cell? ⟨gb129, 3, none⟩ = some (.bool false) := (blk_cell BK129.out 3).trans rfl; have hcz74_4 : w73.cell? ⟨gb129, 4, none⟩ = some (.bool false) := (blk_cell BK129.out 4).trans rfl; have hcz74_5 : w73.cell? ⟨gb129, 5, none⟩ = some (.slice none 0 0) := (blk_cell BK129.out 5).trans rfl; have hcz74_6 : w73.cell? ⟨gb129, 6, none⟩ = some (.int .i64 0) := (blk_cell BK129.out 6).trans rfl; have hcz74_7 : w73.cell? ⟨gb129, 7, none⟩ = some (.int .i64 0) := (blk_cell BK129.out 7).trans rfl; have hcz74_8 : w73.cell? ⟨gb129, 8, none⟩ = some (.int .i64 0) := (blk_cell BK129.out 8).trans rfl; have hcz74_9 : w73.cell? ⟨gb129, 9, none⟩ = some (.int .i64 0) := (blk_cell BK129.out 9).trans rfl; have hcz74_10 : w73.cell? ⟨gb129, 10, none⟩ = some (.slice none 0 0) := (blk_cell BK129.out 10).trans rfl; have hcz74_11 : w73.cell? ⟨gb129, 11, none⟩ = some (.int .i64 0) := (blk_cell BK129.out 11).trans rfl; have hcz74_12 : w73.cell? ⟨gb129, 12, none⟩ = some (.int .i64 0) := (blk_cell BK129.out 12).trans rfl; have hcz74_13 : w73.cell? ⟨gb129, 13, none⟩ = some (.int .i64 0) := (blk_cell BK129.out 13).trans rfl; have hfz74_0 := blk_frozen BK129.out 0; have hfz74_1 := blk_frozen BK129.out 1; have hfz74_2 := blk_frozen BK129.out 2; have hfz74_3 := blk_frozen BK129.out 3; have hfz74_4 := blk_frozen BK129.out 4; have hfz74_5 := blk_frozen BK129.out 5; have hfz74_6 := blk_frozen BK129.out 6; have hfz74_7 := blk_frozen BK129.out 7; have hfz74_8 := blk_frozen BK129.out 8; have hfz74_9 := blk_frozen BK129.out 9; have hfz74_10 := blk_frozen BK129.out 10; have hfz74_11 := blk_frozen BK129.out 11; have hfz74_12 := blk_frozen BK129.out 12; have hfz74_13 := blk_frozen BK129.out 13) | ((with_reducible refine gate_dst (N := 11) rfl ?_); (try (refine gate_guard (by rfl) ?_; dsimp only)); refine Kd.R_lit k50 _ 50 ?hg (N := 11) ?hd (xs := ([(⟨false, (⟨0, ([] : List Int), false, false⟩ : S47), ([] : List (S117)), (⟨3, 0, 0, 0, ([] : List Int), 1, 2, 0⟩ : S44)⟩ : S50), (⟨false, (⟨0, ([] : List Int), false, false⟩ : S47), ([] : List (S117)), (⟨2, 0, 0, 0, ([] : List Int), 3, 0, 0⟩ : S44)⟩ : S50), (⟨false, (⟨0, ([] : List Int), false, false⟩ : S47), ([] : List (S117)), (⟨2, 0, 0, 0, ([] : List Int), 3, 0, 0⟩ : S44)⟩ : S50), (⟨false, (⟨0, ([] : List Int), false, false⟩ : S47), ([] : List (S117)), (⟨1, 0, 0, 0, ([] : List Int), 0, 0, 0⟩ : S44)⟩ : S50)] : List (S50))) (inner := [.bool false, .int .i64 0, .slice none 0 0, .bool false, .bool false, .slice none 0 0, .int .i64 3, .int .i64 0, .int .i64 0, .int .i64 0, .slice none 0 0, .int .i64 1, .int .i64 2, .int .i64 0, .bool false, .int .i64 0, .slice none 0 0, .bool false, .bool false, .slice none 0 0, .int .i64 2, .int .i64 0, .int .i64 0, .int .i64 0, .slice none 0 0, .int .i64 3, .int .i64 0, .int .i64 0, .bool false, .int .i64 0, .slice none 0 0, .bool false, .bool false, .slice none 0 0, .int .i64 2, .int .i64 0, .int .i64 0, .int .i64 0, .slice none 0 0, .int .i64 3, .int .i64 0, .int .i64 0, .bool false, .int .i64 0, .slice none 0 0, .bool false, .bool false, .slice none 0 0, .int .i64 1, .int .i64 0, .int .i64 0, .int .i64 0, .slice none 0 0, .int .i64 0, .int .i64 0, .int .i64 0]) (ok := fun _ => True) (okp := fun _ => True) ?hr ?hp (fun _ hk => hk) trivial (Below.refl _ _) (Nat.le_refl _) (by simp) ?_; (case hd => rfl); (case hg => rfl); (case hr => first | (go_simp; done) | (go_simp; rfl)); (case hp => exact (Reps.front (show Kd.M k50 _ _ _ (⟨false, (⟨0, ([] : List Int), false, false⟩ : S47), ([] : List (S117)), (⟨3, 0, 0, 0, ([] : List Int), 1, 2, 0⟩ : S44)⟩ : S50) [.bool false, .int .i64 0, .slice none 0 0, .bool false, .bool false, .slice none 0 0, .int .i64 3, .int .i64 0, .int .i64 0, .int .i64 0, .slice none 0 0, .int .i64 1, .int .i64 2, .int .i64 0] from (k50_mkM _ _ _ (⟨false, (⟨0, ([] : List Int), false, false⟩ : S47), ([] : List (S117)), (⟨3, 0, 0, 0, ([] : List Int), 1, 2, 0⟩ : S44)⟩ : S50) (Kd.R_nil _ _ _ _ _) (Kd.R_nil _ _ _ _ _) (Kd.R_nil _ _ _ _ _))) rfl (Reps.front (show Kd.M k50 _ _ _ (⟨false, (⟨0, ([] : List Int), false, false⟩ : S47), ([] : List (S117)), (⟨2, 0, 0, 0, ([] : List Int), 3, 0, 0⟩ : S44)⟩ : S50) [.bool false, .int .i64 0, .slice none 0 0, .bool false, .bool false, .slice none 0 0, .int .i64 2, .int .i64 0, .int .i64 0, .int .i64 0, .slice none 0 0, .int .i64 3, .int .i64 0, .int .i64 0] from (k50_mkM _ _ _ (⟨false, (⟨0, ([] : List Int), false, false⟩ : S47), ([] : List (S117)), (⟨2, 0, 0, 0, ([] : List Int), 3, 0, 0⟩ : S44)⟩ : S50) (Kd.R_nil _ _ _ _ _) (Kd.R_nil _ _ _ _ _) (Kd.R_nil _ _ _ _ _))) rfl (Reps.front (show Kd.M k50 _ _ _ (⟨false, (⟨0, ([] : List Int), false, false⟩ : S47), ([] : List (S117)), (⟨2, 0, 0, 0, ([] : List Int), 3, 0, 0⟩ : S44)⟩ : S50) [.bool false, .int .i64 0, .slice none 0 0, .bool false, .bool false, .slice none 0 0, .int .i64 2, .int .i64 0, .int .i64 0, .int .i64 0, .slice none 0 0, .int .i64 3, .int .i64 0, .int .i64 0] from (k50_mkM _ _ _ (⟨false, (⟨0, ([] : List Int), false, false⟩ : S47), ([] : List (S117)), (⟨2, 0, 0, 0, ([] : List Int), 3, 0, 0⟩ : S44)⟩ : S50) (Kd.R_nil _ _ _ _ _) (Kd.R_nil _ _ _ _ _) (Kd.R_nil _ _ _ _ _))) rfl (Reps.front (show Kd.M k50 _ _ _ (⟨false, (⟨0, ([] : List Int), false, false⟩ : S47), ([] : List (S117)), (⟨1, 0, 0, 0, ([] : List Int), 0, 0, 0⟩ : S44)⟩ : S50) [.bool false, .int .i64 0, .slice none 0 0, .bool false, .bool false, .slice none 0 0, .int .i64 1, .int .i64 0, .int .i64 0, .int .i64 0, .slice none 0 0, .int .i64 0, .int .i64 0, .int .i64 0] from (k50_mkM _ _ _ (⟨false, (⟨0, ([] : List Int), false, false⟩ : S47), ([] : List (S117)), (⟨1, 0, 0, 0, ([] : List Int), 0, 0, 0⟩ : S44)⟩ : S50) (Kd.R_nil _ _ _ _ _) (Kd.R_nil _ _ _ _ _) (Kd.R_nil _ _ _ _ _))) rfl (Reps.none _ _) rfl) rfl) rfl) rfl)); intro v131 w75 ho76 hb hg_ hnew_; clear hg_ hnew_; (first | rw [← Ny130.out] at ho76 | (simp only [Int.reduceToNat] at ho76; rw [← Ny130.out] at ho76)); have n0_ := Aside0.mk (Kd.R_lower (Kd.R_newB ho76 (g := gb129) (o := .cells #[.bool false, .int .i64 0, .slice none 0 0, .bool false, .bool false, .slice none 0 0, .int .i64 2, .int .i64 0, .int .i64 0, .int .i64 0, .slice none 0 0, .int .i64 3, .int .i64 0, .int .i64 0] 50 (0, 0)) (by (with_reducible repeat (first | refine blk_drewN ?_ _ | refine blk_drew ?_ | refine blk_alloc ?_ _)); refine blk_put (cs := #[.bool false, .int .i64 0, .slice none 0 0, .bool false, .bool false, .slice none 0 0, .int .i64 2, .int .i64 0, .int .i64 0, .int .i64 0, .slice none 0 0, .int .i64 3, .int .i64 0, .int .i64 0]) ?_ 13 _ rfl; (with_reducible repeat (first | refine blk_drewN ?_ _ | refine blk_drew ?_ | refine blk_alloc ?_ _)); refine blk_put (cs := #[.bool false, .int .i64 0, .slice none 0 0, .bool false, .bool false, .slice none 0 0, .int .i64 2, .int .i64 0, .int .i64 0, .int .i64 0, .slice none 0 0, .int .i64 3, .int .i64 0, .int .i64 0]) ?_ 12 _ rfl; (with_reducible repeat (first | refine blk_drewN ?_ _ | refine blk_drew ?_ | refine blk_alloc ?_ _)); refine blk_put (cs := #[.bool false, .int .i64 0, .slice none 0 0, .bool false, .bool false, .slice none 0 0, .int .i64 2, .int .i64 0, .int .i64 0, .int .i64 0, .slice none 0 0, .int .i64 0, .int .i64 0, .int .i64 0]) ?_ 11 _ rfl; (with_reducible repeat (first | refine blk_drewN ?_ _ | refine blk_drew ?_ | refine blk_alloc ?_ _)); refine blk_put (cs := #[.bool false, .int .i64 0, .slice none 0 0, .bool false, .bool false, .slice none 0 0, .int .i64 2, .int .i64 0, .int .i64 0, .int .i64 0, .slice none 0 0, .int .i64 0, .int .i64 0, .int .i64 0]) ?_ 10 _ rfl; (with_reducible repeat (first | refine blk_drewN ?_ _ | refine blk_drew ?_ | refine blk_alloc ?_ _)); refine blk_put (cs := #[.bool false, .int .i64 0, .slice none 0 0, .bool false, .bool false, .slice none 0 0, .int .i64 2, .int .i64 0, .int .i64 0, .int .i64 0, .slice none 0 0, .int .i64 0, .int .i64 0, .int .i64 0]) ?_ 9 _ rfl; (with_reducible repeat (first | refine blk_drewN ?_ _ | refine blk_drew ?_ | refine blk_alloc ?_ _)); refine blk_put (cs := #[.bool false, .int .i64 0, .slice none 0 0, .bool false, .bool false, .slice none 0 0, .int .i64 2, .int .i64 0, .int .i64 0, .int .i64 0, .slice none 0 0, .int .i64 0, .int .i64 0, .int .i64 0]) ?_ 8 _ rfl; (with_reducible repeat (first | refine blk_drewN ?_ _ | refine blk_drew ?_ | refine blk_alloc ?_ _)); refine blk_put (cs := #[.bool false, .int .i64 0, .slice none 0 0, .bool false, .bool false, .slice none 0 0, .int .i64 2, .int .i64 0, .int .i64 0, .int .i64 0, .slice none 0 0, .int .i64 0, .int .i64 0, .int .i64 0]) ?_ 7 _ rfl; (with_reducible repeat (first | refine blk_drewN ?_ _ | refine blk_drew ?_ | refine blk_alloc ?_ _)); refine blk_put (cs := #[.bool false, .int .i64 0, .slice none 0 0, .bool false, .bool false, .slice none 0 0, .int .i64 0, .int .i64 0, .int .i64 0, .int .i64 0, .slice none 0 0, .int .i64 0, .int .i64 0, .int .i64 0]) ?_ 6 _ rfl; (with_reducible repeat (first | refine blk_drewN ?_ _ | refine blk_drew ?_ | refine blk_alloc ?_ _)); refine blk_put (cs := #[.bool false, .int .i64 0, .slice none 0 0, .bool false, .bool false, .slice none 0 0, .int .i64 0, .int .i64 0, .int .i64 0, .int .i64 0, .slice none 0 0, .int .i64 0, .int .i64 0, .int .i64 0]) ?_ 5 _ rfl; (with_reducible repeat (first | refine blk_drewN ?_ _ | refine blk_drew ?_ | refine blk_alloc ?_ _)); refine blk_put (cs := #[.bool false, .int .i64 0, .slice none 0 0, .bool false, .bool false, .slice none 0 0, .int .i64 0, .int .i64 0, .int .i64 0, .int .i64 0, .slice none 0 0, .int .i64 0, .int .i64 0, .int .i64 0]) ?_ 4 _ rfl; (with_reducible repeat (first | refine blk_drewN ?_ _ | refine blk_drew ?_ | refine blk_alloc ?_ _)); refine blk_put (cs := #[.bool false, .int .i64 0, .slice none 0 0, .bool false, .bool false, .slice none 0 0, .int .i64 0, .int .i64 0, .int .i64 0, .int .i64 0, .slice none 0 0, .int .i64 0, .int .i64 0, .int .i64 0]) ?_ 3 _ rfl; (with_reducible repeat (first | refine blk_drewN ?_ _ | refine blk_drew ?_ | refine blk_alloc ?_ _)); refine blk_put (cs := #[.bool false, .int .i64 0, .slice none 0 0, .bool false, .bool false, .slice none 0 0, .int .i64 0, .int .i64 0, .int .i64 0, .int .i64 0, .slice none 0 0, .int .i64 0, .int .i64 0, .int .i64 0]) ?_ 2 _ rfl; (with_reducible repeat (first | refine blk_drewN ?_ _ | refine blk_drew ?_ | refine blk_alloc ?_ _)); refine blk_put (cs := #[.bool false, .int .i64 0, .slice none 0 0, .bool false, .bool false, .slice none 0 0, .int .i64 0, .int .i64 0, .int .i64 0, .int .i64 0, .slice none 0 0, .int .i64 0, .int .i64 0, .int .i64 0]) ?_ 1 _ rfl; (with_reducible repeat (first | refine blk_drewN ?_ _ | refine blk_drew ?_ | refine blk_alloc ?_ _)); refine blk_put (cs := #[.bool false, .int .i64 0, .slice none 0 0, .bool false, .bool false, .slice none 0 0, .int .i64 0, .int .i64 0, .int .i64 0, .int .i64 0, .slice none 0 0, .int .i64 0, .int .i64 0, .int .i64 0]) ?_ 0 _ rfl; (with_reducible repeat (first | refine blk_drewN ?_ _ | refine blk_drew ?_ | refine blk_alloc ?_ _)); exact BK129.out)) (below_size (by repeat (first | (with_reducible first | exact HB.out | apply below_alloc | apply pw_below_drewN | apply below_drew1 | refine below_set ?_ GE129.out) | exact HB.out)))); have n1_ := Aside0.mk (blk_below (g := gb129) (o := .cells #[.bool false, .int .i64 0, .slice none 0 0, .bool false, .bool false, .slice none 0 0, .int .i64 2, .int .i64 0, .int .i64 0, .int .i64 0, .slice none 0 0, .int .i64 3, .int .i64 0, .int .i64 0] 50 (0, 0)) (by (with_reducible repeat (first | refine blk_drewN ?_ _ | refine blk_drew ?_ | refine blk_alloc ?_ _)); refine blk_put (cs := #[.bool false, .int .i64 0, .slice none 0 0, .bool false, .bool false, .slice none 0 0, .int .i64 2, .int .i64 0, .int .i64 0, .int .i64 0, .slice none 0 0, .int .i64 3, .int .i64 0, .int .i64 0]) ?_ 13 _ rfl; (with_reducible repeat (first | refine blk_drewN ?_ _ | refine blk_drew ?_ | refine blk_alloc ?_ _)); refine blk_put (cs := #[.bool false, .int .i64 0, .slice none 0 0, .bool false, .bool false, .slice none 0 0, .int .i64 2, .int .i64 0, .int .i64 0, .int .i64 0, .slice none 0 0, .int .i64 3, .int .i64 0, .int .i64 0]) ?_ 12 _ rfl; (with_reducible repeat (first | refine blk_drewN ?_ _ | refine blk_drew ?_ | refine blk_alloc ?_ _)); refine blk_put (cs := #[.bool false, .int .i64 0, .slice none 0 0, .bool false, .bool false, .slice none 0 0, .int .i64 2, .int .i64 0, .int .i64 0, .int .i64 0, .slice none 0 0, .int .i64 0, .int .i64 0, .int .i64 0]) ?_ 11 _ rfl; (with_reducible repeat (first | refine blk_drewN ?_ _ | refine blk_drew ?_ | refine blk_alloc ?_ _)); refine blk_put (cs := #[.bool false, .int .i64 0, .slice none 0 0, .bool false, .bool false, .slice none 0 0, .int .i64 2, .int .i64 0, .int .i64 0, .int .i64 0, .slice none 0 0, .int .i64 0, .int .i64 0, .int .i64 0]) ?_ 10 _ rfl; (with_reducible repeat (first | refine blk_drewN ?_ _ | refine blk_drew ?_ | refine blk_alloc ?_ _)); refine blk_put (cs := #[.bool false, .int .i64 0, .slice none 0 0, .bool false, .bool false, .slice none 0 0, .int .i64 2, .int .i64 0, .int .i64 0, .int .i64 0, .slice none 0 0, .int .i64 0, .int .i64 0, .int .i64 0]) ?_ 9 _ rfl; (with_reducible repeat (first | refine blk_drewN ?_ _ | refine blk_drew ?_ | refine blk_alloc ?_ _)); refine blk_put (cs := #[.bool false, .int .i64 0, .slice none 0 0, .bool false, .bool false, .slice none 0 0, .int .i64 2, .int .i64 0, .int .i64 0, .int .i64 0, .slice none 0 0, .int .i64 0, .int .i64 0, .int .i64 0]) ?_ 8 _ rfl; (with_reducible repeat (first | refine blk_drewN ?_ _ | refine blk_drew ?_ | refine blk_alloc ?_ _)); refine blk_put (cs := #[.bool false, .int .i64 0, .slice none 0 0, .bool false, .bool false, .slice none 0 0, .int .i64 2, .int .i64 0, .int .i64 0, .int .i64 0, .slice none 0 0, .int .i64 0, .int .i64 0, .int .i64 0]) ?_ 7 _ rfl; (with_reducible repeat (first | refine blk_drewN ?_ _ | refine blk_drew ?_ | refine blk_alloc ?_ _)); refine blk_put (cs := #[.bool false, .int .i64 0, .slice none 0 0, .bool false, .bool false, .slice none 0 0, .int .i64 0, .int .i64 0, .int .i64 0, .int .i64 0, .slice none 0 0, .int .i64 0, .int .i64 0, .int .i64 0]) ?_ 6 _ rfl; (with_reducible repeat (first | refine blk_drewN ?_ _ | refine blk_drew ?_ | refine blk_alloc ?_ _)); refine blk_put (cs := #[.bool false, .int .i64 0, .slice none 0 0, .bool false, .bool false, .slice none 0 0, .int .i64 0, .int .i64 0, .int .i64 0, .int .i64 0, .slice none 0 0, .int .i64 0, .int .i64 0, .int .i64 0]) ?_ 5 _ rfl; (with_reducible repeat (first | refine blk_drewN ?_ _ | refine blk_drew ?_ | refine blk_alloc ?_ _)); refine blk_put (cs := #[.bool false, .int .i64 0, .slice none 0 0, .bool false, .bool false, .slice none 0 0, .int .i64 0, .int .i64 0, .int .i64 0, .int .i64 0, .slice none 0 0, .int .i64 0, .int .i64 0, .int .i64 0]) ?_ 4 _ rfl; (with_reducible repeat (first | refine blk_drewN ?_ _ | refine blk_drew ?_ | refine blk_alloc ?_ _)); refine blk_put (cs := #[.bool false, .int .i64 0, .slice none 0 0, .bool false, .bool false, .slice none 0 0, .int .i64 0, .int .i64 0, .int .i64 0, .int .i64 0, .slice none 0 0, .int .i64 0, .int .i64 0, .int .i64 0]) ?_ 3 _ rfl; (with_reducible repeat (first | refine blk_drewN ?_ _ | refine blk_drew ?_ | refine blk_alloc ?_ _)); refine blk_put (cs := #[.bool false, .int .i64 0, .slice none 0 0, .bool false, .bool false, .slice none 0 0, .int .i64 0, .int .i64 0, .int .i64 0, .int .i64 0, .slice none 0 0, .int .i64 0, .int .i64 0, .int .i64 0]) ?_ 2 _ rfl; (with_reducible repeat (first | refine blk_drewN ?_ _ | refine blk_drew ?_ | refine blk_alloc ?_ _)); refine blk_put (cs := #[.bool false, .int .i64 0, .slice none 0 0, .bool false, .bool false, .slice none 0 0, .int .i64 0, .int .i64 0, .int .i64 0, .int .i64 0, .slice none 0 0, .int .i64 0, .int .i64 0, .int .i64 0]) ?_ 1 _ rfl; (with_reducible repeat (first | refine blk_drewN ?_ _ | refine blk_drew ?_ | refine blk_alloc ?_ _)); refine blk_put (cs := #[.bool false, .int .i64 0, .slice none 0 0, .bool false, .bool false, .slice none 0 0, .int .i64 0, .int .i64 0, .int .i64 0, .int .i64 0, .slice none 0 0, .int .i64 0, .int .i64 0, .int .i64 0]) ?_ 0 _ rfl; (with_reducible repeat (first | refine blk_drewN ?_ _ | refine blk_drew ?_ | refine blk_alloc ?_ _)); exact BK129.out) hb); have n2_ := Aside0.mk (below_step (by repeat (first | (with_reducible first | exact HB.out | apply below_alloc | apply pw_below_drewN | apply below_drew1 | refine below_set ?_ GE129.out) | exact HB.out)) hb); clear BK129; clear HB; have HO132 := n0_; have BK129 := n1_; have HB := n2_; clear n0_ n1_ n2_; clear hb ho76; obtain ⟨Ao77, co77, eo77⟩ := Kd.R_slice HO132.out; subst eo77) | ((with_reducible refine gate_dst (N := 2) rfl ?_); (try (refine gate_guard (by rfl) ?_; dsimp only)); refine box_event ?hg (N := 2) ?hd (cs := #[.int .i64 0, .int .i64 0, .slice none 0 0]) (t := 24) ?hr ?_; (case hd => rfl); (case hg => rfl); (case hr => first | (go_simp; done) | (go_simp; rfl)); intro gb133 hg w78 hbox hb; have n0_ := Aside0.mk (Kd.R_below (by (with_reducible repeat (first | apply Kd.R_alloc | apply Kd.R_drewN | apply Kd.R_drew)); exact HO132.out) hb); have n1_ := Aside0.mk (blk_below (g := gb129) (o := .cells #[.bool false, .int .i64 0, .slice none 0 0, .bool false, .bool false, .slice none 0 0, .int .i64 2, .int .i64 0, .int .i64 0, .int .i64 0, .slice none 0 0, .int .i64 3, .int .i64 0, .int .i64 0] 50 (0, 0)) (by (with_reducible repeat (first | refine blk_drewN ?_ _ | refine blk_drew ?_ | refine blk_alloc ?_ _)); exact BK129.out) hb); have n2_ := Aside0.mk (below_step (by repeat (first | (with_reducible first | exact HB.out | apply below_alloc | apply pw_below_drewN | apply below_drew1 | refine below_set ?_ GE129.out) | exact HB.out)) hb); have n3_ := Aside0.mk (hbox); have n4_ := Aside0.mk ((by rw [hg]; exact (below_size (by repeat (first | (with_reducible first | exact HB.out | apply below_alloc | apply pw_below_drewN | apply below_drew1 | refine below_set ?_ GE129.out) | exact HB.out))) : w.heap.size ≤ gb133)); have n5_ := Aside0.mk ((by rw [hg]; exact (below_size (by repeat (first | (with_reducible first | exact HB.out | apply below_alloc | apply pw_below_drewN | apply below_drew1 | refine below_set ?_ GE129.out) | exact HB.out))) : w.heap.size ≤ gb133)); have n6_ := Aside0.mk ((by rw [hg]; exact Nat.ne_of_lt (blk_lt (g := gb129) (o := .cells #[.bool false, .int .i64 0, .slice none 0 0, .bool false, .bool false, .slice none 0 0, .int .i64 2, .int .i64 0, .int .i64 0, .int .i64 0, .slice none 0 0, .int .i64 3, .int .i64 0, .int .i64 0] 50 (0, 0)) (by (with_reducible repeat (first | refine blk_drewN ?_ _ | refine blk_drew ?_ | refine blk_alloc ?_ _)); exact BK129.out)) : gb129 ≠ gb133)); have n7_ := Aside0.mk ((by rw [hg]; exact Nat.ne_of_gt (blk_lt (g := gb129) (o := .cells #[.bool false, .int .i64 0, .slice none 0 0, .bool false, .bool false, .slice none 0 0, .int .i64 2, .int .i64 0, .int .i64 0, .int .i64 0, .slice none 0 0, .int .i64 3, .int .i64 0, .int .i64 0] 50 (0, 0)) (by (with_reducible repeat (first | refine blk_drewN ?_ _ | refine blk_drew ?_ | refine blk_alloc ?_ _)); exact BK129.out)) : gb133 ≠ gb129)); clear HO132; clear BK129; clear HB; have HO132 := n0_; have BK129 := n1_; have HB := n2_; have BK133 := n3_; have GW133 := n4_; have GE133 := n5_; have NB129_133 := n6_; have NB133_129 := n7_; clear n0_ n1_ n2_ n3_ n4_ n5_ n6_ n7_; clear hb hbox hg; have hnb79 := NB133_129.out; have hnc79 := NB129_133.out; have hcz80_0 : w78.cell? ⟨gb133, 0, none⟩ = some (.int .i64 0) := (blk_cell BK133.out 0).trans rfl; have hcz80_1 : w78.cell? ⟨gb133, 1, none⟩ = some (.int .i64 0) := (blk_cell BK133.out 1).trans rfl; have hcz80_2 : w78.cell? ⟨gb133, 2, none⟩ = some (.slice none 0 0) := (blk_cell BK133.out 2).trans rfl; have hfz80_0 := blk_frozen BK133.out 0; have hfz80_1 := blk_frozen BK133.out 1; have hfz80_2 := blk_frozen BK133.out 2) | ((with_reducible refine gate_callee (f := 13) rfl ?_); refine goesL_ (some 14) rfl rfl Try.func13 (by kernel_rfl) rfl #[.agg #[.int .i64 0, .int .i64 1, .slice Ao77 y130.length co77]] rfl (by (try simp only [List.map_toArray, List.map_cons, List.map_nil]); first | done | rfl | (simp only [List.length_drop, List.length_take]; rfl)) ?_; (with_reducible refine (dom_Over.calls 0 1 _ _ y130 t134 _ ?side1 ?side2 A1.out).mono ?_); (case side1 => refine (Kd.R_reads' (e := 50) (base := w.heap.size) (ok := fun k_ => (True ∧ k_ ≠ gb129)) (n := y130.length) (c := co77) ?_).2.2; exact (by (with_reducible repeat (first | apply Kd.R_alloc | apply Kd.R_drewN | apply Kd.R_drew)); exact (Kd.R_mono (Kd.R_far (p := ⟨gb133, 2, none⟩) (Kd.R_far (p := ⟨gb133, 1, none⟩) (Kd.R_far (p := ⟨gb133, 0, none⟩) (Kd.R_types HO132.out BK133.out (by decide)) (fun _ hk => hk.2) (.int .i64 0)) (fun _ hk => hk.2) (.int .i64 1)) (fun _ hk => hk.2) (.slice Ao77 y130.length co77)) (fun _ h_ => h_.1)))); (case side2 => exact (Kd.R_reads' HO132.out).2.1); rintro e w81 ⟨v135, rfl, ho0, hb⟩; refine ⟨_, rfl, ?_⟩; have n0_ := Aside0.mk (Kd.R_elder' (by (with_reducible repeat (first | apply Kd.R_alloc | apply Kd.R_drewN | apply Kd.R_drew)); exact (Kd.R_mono (Kd.R_far (p := ⟨gb133, 2, none⟩) (Kd.R_far (p := ⟨gb133, 1, none⟩) (Kd.R_far (p := ⟨gb133, 0, none⟩) (Kd.R_types HO132.out BK133.out (by decide)) (fun _ hk => hk.2) (.int .i64 0)) (fun _ hk => hk.2) (.int .i64 1)) (fun _ hk => hk.2) (.slice Ao77 y130.length co77)) (fun _ h_ => h_.1))) (Kd.R_base ho0) hb); have n1_ := Aside0.mk (Kd.R_lower ho0 (below_size (by repeat (first | (with_reducible first | exact HB.out | apply below_alloc | apply pw_below_drewN | apply below_drew1 | refine below_set ?_ GE129.out | refine below_set ?_ GE133.out) | exact HB.out)))); have n2_ := Aside0.mk (blk_below (g := gb129) (o := .cells #[.bool false, .int .i64 0, .slice none 0 0, .bool false, .bool false, .slice none 0 0, .int .i64 2, .int .i64 0, .int .i64 0, .int .i64 0, .slice none 0 0, .int .i64 3, .int .i64 0, .int .i64 0] 50 (0, 0)) (by (with_reducible repeat (first | refine blk_drewN ?_ _ | refine blk_drew ?_ | refine blk_alloc ?_ _)); refine blk_far ?_ NB129_133.out _; (with_reducible repeat (first | refine blk_drewN ?_ _ | refine blk_drew ?_ | refine blk_alloc ?_ _)); refine blk_far ?_ NB129_133.out _; (with_reducible repeat (first | refine blk_drewN ?_ _ | refine blk_drew ?_ | refine blk_alloc ?_ _)); refine blk_far ?_ NB129_133.out _; (with_reducible repeat (first | refine blk_drewN ?_ _ | refine blk_drew ?_ | refine blk_alloc ?_ _)); exact BK129.out) hb); have n3_ := Aside0.mk (blk_below (g := gb133) (o := .cells #[.int .i64 0, .int .i64 1, .slice Ao77 y130.length co77] 24 (0, 0)) (by (with_reducible repeat (first | refine blk_drewN ?_ _ | refine blk_drew ?_ | refine blk_alloc ?_ _)); refine blk_put (cs := #[.int .i64 0, .int .i64 1, .slice none 0 0]) ?_ 2 _ rfl; (with_reducible repeat (first | refine blk_drewN ?_ _ | refine blk_drew ?_ | refine blk_alloc ?_ _)); refine blk_put (cs := #[.int .i64 0, .int .i64 0, .slice none 0 0]) ?_ 1 _ rfl; (with_reducible repeat (first | refine blk_drewN ?_ _ | refine blk_drew ?_ | refine blk_alloc ?_ _)); refine blk_put (cs := #[.int .i64 0, .int .i64 0, .slice none 0 0]) ?_ 0 _ rfl; (with_reducible repeat (first | refine blk_drewN ?_ _ | refine blk_drew ?_ | refine blk_alloc ?_ _)); exact BK133.out) hb); have n4_ := Aside0.mk (below_step (by repeat (first | (with_reducible first | exact HB.out | apply below_alloc | apply pw_below_drewN | apply below_drew1 | refine below_set ?_ GE129.out | refine below_set ?_ GE133.out) | exact HB.out)) hb); clear HO132; clear BK129; clear BK133; clear HB; have HO132 := n0_; have HO136 := n1_; have BK129 := n2_; have BK133 := n3_; have HB := n4_; clear n0_ n1_ n2_ n3_ n4_; (try clear hb); (try clear hb2); (try clear hk); (try clear hi); (try clear ho0)) | ((with_reducible refine gate_dst (N := 15) rfl ?_); (try (refine gate_guard (by rfl) ?_; dsimp only)); refine Kd.R_lit (Kd.int .i64) _ 3 ?hg (N := 15) ?hd (xs := ([(-1), 0, 0, 0] : List Int)) (inner := [.int .i64 (-1), .int .i64 0, .int .i64 0, .int .i64 0]) (ok := fun _ => True) (okp := fun _ => True) ?hr ?hp (fun _ hk => hk) trivial (Below.refl _ _) (Nat.le_refl _) (by simp) ?_; (case hd => rfl); (case hg => rfl); (case hr => first | (go_simp; done) | (go_simp; rfl)); (case hp => exact (Reps.one (show Kd.M (Kd.int .i64) _ _ _ (-1) [.int .i64 (-1)] from rfl) (Reps.one (show Kd.M (Kd.int .i64) _ _ _ 0 [.int .i64 0] from rfl) (Reps.one (show Kd.M (Kd.int .i64) _ _ _ 0 [.int .i64 0] from rfl) (Reps.one (show Kd.M (Kd.int .i64) _ _ _ 0 [.int .i64 0] from rfl) (Reps.none _ _)))))); intro v138 w82 ho83 hb hg_ hnew_; clear hg_ hnew_; (first | rw [← Ny137.out] at ho83 | (simp only [Int.reduceToNat] at ho83; rw [← Ny137.out] at ho83)); have n0_ := Aside0.mk (Kd.R_elder' (by (with_reducible repeat (first | apply Kd.R_alloc | apply Kd.R_drewN | apply Kd.R_drew)); exact HO132.out) (Kd.R_base ho83) hb); have n1_ := Aside0.mk (Kd.R_elder' (by (with_reducible repeat (first | apply Kd.R_alloc | apply Kd.R_drewN | apply Kd.R_drew)); exact HO136.out) (Kd.R_base ho83) hb); have n2_ := Aside0.mk (Kd.R_lower (Kd.R_new' ho83 (Kd.R_lt (by (with_reducible repeat (first | apply Kd.R_alloc | apply Kd.R_drewN | apply Kd.R_drew)); exact HO136.out))) (below_size (by repeat (first | (with_reducible first | exact HB.out | apply below_alloc | apply pw_below_drewN | apply below_drew1 | refine below_set ?_ GE129.out | refine below_set ?_ GE133.out) | exact HB.out)))); have n3_ := Aside0.mk (blk_below (g := gb129) (o := .cells #[.bool false, .int .i64 0, .slice none 0 0, .bool false, .bool false, .slice none 0 0, .int .i64 2, .int .i64 0, .int .i64 0, .int .i64 0, .slice none 0 0, .int .i64 3, .int .i64 0, .int .i64 0] 50 (0, 0)) (by (with_reducible repeat (first | refine blk_drewN ?_ _ | refine blk_drew ?_ | refine blk_alloc ?_ _)); exact BK129.out) hb); have n4_ := Aside0.mk (blk_below (g := gb133) (o := .cells #[.int .i64 0, .int .i64 1, .slice Ao77 y130.length co77] 24 (0, 0)) (by (with_reducible repeat (first | refine blk_drewN ?_ _ | refine blk_drew ?_ | refine blk_alloc ?_ _)); exact BK133.out) hb); have n5_ := Aside0.mk (below_step (by repeat (first | (with_reducible first | exact HB.out | apply below_alloc | apply pw_below_drewN | apply below_drew1 | refine below_set ?_ GE129.out | refine below_set ?_ GE133.out) | exact HB.out)) hb); clear HO132; clear HO136; clear BK129; clear BK133; clear HB; have HO132 := n0_; have HO136 := n1_; have HO139 := n2_; have BK129 := n3_; have BK133 := n4_; have HB := n5_; clear n0_ n1_ n2_ n3_ n4_ n5_; clear hb ho83; obtain ⟨Ao84, co84, eo84⟩ := Kd.R_slice HO136.out; subst eo84; obtain ⟨Ao85, co85, eo85⟩ := Kd.R_slice HO139.out; subst eo85) | ((with_reducible refine gate_callee (f := 12) rfl ?_); refine goesL_ (some 16) rfl rfl Try.func12 (by kernel_rfl) rfl #[.slice Ao84 t134.length co84, .slice Ao85 y137.length co85] rfl (by (try simp only [List.map_toArray, List.map_cons, List.map_nil]); first | done | rfl | (simp only [List.length_drop, List.length_take]; rfl)) ?_; (with_reducible refine (davitref02_Ints.calls k _ _ t134 _ _ y137 false _ ?side1 ?side2 ?side3 ?side4 A2.out).mono ?_); (case side1 => repeat (first | exact (Kd.R_reads' HO136.out).2.2 | (with_reducible refine Kd.C_alloc ?_ _) | (with_reducible refine Kd.C_drewN ?_ _) | (with_reducible refine Kd.C_drew ?_))); (case side2 => exact (Kd.R_reads' HO136.out).2.1); (case side3 => repeat (first | exact (Kd.R_reads' HO139.out).2.2 | (with_reducible refine Kd.C_alloc ?_ _) | (with_reducible refine Kd.C_drewN ?_ _) | (with_reducible refine Kd.C_drew ?_))); (case side4 => exact (Kd.R_reads' HO139.out).2.1); rintro e w' ⟨rfl, ⟨nd, rfl⟩⟩; refine ⟨_, rfl, ?_⟩))
  go_ret
  exact ⟨by first | rfl | (simp [errW_none, errW_some] <;> rfl) | (simp [*, errW_none, errW_some] <;> rfl), by repeat (first | (with_reducible first | exact HB.out | apply below_alloc | apply pw_below_drewN | apply below_drew1 | refine below_set ?_ GE129.out | refine below_set ?_ GE133.out) | exact HB.out)⟩
end
end Go.Proofs.Ytilopoegoddggaa.X
namespace Go.Proofs.Ytilopoegoddggaa.X
open Go.RowKit Go.Proofs.YtilopoegoddggaaW.PrintWords Go.Proofs.YtilopoegoddggaaW.PrintLast Go.Proofs.YtilopoegoddggaaW.PrintMore
attribute [local go_sem] max2_int min2_int max_two min_two max_three min_three max_four min_four
set_option linter.all false
noncomputable section
mutual
def davitlaw08_DomChain.l0 : Nat → List Int → Int → Int → Int → List (S50) → Option (Bool)
 | 0, _, _, _, _, _ => none
 | k + 1, x3, x4, x317000, x317001, x317002 => if x4 < (x317002.length : Int) then ((flow_Reached.f x317000 x317001 x317002).bind fun t321 => (if 0 ≤ x4 then (if x4 < (t321.length : Int) then (if rdOf false t321 x4 = true then (if 0 ≤ (x317002.length : Int) then (if ((x317002.length : Int) : Int).toNat ≤ 281474976710656 then (davitlaw08_DomChain.l1 k x3 x4 (List.replicate ((x317002.length : Int) : Int).toNat false) x4 0 x317000 x317001 x317002) else (none)) else (none)) else (davitlaw08_DomChain.l0 k x3 (wrap64 (x4 + 1)) x317000 x317001 x317002)) else (none)) else (none))) else (some true)
def davitlaw08_DomChain.j2 : Nat → List Int → Int → List Bool → Int → Int → Int → List (S50) → Option (Bool)
 | 0, _, _, _, _, _, _, _ => none
 | k + 1, x3, x4, x5, x6, x317000, x317001, x317002 => if x6 = 0 then (if 0 < (x5.length : Int) then (davitlaw08_DomChain.l2 k x3 x4 (x5.set (0 : Int).toNat true) 0 x317000 x317001 x317002) else (none)) else (some false)
def davitlaw08_DomChain.l2 : Nat → List Int → Int → List Bool → Int → Int → Int → List (S50) → Option (Bool)
 | 0, _, _, _, _, _, _, _ => none
 | k + 1, x3, x4, x5, x8, x317000, x317001, x317002 => if x8 < (x317002.length : Int) then (if 0 ≤ x8 then (if x8 < (x5.length : Int) then ((dom_Is.f k x317000 x317001 x317002 x8 x4).bind fun t332 => (if ((rdOf false x5 x8) != t332) = true then (some false) else (davitlaw08_DomChain.l2 k x3 x4 x5 (wrap64 (x8 + 1)) x317000 x317001 x317002))) else (none)) else (none)) else (davitlaw08_DomChain.l0 k x3 (wrap64 (x4 + 1)) x317000 x317001 x317002)
def davitlaw08_DomChain.l1 : Nat → List Int → Int → List Bool → Int → Int → Int → Int → List (S50) → Option (Bool)
 | 0, _, _, _, _, _, _, _, _ => none
 | k + 1, x3, x4, x5, x6, x7, x317000, x317001, x317002 => if x6 > 0 then (if x7 ≤ (x317002.length : Int) then (if 0 ≤ x6 then (if x6 < (x5.length : Int) then (if x6 < (x3.length : Int) then (davitlaw08_DomChain.l1 k x3 x4 (x5.set (x6 : Int).toNat true) (rd x3 x6) (wrap64 (x7 + 1)) x317000 x317001 x317002) else (none)) else (none)) else (none)) else (davitlaw08_DomChain.j2 k x3 x4 x5 x6 x317000 x317001 x317002)) else (davitlaw08_DomChain.j2 k x3 x4 x5 x6 x317000 x317001 x317002)
end
def davitlaw08_DomChain.f (k : Nat) (a0_0 : Int) (a0_1 : Int) (l0_2 : List (S50)) : Option (Bool) := (davitlaw08_awake.f k).bind fun t317 => (if t317 = true then (if (l0_2.length : Int) > 30 then (some true) else ((dom_Over.f a0_0 a0_1 l0_2).bind fun t318 => (if (t318.length : Int) = (l0_2.length : Int) then (davitlaw08_DomChain.l0 k t318 0 a0_0 a0_1 l0_2) else (some false)))) else (some false))
theorem davitlaw08_DomChain.mono_l : ∀ k, (∀ y0 y1 y2 y3 y4, LeO (davitlaw08_DomChain.l0 k y0 y1 y2 y3 y4) (davitlaw08_DomChain.l0 (k + 1) y0 y1 y2 y3 y4)) ∧ (∀ y0 y1 y2 y3 y4 y5 y6, LeO (davitlaw08_DomChain.j2 k y0 y1 y2 y3 y4 y5 y6) (davitlaw08_DomChain.j2 (k + 1) y0 y1 y2 y3 y4 y5 y6)) ∧ (∀ y0 y1 y2 y3 y4 y5 y6, LeO (davitlaw08_DomChain.l2 k y0 y1 y2 y3 y4 y5 y6) (davitlaw08_DomChain.l2 (k + 1) y0 y1 y2 y3 y4 y5 y6)) ∧ (∀ y0 y1 y2 y3 y4 y5 y6 y7, LeO (davitlaw08_DomChain.l1 k y0 y1 y2 y3 y4 y5 y6 y7) (davitlaw08_DomChain.l1 (k + 1) y0 y1 y2 y3 y4 y5 y6 y7))
 | 0 => ⟨fun _ _ _ _ _ r h => by simp [davitlaw08_DomChain.l0] at h, fun _ _ _ _ _ _ _ r h => by simp [davitlaw08_DomChain.j2] at h, fun _ _ _ _ _ _ _ r h => by simp [davitlaw08_DomChain.l2] at h, fun _ _ _ _ _ _ _ _ r h => by simp [davitlaw08_DomChain.l1] at h⟩
 | k + 1 => by
  obtain ⟨ih0, ih1, ih2, ih3⟩ := davitlaw08_DomChain.mono_l k
  refine ⟨?_, ?_, ?_, ?_⟩
  ·intro y0 y1 y2 y3 y4
   unfold davitlaw08_DomChain.l0
   repeat' first
   | (with_reducible exact ih0 _ _ _ _ _)
   | (with_reducible exact ih1 _ _ _ _ _ _ _)
   | (with_reducible exact ih2 _ _ _ _ _ _ _)
   | (with_reducible exact ih3 _ _ _ _ _ _ _ _)
   | (with_reducible exact davitlaw08_awake.mono _)
   | (with_reducible exact dom_Is.mono _ _ _ _ _ _)
   | (with_reducible exact LeO.refl _)
   | (with_reducible exact LeO.none _)
   | (with_reducible refine LeO.ite ?_ ?_)
   | (with_reducible refine LeO.bind ?_ (fun _ => ?_))
   | exact ih0 _ _ _ _ _
   | exact ih1 _ _ _ _ _ _ _
   | exact ih2 _ _ _ _ _ _ _
   | exact ih3 _ _ _ _ _ _ _ _
   | exact davitlaw08_awake.mono _
   | exact dom_Is.mono _ _ _ _ _ _
   | exact LeO.none _
   | refine LeO.ite ?_ ?_
   | refine LeO.bind ?_ (fun _ => ?_)
  ·intro y0 y1 y2 y3 y4 y5 y6
   unfold davitlaw08_DomChain.j2
   repeat' first
   | (with_reducible exact ih0 _ _ _ _ _)
   | (with_reducible exact ih1 _ _ _ _ _ _ _)
   | (with_reducible exact ih2 _ _ _ _ _ _ _)
   | (with_reducible exact ih3 _ _ _ _ _ _ _ _)
   | (with_reducible exact davitlaw08_awake.mono _)
   | (with_reducible exact dom_Is.mono _ _ _ _ _ _)
   | (with_reducible exact LeO.refl _)
   | (with_reducible exact LeO.none _)
   | (with_reducible refine LeO.ite ?_ ?_)
   | (with_reducible refine LeO.bind ?_ (fun _ => ?_))
   | exact ih0 _ _ _ _ _
   | exact ih1 _ _ _ _ _ _ _
   | exact ih2 _ _ _ _ _ _ _
   | exact ih3 _ _ _ _ _ _ _ _
   | exact davitlaw08_awake.mono _
   | exact dom_Is.mono _ _ _ _ _ _
   | exact LeO.none _
   | refine LeO.ite ?_ ?_
   | refine LeO.bind ?_ (fun _ => ?_)
  ·intro y0 y1 y2 y3 y4 y5 y6
   unfold davitlaw08_DomChain.l2
   repeat' first
   | (with_reducible exact ih0 _ _ _ _ _)
   | (with_reducible exact ih1 _ _ _ _ _ _ _)
   | (with_reducible exact ih2 _ _ _ _ _ _ _)
   | (with_reducible exact ih3 _ _ _ _ _ _ _ _)
   | (with_reducible exact davitlaw08_awake.mono _)
   | (with_reducible exact dom_Is.mono _ _ _ _ _ _)
   | (with_reducible exact LeO.refl _)
   | (with_reducible exact LeO.none _)
   | (with_reducible refine LeO.ite ?_ ?_)
   | (with_reducible refine LeO.bind ?_ (fun _ => ?_))
   | exact ih0 _ _ _ _ _
   | exact ih1 _ _ _ _ _ _ _
   | exact ih2 _ _ _ _ _ _ _
   | exact ih3 _ _ _ _ _ _ _ _
   | exact davitlaw08_awake.mono _
   | exact dom_Is.mono _ _ _ _ _ _
   | exact LeO.none _
   | refine LeO.ite ?_ ?_
   | refine LeO.bind ?_ (fun _ => ?_)
  ·intro y0 y1 y2 y3 y4 y5 y6 y7
   unfold davitlaw08_DomChain.l1
   repeat' first
   | (with_reducible exact ih0 _ _ _ _ _)
   | (with_reducible exact ih1 _ _ _ _ _ _ _)
   | (with_reducible exact ih2 _ _ _ _ _ _ _)
   | (with_reducible exact ih3 _ _ _ _ _ _ _ _)
   | (with_reducible exact davitlaw08_awake.mono _)
   | (with_reducible exact dom_Is.mono _ _ _ _ _ _)
   | (with_reducible exact LeO.refl _)
   | (with_reducible exact LeO.none _)
   | (with_reducible refine LeO.ite ?_ ?_)
   | (with_reducible refine LeO.bind ?_ (fun _ => ?_))
   | exact ih0 _ _ _ _ _
   | exact ih1 _ _ _ _ _ _ _
   | exact ih2 _ _ _ _ _ _ _
   | exact ih3 _ _ _ _ _ _ _ _
   | exact davitlaw08_awake.mono _
   | exact dom_Is.mono _ _ _ _ _ _
   | exact LeO.none _
   | refine LeO.ite ?_ ?_
   | refine LeO.bind ?_ (fun _ => ?_)
theorem davitlaw08_DomChain.mono : ∀ a0 a1 a2 k, LeO (davitlaw08_DomChain.f k a0 a1 a2) (davitlaw08_DomChain.f (k + 1) a0 a1 a2) := by
 intro a0 a1 a2 k
 obtain ⟨ih0, ih1, ih2, ih3⟩ := davitlaw08_DomChain.mono_l k
 unfold davitlaw08_DomChain.f
 repeat' first
   | (with_reducible exact ih0 _ _ _ _ _)
   | (with_reducible exact ih1 _ _ _ _ _ _ _)
   | (with_reducible exact ih2 _ _ _ _ _ _ _)
   | (with_reducible exact ih3 _ _ _ _ _ _ _ _)
   | (with_reducible exact davitlaw08_awake.mono _)
   | (with_reducible exact dom_Is.mono _ _ _ _ _ _)
   | (with_reducible exact LeO.refl _)
   | (with_reducible exact LeO.none _)
   | (with_reducible refine LeO.ite ?_ ?_)
   | (with_reducible refine LeO.bind ?_ (fun _ => ?_))
   | exact ih0 _ _ _ _ _
   | exact ih1 _ _ _ _ _ _ _
   | exact ih2 _ _ _ _ _ _ _
   | exact ih3 _ _ _ _ _ _ _ _
   | exact davitlaw08_awake.mono _
   | exact dom_Is.mono _ _ _ _ _ _
   | exact LeO.none _
   | refine LeO.ite ?_ ?_
   | refine LeO.bind ?_ (fun _ => ?_)
def davitlaw08_DomChain.T24 : Bool × List (List Nat × List Nat) := (true, [([], []), ([], []), ([0, 1], [0, 1]), ([2], [2]), ([], []), ([], []), ([], []), ([4, 5, 6], [4, 5, 6]), ([3, 7], [3, 7])])
def davitlaw08_DomChain.B24 : List Nat := [0, 0, 3, 7, 0, 0, 0, 112, 255]
theorem davitlaw08_DomChain.tab24 : rtab .any (opsOf Try.f6 24) = davitlaw08_DomChain.T24 := by kernel_rfl
theorem davitlaw08_DomChain.bits24 : waitsOk davitlaw08_DomChain.T24.2 davitlaw08_DomChain.B24 = true := by kernel_rfl
set_option maxHeartbeats 8000000 in
set_option maxRecDepth 100000 in
theorem davitlaw08_DomChain.calls (k : Nat) (a0_0 : Int) (a0_1 : Int) (A0_2 : Option Addr) (c0_2 : Nat) (l0_2 : List (S50)) (r : Bool) (w : World) (hr0_2 : Kd.C k50 w A0_2 l0_2.length l0_2) (hc0_2 : l0_2.length ≤ c0_2) (h : davitlaw08_DomChain.f k a0_0 a0_1 l0_2 = some r) :
  Calls Try.prog 6 #[.agg #[.int .i64 a0_0, .int .i64 a0_1, .slice A0_2 l0_2.length c0_2]] w fun e w' => e = .returned (.bool r) ∧ Below w.heap.size w w' := by
 have hu24 := Try.underlying24
 have HR0_2 := Aside0.mk hr0_2
 have HC0_2 := Aside0.mk hc0_2
 clear hr0_2 hc0_2
 have HB := Aside0.mk (Below.refl w.heap.size w)
 have H : ((davitlaw08_awake.f k).bind fun t317 => (if t317 = true then (if (l0_2.length : Int) > 30 then (some true) else ((dom_Over.f a0_0 a0_1 l0_2).bind fun t318 => (if (t318.length : Int) = (l0_2.length : Int) then (davitlaw08_DomChain.l0 k t318 0 a0_0 a0_1 l0_2) else (some false)))) else (some false))) = some r := h
 clear h
 replace H := Option.bind_eq_some_iff.mp H
 obtain ⟨t317, A20, H⟩ := H
 replace H : (if t317 = true then (if (l0_2.length : Int) > 30 then (some true) else ((dom_Over.f a0_0 a0_1 l0_2).bind fun t318 => (if (t318.length : Int) = (l0_2.length : Int) then (davitlaw08_DomChain.l0 k t318 0 a0_0 a0_1 l0_2) else (some false)))) else (some false)) = some r := H
 have A2 := Aside0.mk A20
 clear A20
 by_cases c3 : t317 = true
 ·subst c3
  have H1 : (if (l0_2.length : Int) > 30 then (some true) else ((dom_Over.f a0_0 a0_1 l0_2).bind fun t318 => (if (t318.length : Int) = (l0_2.length : Int) then (davitlaw08_DomChain.l0 k t318 0 a0_0 a0_1 l0_2) else (some false)))) = some r := by rw [if_pos rfl] at H; exact H
  clear H
  have H := H1
  clear H1
  by_cases c4 : (l0_2.length : Int) > 30
  ·rw [if_pos c4] at H
   have c4b0 : decide (30 < (l0_2.length : Int)) = true := decide_eq_true c4
   have c4b1 : decide (30 < l0_2.length) = true := decide_eq_true (by omega)
   clear c4
   obtain rfl := Option.some.inj H
   go_enter Try.func6, Try.ntmps6
   go_wp2_with (first | ((with_reducible refine gate_dst (N := 1) rfl ?_); (try (refine gate_guard (by rfl) ?_; dsimp only)); refine box_event ?hg (N := 1) ?hd (cs := #[.int .i64 a0_0, .int .i64 a0_1, .slice A0_2 l0_2.length c0_2]) (t := 24) ?hr ?_; (case hd => rfl); (case hg => rfl); (case hr => first | (go_simp; done) | (go_simp; rfl)); intro gb316 hg w5 hbox hb; have n0_ := Aside0.mk (below_step (by repeat (first | (with_reducible first | exact HB.out | apply below_alloc | apply pw_below_drewN | apply below_drew1) | exact HB.out)) hb); have n1_ := Aside0.mk (hbox); have n2_ := Aside0.mk ((by rw [hg]; exact (below_size (by repeat (first | (with_reducible first | exact HB.out | apply below_alloc | apply pw_below_drewN | apply below_drew1) | exact HB.out))) : w.heap.size ≤ gb316)); have n3_ := Aside0.mk ((by rw [hg]; exact (below_size (by repeat (first | (with_reducible first | exact HB.out | apply below_alloc | apply pw_below_drewN | apply below_drew1) | exact HB.out))) : w.heap.size ≤ gb316)); clear HB; have HB := n0_; have BK316 := n1_; have GW316 := n2_; have GE316 := n3_; clear n0_ n1_ n2_ n3_; clear hb hbox hg) | ((with_reducible refine gate_callee (f := 11) rfl ?_); refine goesL_ (some 9) rfl rfl Try.func11 (by kernel_rfl) rfl #[] rfl (by (try simp only [List.map_toArray, List.map_cons, List.map_nil]); first | done | rfl | (simp only [List.length_drop, List.length_take]; rfl)) ?_; (with_reducible refine (davitlaw08_awake.calls k  true _ A2.out).mono ?_); rintro e w6 ⟨rfl, hb⟩; refine ⟨_, rfl, ?_⟩; have n0_ := Aside0.mk (blk_below (g := gb316) (o := .cells #[.int .i64 a0_0, .int .i64 a0_1, .slice A0_2 l0_2.length c0_2] 24 (0, 0)) (by (with_reducible repeat (first | refine blk_drewN ?_ _ | refine blk_drew ?_ | refine blk_alloc ?_ _)); exact BK316.out) hb); have n1_ := Aside0.mk (below_step (by repeat (first | (with_reducible first | exact HB.out | apply below_alloc | apply pw_below_drewN | apply below_drew1 | refine below_set ?_ GE316.out) | exact HB.out)) hb); clear BK316; clear HB; have BK316 := n0_; have HB := n1_; clear n0_ n1_; (try clear hb); (try clear hb2); (try clear hk); (try clear hi); have hcz7_0 : w6.cell? ⟨gb316, 0, none⟩ = some (.int .i64 a0_0) := (blk_cell BK316.out 0).trans rfl; have hcz7_1 : w6.cell? ⟨gb316, 1, none⟩ = some (.int .i64 a0_1) := (blk_cell BK316.out 1).trans rfl; have hcz7_2 : w6.cell? ⟨gb316, 2, none⟩ = some (.slice A0_2 l0_2.length c0_2) := (blk_cell BK316.out 2).trans rfl; have hfz7_0 := blk_frozen BK316.out 0; have hfz7_1 := blk_frozen BK316.out 1; have hfz7_2 := blk_frozen BK316.out 2))
   go_ret
   exact ⟨by first | rfl | (simp [errW_none, errW_some] <;> rfl) | (simp [*, errW_none, errW_some] <;> rfl), by repeat (first | (with_reducible first | exact HB.out | apply below_alloc | apply pw_below_drewN | apply below_drew1 | refine below_set ?_ GE316.out) | exact HB.out)⟩
  ·rw [if_neg c4] at H
   have c4b0 : decide (30 < (l0_2.length : Int)) = false := decide_eq_false c4
   have c4b1 : decide (30 < l0_2.length) = false := decide_eq_false (by omega)
   clear c4
   replace H := Option.bind_eq_some_iff.mp H
   obtain ⟨t318, A80, H⟩ := H
   replace H : (if (t318.length : Int) = (l0_2.length : Int) then (davitlaw08_DomChain.l0 k t318 0 a0_0 a0_1 l0_2) else (some false)) = some r := H
   have A8 := Aside0.mk A80
   clear A80
   by_cases c9 : (t318.length : Int) = (l0_2.length : Int)
   ·rw [if_pos c9] at H
    have c9b0 : ((t318.length : Int) == (l0_2.length : Int)) = true := beq_iff_eq.mpr c9
    have c9b1 : ((t318.length : Int) != (l0_2.length : Int)) = false := bne_eq_false_iff_eq.mpr c9
    have c9b2 : (t318.length == l0_2.length) = true := by first | simpa using c9 | (simp at c9 ⊢; omega)
    clear c9
    have H' := Aside0.mk H
    clear H
    go_enter Try.func6, Try.ntmps6
    go_wp2_with (first | ((with_reducible refine gate_dst (N := 1) rfl ?_); (try (refine gate_guard (by rfl) ?_; dsimp only)); refine box_event ?hg (N := 1) ?hd (cs := #[.int .i64 a0_0, .int .i64 a0_1, .slice A0_2 l0_2.length c0_2]) (t := 24) ?hr ?_; (case hd => rfl); (case hg => rfl); (case hr => first | (go_simp; done) | (go_simp; rfl)); intro gb316 hg w10 hbox hb; have n0_ := Aside0.mk (below_step (by repeat (first | (with_reducible first | exact HB.out | apply below_alloc | apply pw_below_drewN | apply below_drew1) | exact HB.out)) hb); have n1_ := Aside0.mk (hbox); have n2_ := Aside0.mk ((by rw [hg]; exact (below_size (by repeat (first | (with_reducible first | exact HB.out | apply below_alloc | apply pw_below_drewN | apply below_drew1) | exact HB.out))) : w.heap.size ≤ gb316)); have n3_ := Aside0.mk ((by rw [hg]; exact (below_size (by repeat (first | (with_reducible first | exact HB.out | apply below_alloc | apply pw_below_drewN | apply below_drew1) | exact HB.out))) : w.heap.size ≤ gb316)); clear HB; have HB := n0_; have BK316 := n1_; have GW316 := n2_; have GE316 := n3_; clear n0_ n1_ n2_ n3_; clear hb hbox hg) | ((with_reducible refine gate_callee (f := 11) rfl ?_); refine goesL_ (some 9) rfl rfl Try.func11 (by kernel_rfl) rfl #[] rfl (by (try simp only [List.map_toArray, List.map_cons, List.map_nil]); first | done | rfl | (simp only [List.length_drop, List.length_take]; rfl)) ?_; (with_reducible refine (davitlaw08_awake.calls k  true _ A2.out).mono ?_); rintro e w11 ⟨rfl, hb⟩; refine ⟨_, rfl, ?_⟩; have n0_ := Aside0.mk (blk_below (g := gb316) (o := .cells #[.int .i64 a0_0, .int .i64 a0_1, .slice A0_2 l0_2.length c0_2] 24 (0, 0)) (by (with_reducible repeat (first | refine blk_drewN ?_ _ | refine blk_drew ?_ | refine blk_alloc ?_ _)); exact BK316.out) hb); have n1_ := Aside0.mk (below_step (by repeat (first | (with_reducible first | exact HB.out | apply below_alloc | apply pw_below_drewN | apply below_drew1 | refine below_set ?_ GE316.out) | exact HB.out)) hb); clear BK316; clear HB; have BK316 := n0_; have HB := n1_; clear n0_ n1_; (try clear hb); (try clear hb2); (try clear hk); (try clear hi); have hcz12_0 : w11.cell? ⟨gb316, 0, none⟩ = some (.int .i64 a0_0) := (blk_cell BK316.out 0).trans rfl; have hcz12_1 : w11.cell? ⟨gb316, 1, none⟩ = some (.int .i64 a0_1) := (blk_cell BK316.out 1).trans rfl; have hcz12_2 : w11.cell? ⟨gb316, 2, none⟩ = some (.slice A0_2 l0_2.length c0_2) := (blk_cell BK316.out 2).trans rfl; have hfz12_0 := blk_frozen BK316.out 0; have hfz12_1 := blk_frozen BK316.out 1; have hfz12_2 := blk_frozen BK316.out 2) | ((with_reducible refine gate_callee (f := 13) rfl ?_); refine goesL_ (some 16) rfl rfl Try.func13 (by kernel_rfl) rfl #[.agg #[.int .i64 a0_0, .int .i64 a0_1, .slice A0_2 l0_2.length c0_2]] rfl (by (try simp only [List.map_toArray, List.map_cons, List.map_nil]); first | done | rfl | (simp only [List.length_drop, List.length_take]; rfl)) ?_; (with_reducible refine (dom_Over.calls a0_0 a0_1 _ _ l0_2 t318 _ ?side1 ?side2 A8.out).mono ?_); (case side1 => repeat (first | exact (Kd.C_below HR0_2.out HB.out) | (with_reducible refine Kd.C_alloc ?_ _) | (with_reducible refine Kd.C_drewN ?_ _) | (with_reducible refine Kd.C_drew ?_))); (case side2 => exact HC0_2.out); rintro e w13 ⟨v319, rfl, ho0, hb⟩; refine ⟨_, rfl, ?_⟩; have n0_ := Aside0.mk (Kd.R_lower ho0 (below_size (by repeat (first | (with_reducible first | exact HB.out | apply below_alloc | apply pw_below_drewN | apply below_drew1 | refine below_set ?_ GE316.out) | exact HB.out)))); have n1_ := Aside0.mk (blk_below (g := gb316) (o := .cells #[.int .i64 a0_0, .int .i64 a0_1, .slice A0_2 l0_2.length c0_2] 24 (0, 0)) (by (with_reducible repeat (first | refine blk_drewN ?_ _ | refine blk_drew ?_ | refine blk_alloc ?_ _)); exact BK316.out) hb); have n2_ := Aside0.mk (below_step (by repeat (first | (with_reducible first | exact HB.out | apply below_alloc | apply pw_below_drewN | apply below_drew1 | refine below_set ?_ GE316.out) | exact HB.out)) hb); clear BK316; clear HB; have HO320 := n0_; have BK316 := n1_; have HB := n2_; clear n0_ n1_ n2_; (try clear hb); (try clear hb2); (try clear hk); (try clear hi); (try clear ho0); obtain ⟨Ao14, co14, eo14⟩ := Kd.R_slice HO320.out; subst eo14; have hcz15_0 : w13.cell? ⟨gb316, 0, none⟩ = some (.int .i64 a0_0) := (blk_cell BK316.out 0).trans rfl; have hcz15_1 : w13.cell? ⟨gb316, 1, none⟩ = some (.int .i64 a0_1) := (blk_cell BK316.out 1).trans rfl; have hcz15_2 : w13.cell? ⟨gb316, 2, none⟩ = some (.slice A0_2 l0_2.length c0_2) := (blk_cell BK316.out 2).trans rfl; have hfz15_0 := blk_frozen BK316.out 0; have hfz15_1 := blk_frozen BK316.out 1; have hfz15_2 := blk_frozen BK316.out 2))
    go_loopg [4] k (fun kq v4 w' => ∃ (x4_1 : Int), v4 = .int .i64 x4_1 ∧ Aside0 (davitlaw08_DomChain.l0 kq t318 x4_1 a0_0 a0_1 l0_2 = some r) ∧ Aside0 (kq ≤ k) ∧ Aside0 (Kd.R (Kd.int .i64) 3 w' w.heap.size (fun _ => True) (.slice Ao14 t318.length co14) t318) ∧ Aside0 (w'.heap[gb316]? = some (.cells #[.int .i64 a0_0, .int .i64 a0_1, (.slice A0_2 l0_2.length c0_2)] 24 (0, 0))) ∧ Aside0 (Below w.heap.size w w'))
    case atStart => exact ⟨(0), (by first | rfl | (simp; done) | (simp [*]; done)), H', ⟨Nat.le_refl _⟩, ⟨by (with_reducible repeat (first | apply Kd.R_alloc | apply Kd.R_drewN | apply Kd.R_drew)); exact HO320.out⟩, ⟨by (with_reducible repeat (first | refine blk_drewN ?_ _ | refine blk_drew ?_ | refine blk_alloc ?_ _)); exact BK316.out⟩, ⟨by repeat (first | (with_reducible first | exact HB.out | apply below_alloc | apply pw_below_drewN | apply below_drew1 | refine below_set ?_ GE316.out) | exact HB.out)⟩⟩
    case round =>
     clear H'
     try clear c1
     try clear p2
     try clear c3
     try clear c4
     try clear c4b0
     try clear c4b1
     try clear c6
     try clear c9
     try clear c9b0
     try clear c9b1
     try clear c9b2
     try clear c11
     try clear c13
     try clear hcz12_0
     try clear hcz12_1
     try clear hcz12_2
     try clear hcz15_0
     try clear hcz15_1
     try clear hcz15_2
     try clear hcz7_0
     try clear hcz7_1
     try clear hcz7_2
     try clear hfz12_0
     try clear hfz12_1
     try clear hfz12_2
     try clear hfz15_0
     try clear hfz15_1
     try clear hfz15_2
     try clear hfz7_0
     try clear hfz7_1
     try clear hfz7_2
     obtain ⟨x4_1, rfl, HA, HK1, HO_3, BK316, HB⟩ := hrel
     cases gk with
     | zero => exact absurd HA.out (by simp [davitlaw08_DomChain.l0])
     | succ k1 =>
      have H := HA.out
      clear HA
      simp only [davitlaw08_DomChain.l0] at H
      by_cases c16 : x4_1 < (l0_2.length : Int)
      ·rw [if_pos c16] at H
       have c16b0 : decide (x4_1 < (l0_2.length : Int)) = true := decide_eq_true c16
       clear c16
       replace H := Option.bind_eq_some_iff.mp H
       obtain ⟨t321, A170, H⟩ := H
       replace H : (if 0 ≤ x4_1 then (if x4_1 < (t321.length : Int) then (if rdOf false t321 x4_1 = true then (if 0 ≤ (l0_2.length : Int) then (if ((l0_2.length : Int) : Int).toNat ≤ 281474976710656 then (davitlaw08_DomChain.l1 k1 t318 x4_1 (List.replicate ((l0_2.length : Int) : Int).toNat false) x4_1 0 a0_0 a0_1 l0_2) else (none)) else (none)) else (davitlaw08_DomChain.l0 k1 t318 (wrap64 (x4_1 + 1)) a0_0 a0_1 l0_2)) else (none)) else (none)) = some r := H
       have A17 := Aside0.mk A170
       clear A170
       by_cases c18 : 0 ≤ x4_1
       ·rw [if_pos c18] at H
        have c18b0 : decide (0 ≤ x4_1) = true := decide_eq_true c18
        clear c18
        by_cases c19 : x4_1 < (t321.length : Int)
        ·rw [if_pos c19] at H
         have c19b0 : decide (x4_1 < (t321.length : Int)) = true := decide_eq_true c19
         clear c19
         obtain ⟨bq20, hbq20⟩ : ∃ b_ : Bool, b_ = (rdOf false t321 x4_1) := ⟨_, rfl⟩
         replace H : (if bq20 = true then (if 0 ≤ (l0_2.length : Int) then (if ((l0_2.length : Int) : Int).toNat ≤ 281474976710656 then (davitlaw08_DomChain.l1 k1 t318 x4_1 (List.replicate ((l0_2.length : Int) : Int).toNat false) x4_1 0 a0_0 a0_1 l0_2) else (none)) else (none)) else (davitlaw08_DomChain.l0 k1 t318 (wrap64 (x4_1 + 1)) a0_0 a0_1 l0_2)) = some r := by rw [← hbq20] at H; exact H
         have Nbq20 := Aside0.mk hbq20
         clear hbq20
         by_cases c21 : bq20 = true
         ·subst c21
          have H1 : (if 0 ≤ (l0_2.length : Int) then (if ((l0_2.length : Int) : Int).toNat ≤ 281474976710656 then (davitlaw08_DomChain.l1 k1 t318 x4_1 (List.replicate ((l0_2.length : Int) : Int).toNat false) x4_1 0 a0_0 a0_1 l0_2) else (none)) else (none)) = some r := by rw [if_pos rfl] at H; exact H
          clear H
          have H := H1
          clear H1
          by_cases c22 : 0 ≤ (l0_2.length : Int)
          ·rw [if_pos c22] at H
           have c22b0 := eq_true c22
           have c22b1 : decide (0 ≤ (l0_2.length : Int)) = true := decide_eq_true c22
           clear c22
           by_cases c23 : ((l0_2.length : Int) : Int).toNat ≤ 281474976710656
           ·rw [if_pos c23] at H
            have c23b0 := eq_true c23
            have c23b1 : decide (((l0_2.length : Int) : Int).toNat ≤ 281474976710656) = true := decide_eq_true c23
            clear c23
            obtain ⟨y325, hy325⟩ : ∃ y_ : List Bool, y_ = (List.replicate ((l0_2.length : Int) : Int).toNat false) := ⟨_, rfl⟩
            replace H : (davitlaw08_DomChain.l1 k1 t318 x4_1 y325 x4_1 0 a0_0 a0_1 l0_2) = some r := by first | (rw [hy325]; with_reducible exact H) | (have H2_ := (Option.bind_some _ _).symm.trans H; rw [hy325]; with_reducible exact H2_) | (have H2_ := (Option.bind_some _ _).symm.trans H; with_reducible exact H2_) | with_reducible exact H | (rw [hy325]; exact H) | exact H
            have Ny325 := Aside0.mk hy325
            clear hy325
            have HC24 := Aside0.mk H
            clear H
            have hcz25_0 : wr.cell? ⟨gb316, 0, none⟩ = some (.int .i64 a0_0) := (blk_cell BK316.out 0).trans rfl
            have hcz25_1 : wr.cell? ⟨gb316, 1, none⟩ = some (.int .i64 a0_1) := (blk_cell BK316.out 1).trans rfl
            have hcz25_2 : wr.cell? ⟨gb316, 2, none⟩ = some (.slice A0_2 l0_2.length c0_2) := (blk_cell BK316.out 2).trans rfl
            have hfz25_0 := blk_frozen BK316.out 0
            have hfz25_1 := blk_frozen BK316.out 1
            have hfz25_2 := blk_frozen BK316.out 2
            go_upto_block 2 with (first | ((with_reducible refine gate_callee (f := 19) rfl ?_); refine goesL_ (some 31) rfl rfl Try.func19 (by kernel_rfl) rfl #[.agg #[.int .i64 a0_0, .int .i64 a0_1, .slice A0_2 l0_2.length c0_2]] rfl (by (try simp only [List.map_toArray, List.map_cons, List.map_nil]); first | done | rfl | (simp only [List.length_drop, List.length_take]; rfl)) ?_; (with_reducible refine (flow_Reached.calls a0_0 a0_1 _ _ l0_2 t321 _ ?side1 ?side2 A17.out).mono ?_); (case side1 => repeat (first | exact (Kd.C_below HR0_2.out HB.out) | (with_reducible refine Kd.C_alloc ?_ _) | (with_reducible refine Kd.C_drewN ?_ _) | (with_reducible refine Kd.C_drew ?_))); (case side2 => exact HC0_2.out); rintro e w26 ⟨v322, rfl, ho0, hb⟩; refine ⟨_, rfl, ?_⟩; have n0_ := Aside0.mk (Kd.R_below (by (with_reducible repeat (first | apply Kd.R_alloc | apply Kd.R_drewN | apply Kd.R_drew)); exact HO_3.out) hb); have n1_ := Aside0.mk (Kd.R_lower ho0 (below_size (by repeat (first | (with_reducible first | exact HB.out | apply below_alloc | apply pw_below_drewN | apply below_drew1 | refine below_set ?_ GE316.out) | exact HB.out)))); have n2_ := Aside0.mk (blk_below (g := gb316) (o := .cells #[.int .i64 a0_0, .int .i64 a0_1, .slice A0_2 l0_2.length c0_2] 24 (0, 0)) (by (with_reducible repeat (first | refine blk_drewN ?_ _ | refine blk_drew ?_ | refine blk_alloc ?_ _)); exact BK316.out) hb); have n3_ := Aside0.mk (below_step (by repeat (first | (with_reducible first | exact HB.out | apply below_alloc | apply pw_below_drewN | apply below_drew1 | refine below_set ?_ GE316.out) | exact HB.out)) hb); clear HO_3; clear BK316; clear HB; have HO_3 := n0_; have HO323 := n1_; have BK316 := n2_; have HB := n3_; clear n0_ n1_ n2_ n3_; (try clear hb); (try clear hb2); (try clear hk); (try clear hi); (try clear ho0); obtain ⟨Ao27, co27, eo27⟩ := Kd.R_slice HO323.out; subst eo27; have p324 : 0 ≤ (x4_1 : Int) := of_decide_eq_true (by first | (with_reducible assumption) | assumption); have q324 : x4_1 < (t321.length : Int) := of_decide_eq_true (by first | (with_reducible assumption) | assumption); obtain ⟨ad324, e324, hx324_0⟩ := Kd.at_bool (Kd.R_reads' HO323.out).2.2 x4_1 p324 q324; (try rw [← Nbq20.out] at hx324_0); cases e324; replace p324 := eq_true p324; replace q324 := eq_true q324; have hcz28_0 : w26.cell? ⟨gb316, 0, none⟩ = some (.int .i64 a0_0) := (blk_cell BK316.out 0).trans rfl; have hcz28_1 : w26.cell? ⟨gb316, 1, none⟩ = some (.int .i64 a0_1) := (blk_cell BK316.out 1).trans rfl; have hcz28_2 : w26.cell? ⟨gb316, 2, none⟩ = some (.slice A0_2 l0_2.length c0_2) := (blk_cell BK316.out 2).trans rfl; have hfz28_0 := blk_frozen BK316.out 0; have hfz28_1 := blk_frozen BK316.out 1; have hfz28_2 := blk_frozen BK316.out 2) | ((with_reducible refine gate_dst (N := 39) rfl ?_); (try (refine gate_guard (by rfl) ?_; dsimp only)); refine Kd.R_make Kd.bool _ 4 rfl (N := 39) rfl 32 _ _ rfl (l0_2.length : Int) rfl rfl Try.underlying32 (.bool false) 1 info4 rfl (by decide) (by omega) false (ok := fun _ => True) (okp := fun _ => True) rfl (fun _ hk => hk) trivial (of_decide_eq_true (by first | (with_reducible assumption) | assumption)) (Nat.le_trans (Nat.mul_le_mul_right _ (of_decide_eq_true (by first | (with_reducible assumption) | assumption) : (l0_2.length : Int).toNat ≤ 281474976710656)) (by omega)) (Below.refl _ _) (Nat.le_refl _) ?_; intro v326 w29 ho30 hb hg_ hnew_; clear hg_ hnew_; (first | rw [← Ny325.out] at ho30 | (simp only [Int.reduceToNat] at ho30; rw [← Ny325.out] at ho30)); have n0_ := Aside0.mk (Kd.R_below (by (with_reducible repeat (first | apply Kd.R_alloc | apply Kd.R_drewN | apply Kd.R_drew)); exact HO_3.out) hb); have n1_ := Aside0.mk (Kd.R_elder' (by (with_reducible repeat (first | apply Kd.R_alloc | apply Kd.R_drewN | apply Kd.R_drew)); exact HO323.out) (Kd.R_base ho30) hb); have n2_ := Aside0.mk (Kd.R_lower (Kd.R_new' ho30 (Kd.R_lt (by (with_reducible repeat (first | apply Kd.R_alloc | apply Kd.R_drewN | apply Kd.R_drew)); exact HO323.out))) (below_size (by repeat (first | (with_reducible first | exact HB.out | apply below_alloc | apply pw_below_drewN | apply below_drew1 | refine below_set ?_ GE316.out) | exact HB.out)))); have n3_ := Aside0.mk (blk_below (g := gb316) (o := .cells #[.int .i64 a0_0, .int .i64 a0_1, .slice A0_2 l0_2.length c0_2] 24 (0, 0)) (by (with_reducible repeat (first | refine blk_drewN ?_ _ | refine blk_drew ?_ | refine blk_alloc ?_ _)); exact BK316.out) hb); have n4_ := Aside0.mk (below_step (by repeat (first | (with_reducible first | exact HB.out | apply below_alloc | apply pw_below_drewN | apply below_drew1 | refine below_set ?_ GE316.out) | exact HB.out)) hb); clear HO_3; clear HO323; clear BK316; clear HB; have HO_3 := n0_; have HO323 := n1_; have HO327 := n2_; have BK316 := n3_; have HB := n4_; clear n0_ n1_ n2_ n3_ n4_; clear hb ho30))
            (try simp only [Act.put, List.setIfInBounds_toArray, List.set_cons_zero, List.set_cons_succ])
            go_cut [6] (fun v6 wc => ∃ (kq : Nat) (x5_23 : List Bool) (x6_23 : Int), v6 = .int .i64 x6_23 ∧ Aside0 (davitlaw08_DomChain.j2 kq t318 x4_1 x5_23 x6_23 a0_0 a0_1 l0_2 = some r) ∧ Aside0 (kq ≤ k1) ∧ Aside0 (Kd.R (Kd.int .i64) 3 wc w.heap.size (fun _ => True) (.slice Ao14 t318.length co14) t318) ∧ Aside0 (Kd.R Kd.bool 4 wc w.heap.size (fun _ => True) v326 x5_23) ∧ Aside0 (wc.heap[gb316]? = some (.cells #[.int .i64 a0_0, .int .i64 a0_1, (.slice A0_2 l0_2.length c0_2)] 24 (0, 0))) ∧ Aside0 (Below w.heap.size w wc))
            case first =>
             have H := HC24.out
             clear HC24
             have H' := Aside0.mk H
             clear H
             go_wp2
             go_loopg [6, 7] k1 (fun kq v6 v7 w' => ∃ (x5_2 : List Bool) (x6_2 : Int) (x7_2 : Int), v6 = .int .i64 x6_2 ∧ v7 = .int .i64 x7_2 ∧ Aside0 (davitlaw08_DomChain.l1 kq t318 x4_1 x5_2 x6_2 x7_2 a0_0 a0_1 l0_2 = some r) ∧ Aside0 (kq ≤ k1) ∧ Aside0 (Kd.R (Kd.int .i64) 3 w' w.heap.size (fun _ => True) (.slice Ao14 t318.length co14) t318) ∧ Aside0 (Kd.R Kd.bool 4 w' w.heap.size (fun _ => True) v326 x5_2) ∧ Aside0 (w'.heap[gb316]? = some (.cells #[.int .i64 a0_0, .int .i64 a0_1, (.slice A0_2 l0_2.length c0_2)] 24 (0, 0))) ∧ Aside0 (Below w.heap.size w w'))
             case atStart => exact ⟨(y325), (x4_1), (0), (by first | rfl | (simp; done) | (simp [*]; done)), (by first | rfl | (simp; done) | (simp [*]; done)), H', ⟨Nat.le_refl _⟩, ⟨by (with_reducible repeat (first | apply Kd.R_alloc | apply Kd.R_drewN | apply Kd.R_drew)); exact HO_3.out⟩, ⟨by (with_reducible repeat (first | apply Kd.R_alloc | apply Kd.R_drewN | apply Kd.R_drew)); exact Kd.R_mono HO327.out (fun _ hk => trivial)⟩, ⟨by (with_reducible repeat (first | refine blk_drewN ?_ _ | refine blk_drew ?_ | refine blk_alloc ?_ _)); exact BK316.out⟩, ⟨by repeat (first | (with_reducible first | exact HB.out | apply below_alloc | apply pw_below_drewN | apply below_drew1 | refine below_set ?_ GE316.out) | exact HB.out)⟩⟩
             case round =>
              clear H'
              try clear c1
              try clear c2
              try clear p2
              try clear q2
              try clear c3
              try clear p3
              try clear q3
              try clear hx3
              try clear c4
              try clear c4b0
              try clear c4b1
              try clear c6
              try clear p6
              try clear c9
              try clear c9b0
              try clear c9b1
              try clear c9b2
              try clear c11
              try clear c13
              try clear c16
              try clear c16b0
              try clear c18
              try clear c18b0
              try clear c19
              try clear c19b0
              try clear q20
              try clear c21
              try clear c22
              try clear c22b0
              try clear c22b1
              try clear c23
              try clear c23b0
              try clear c23b1
              try clear hcz12_0
              try clear hcz12_1
              try clear hcz12_2
              try clear hcz15_0
              try clear hcz15_1
              try clear hcz15_2
              try clear hcz25_0
              try clear hcz25_1
              try clear hcz25_2
              try clear hcz28_0
              try clear hcz28_1
              try clear hcz28_2
              try clear hcz7_0
              try clear hcz7_1
              try clear hcz7_2
              try clear hfz12_0
              try clear hfz12_1
              try clear hfz12_2
              try clear hfz15_0
              try clear hfz15_1
              try clear hfz15_2
              try clear hfz25_0
              try clear hfz25_1
              try clear hfz25_2
              try clear hfz28_0
              try clear hfz28_1
              try clear hfz28_2
              try clear hfz7_0
              try clear hfz7_1
              try clear hfz7_2
              try clear hx324_0
              try clear p2
              try clear p324
              try clear q324
              obtain ⟨x5_2, x6_2, x7_2, rfl, rfl, HA, HK2, HO_3, HO_5, BK316, HB⟩ := hrel
              cases gk with
              | zero => exact absurd HA.out (by simp [davitlaw08_DomChain.l1])
              | succ k2 =>
               have H := HA.out
               clear HA
               simp only [davitlaw08_DomChain.l1] at H
               by_cases c31 : x6_2 > 0
               ·rw [if_pos c31] at H
                have c31b0 : decide (0 < x6_2) = true := decide_eq_true c31
                clear c31
                (first | rw [c31b0] | (simp only [i64_w, i32_w]; rw [c31b0]) | skip)
                by_cases c32 : x7_2 ≤ (l0_2.length : Int)
                ·rw [if_pos c32] at H
                 have c32b0 : decide (x7_2 ≤ (l0_2.length : Int)) = true := decide_eq_true c32
                 clear c32
                 by_cases c33 : 0 ≤ x6_2
                 ·rw [if_pos c33] at H
                  have c33b0 : decide (0 ≤ x6_2) = true := decide_eq_true c33
                  clear c33
                  by_cases c34 : x6_2 < (x5_2.length : Int)
                  ·rw [if_pos c34] at H
                   have c34b0 : decide (x6_2 < (x5_2.length : Int)) = true := decide_eq_true c34
                   clear c34
                   obtain ⟨y328, hy328⟩ : ∃ y_ : List Bool, y_ = (x5_2.set (x6_2 : Int).toNat true) := ⟨_, rfl⟩
                   replace H : (if x6_2 < (t318.length : Int) then (davitlaw08_DomChain.l1 k2 t318 x4_1 y328 (rd t318 x6_2) (wrap64 (x7_2 + 1)) a0_0 a0_1 l0_2) else (none)) = some r := by first | (rw [hy328]; with_reducible exact H) | (have H2_ := (Option.bind_some _ _).symm.trans H; rw [hy328]; with_reducible exact H2_) | (have H2_ := (Option.bind_some _ _).symm.trans H; with_reducible exact H2_) | with_reducible exact H | (rw [hy328]; exact H) | exact H
                   have Ny328 := Aside0.mk hy328
                   clear hy328
                   by_cases c36 : x6_2 < (t318.length : Int)
                   ·rw [if_pos c36] at H
                    have c36b0 : decide (x6_2 < (t318.length : Int)) = true := decide_eq_true c36
                    clear c36
                    have H' := Aside0.mk H
                    clear H
                    have hcz37_0 : wr.cell? ⟨gb316, 0, none⟩ = some (.int .i64 a0_0) := (blk_cell BK316.out 0).trans rfl
                    have hcz37_1 : wr.cell? ⟨gb316, 1, none⟩ = some (.int .i64 a0_1) := (blk_cell BK316.out 1).trans rfl
                    have hcz37_2 : wr.cell? ⟨gb316, 2, none⟩ = some (.slice A0_2 l0_2.length c0_2) := (blk_cell BK316.out 2).trans rfl
                    have hfz37_0 := blk_frozen BK316.out 0
                    have hfz37_1 := blk_frozen BK316.out 1
                    have hfz37_2 := blk_frozen BK316.out 2
                    have p35 : 0 ≤ (x6_2 : Int) := of_decide_eq_true (by first | (with_reducible assumption) | assumption)
                    have q35 : (x6_2 : Int) < ((x5_2.length : Int) : Int) := of_decide_eq_true (by first | (with_reducible assumption) | assumption)
                    obtain ⟨go35, co35, eo35, gb35, gl35, cl35, HG35⟩ := Kd.R_form HO_5.out (by omega)
                    (first | cases eo35 | (injection eo35 with ea_ en_ ec_; (first | subst ea_ | (injection ea_ with ea_; subst ea_)); subst ec_; clear en_))
                    have GB35 := Aside0.mk gb35
                    have GG35 := Aside0.mk HG35
                    clear gb35 gl35 HG35
                    obtain ⟨hx35_0, hf35_0⟩ := Kd.R_celln false HO_5.out (x6_2 : Int) p35 q35
                    replace p35 := eq_true p35
                    replace q35 := eq_true q35
                    have HP38 := Kd.R_putg HO_5.out (x6_2 : Int) true
                    go_wp2_with (first | ((with_reducible refine gate_store (t := 4) (p := 52) rfl ?_); refine store_event (t := 4) (p := 52) (v := ?vo_w39) (w1 := (wr.setCell ⟨go35, (x6_2 : Int).toNat, none⟩ (.bool true))) ?hg ?ho ?hn ?hr ?_; (case ho => rfl); (case hg => rfl); (case hn => rfl); (case hr => first | (go_simp; done) | (go_simp; rfl)); intro w39 hw; have hg : wr.grownBy w39 (some go35) := (by rw [hw]; exact HP38.2); have hp_ : Kd.R Kd.bool 4 w39 w.heap.size (fun _ => True) (.slice (some ⟨go35, 0, none⟩) x5_2.length co35) y328 := (by rw [hw, Ny328.out]; exact HP38.1); clear HP38; have n0_ := Aside0.mk (Kd.R_over' (v := (.slice (some ⟨go35, 0, none⟩) x5_2.length co35)) (by (with_reducible repeat (first | apply Kd.R_alloc | apply Kd.R_drewN | apply Kd.R_drew)); exact HO_3.out) (Kd.R_typed HO_5.out) (by decide) hg); have n1_ := Aside0.mk (hp_); have n2_ := Aside0.mk (blk_grown (g := gb316) (o := .cells #[.int .i64 a0_0, .int .i64 a0_1, .slice A0_2 l0_2.length c0_2] 24 (0, 0)) (by (with_reducible repeat (first | refine blk_drewN ?_ _ | refine blk_drew ?_ | refine blk_alloc ?_ _)); exact BK316.out) hg (Kd.R_ne HO_5.out BK316.out (by decide))); have n3_ := Aside0.mk ((by rw [hw]; exact below_set (HB.out) GB35.out : Below w.heap.size w w39)); clear HO_3; clear HO_5; clear BK316; clear HB; have HO_3 := n0_; have HO_5 := n1_; have BK316 := n2_; have HB := n3_; clear n0_ n1_ n2_ n3_; clear hg hw hp_; have p329 : 0 ≤ (x6_2 : Int) := of_decide_eq_true (by first | (with_reducible assumption) | assumption); have q329 : x6_2 < (t318.length : Int) := of_decide_eq_true (by first | (with_reducible assumption) | assumption); obtain ⟨ad329, e329, hx329_0⟩ := Kd.at_int (Kd.R_reads' HO_3.out).2.2 x6_2 p329 q329; cases e329; replace p329 := eq_true p329; replace q329 := eq_true q329))
                    go_roundg k2
                    case measure => have := HK1.out; have := HK2.out; omega
                    case rel => exact ⟨(y328), (rd t318 x6_2), (wrap64 (x7_2 + 1)), (by first | rfl | (simp; done) | (simp [*]; done)), (by first | rfl | (simp; done) | (simp [*]; done)), H', ⟨by have := HK1.out; have := HK2.out; omega⟩, ⟨by (with_reducible repeat (first | apply Kd.R_alloc | apply Kd.R_drewN | apply Kd.R_drew)); exact HO_3.out⟩, ⟨by (with_reducible repeat (first | apply Kd.R_alloc | apply Kd.R_drewN | apply Kd.R_drew)); exact HO_5.out⟩, ⟨by (with_reducible repeat (first | refine blk_drewN ?_ _ | refine blk_drew ?_ | refine blk_alloc ?_ _)); exact BK316.out⟩, ⟨by repeat (first | (with_reducible first | exact HB.out | apply below_alloc | apply pw_below_drewN | apply below_drew1 | refine below_set ?_ GE316.out) | exact HB.out)⟩⟩
                   ·rw [if_neg c36] at H
                    exact absurd H (by simp)
                  ·rw [if_neg c34] at H
                   exact absurd H (by simp)
                 ·rw [if_neg c33] at H
                  exact absurd H (by simp)
                ·rw [if_neg c32] at H
                 have c32b0 : decide (x7_2 ≤ (l0_2.length : Int)) = false := decide_eq_false c32
                 clear c32
                 have H' := Aside0.mk H
                 clear H
                 have hcz40_0 : wr.cell? ⟨gb316, 0, none⟩ = some (.int .i64 a0_0) := (blk_cell BK316.out 0).trans rfl
                 have hcz40_1 : wr.cell? ⟨gb316, 1, none⟩ = some (.int .i64 a0_1) := (blk_cell BK316.out 1).trans rfl
                 have hcz40_2 : wr.cell? ⟨gb316, 2, none⟩ = some (.slice A0_2 l0_2.length c0_2) := (blk_cell BK316.out 2).trans rfl
                 have hfz40_0 := blk_frozen BK316.out 0
                 have hfz40_1 := blk_frozen BK316.out 1
                 have hfz40_2 := blk_frozen BK316.out 2
                 go_wp2
                 go_meet
                 case rel => exact ⟨_, (x5_2), (x6_2), (by first | rfl | (simp; done) | (simp [*]; done)), H', ⟨by have := HK1.out; have := HK2.out; first | omega | exact Nat.le_refl _⟩, ⟨by (with_reducible repeat (first | apply Kd.R_alloc | apply Kd.R_drewN | apply Kd.R_drew)); exact HO_3.out⟩, ⟨by (with_reducible repeat (first | apply Kd.R_alloc | apply Kd.R_drewN | apply Kd.R_drew)); exact HO_5.out⟩, ⟨by (with_reducible repeat (first | refine blk_drewN ?_ _ | refine blk_drew ?_ | refine blk_alloc ?_ _)); exact BK316.out⟩, ⟨by repeat (first | (with_reducible first | exact HB.out | apply below_alloc | apply pw_below_drewN | apply below_drew1 | refine below_set ?_ GE316.out) | exact HB.out)⟩⟩
               ·rw [if_neg c31] at H
                have c31b0 : decide (0 < x6_2) = false := decide_eq_false c31
                clear c31
                (first | rw [c31b0] | (simp only [i64_w, i32_w]; rw [c31b0]) | skip)
                have H' := Aside0.mk H
                clear H
                go_wp2
                go_meet
                case rel => exact ⟨_, (x5_2), (x6_2), (by first | rfl | (simp; done) | (simp [*]; done)), H', ⟨by have := HK1.out; have := HK2.out; first | omega | exact Nat.le_refl _⟩, ⟨by (with_reducible repeat (first | apply Kd.R_alloc | apply Kd.R_drewN | apply Kd.R_drew)); exact HO_3.out⟩, ⟨by (with_reducible repeat (first | apply Kd.R_alloc | apply Kd.R_drewN | apply Kd.R_drew)); exact HO_5.out⟩, ⟨by (with_reducible repeat (first | refine blk_drewN ?_ _ | refine blk_drew ?_ | refine blk_alloc ?_ _)); exact BK316.out⟩, ⟨by repeat (first | (with_reducible first | exact HB.out | apply below_alloc | apply pw_below_drewN | apply below_drew1 | refine below_set ?_ GE316.out) | exact HB.out)⟩⟩
            case rest =>
             clear HC24
             try clear c1
             try clear c2
             try clear p2
             try clear q2
             try clear c3
             try clear p3
             try clear q3
             try clear hx3
             try clear hf3
             try clear c4
             try clear c4b0
             try clear c4b1
             try clear c6
             try clear p6
             try clear c9
             try clear c9b0
             try clear c9b1
             try clear c9b2
             try clear c11
             try clear c13
             try clear c16
             try clear c16b0
             try clear c18
             try clear c18b0
             try clear c19
             try clear c19b0
             try clear q20
             try clear c21
             try clear c22
             try clear c22b0
             try clear c22b1
             try clear c23
             try clear c23b0
             try clear c23b1
             try clear c31
             try clear c31b0
             try clear c32
             try clear c32b0
             try clear p32
             try clear q32
             try clear hx32
             try clear c33
             try clear c33b0
             try clear c34
             try clear c34b0
             try clear p35
             try clear q35
             try clear hx35
             try clear hf35
             try clear c36
             try clear c36b0
             try clear hcz12_0
             try clear hcz12_1
             try clear hcz12_2
             try clear hcz15_0
             try clear hcz15_1
             try clear hcz15_2
             try clear hcz25_0
             try clear hcz25_1
             try clear hcz25_2
             try clear hcz28_0
             try clear hcz28_1
             try clear hcz28_2
             try clear hcz37_0
             try clear hcz37_1
             try clear hcz37_2
             try clear hcz40_0
             try clear hcz40_1
             try clear hcz40_2
             try clear hcz7_0
             try clear hcz7_1
             try clear hcz7_2
             try clear hfz12_0
             try clear hfz12_1
             try clear hfz12_2
             try clear hfz15_0
             try clear hfz15_1
             try clear hfz15_2
             try clear hfz25_0
             try clear hfz25_1
             try clear hfz25_2
             try clear hfz28_0
             try clear hfz28_1
             try clear hfz28_2
             try clear hfz37_0
             try clear hfz37_1
             try clear hfz37_2
             try clear hfz40_0
             try clear hfz40_1
             try clear hfz40_2
             try clear hfz7_0
             try clear hfz7_1
             try clear hfz7_2
             try clear hx324_0
             try clear hx329_0
             try clear hx35_0
             try clear p2
             try clear p3
             try clear p324
             try clear p329
             try clear p35
             try clear p6
             try clear q2
             try clear q20
             try clear q3
             try clear q324
             try clear q329
             try clear q35
             obtain ⟨kq, x5_23, x6_23, rfl, HA, HJ23, HO_3, HO_5, BK316, HB⟩ := hcut
             cases kq with
             | zero => exact absurd HA.out (by simp [davitlaw08_DomChain.j2])
             | succ kj23 =>
              have H := HA.out
              clear HA
              simp only [davitlaw08_DomChain.j2] at H
              by_cases c41 : x6_23 = 0
              ·rw [if_pos c41] at H
               have c41b0 : (x6_23 == 0) = true := beq_iff_eq.mpr c41
               have c41b1 : (x6_23 != 0) = false := bne_eq_false_iff_eq.mpr c41
               clear c41
               by_cases c42 : 0 < (x5_23.length : Int)
               ·rw [if_pos c42] at H
                have c42b0 : decide (0 < (x5_23.length : Int)) = true := decide_eq_true c42
                have c42b1 : decide (0 < x5_23.length) = true := decide_eq_true (by omega)
                clear c42
                obtain ⟨y330, hy330⟩ : ∃ y_ : List Bool, y_ = (x5_23.set (0 : Int).toNat true) := ⟨_, rfl⟩
                replace H : (davitlaw08_DomChain.l2 kj23 t318 x4_1 y330 0 a0_0 a0_1 l0_2) = some r := by first | (rw [hy330]; with_reducible exact H) | (have H2_ := (Option.bind_some _ _).symm.trans H; rw [hy330]; with_reducible exact H2_) | (have H2_ := (Option.bind_some _ _).symm.trans H; with_reducible exact H2_) | with_reducible exact H | (rw [hy330]; exact H) | exact H
                have Ny330 := Aside0.mk hy330
                clear hy330
                have H' := Aside0.mk H
                clear H
                have p43 : 0 ≤ (0 : Int) := (by omega)
                have q43 : (0 : Int) < ((x5_23.length : Int) : Int) := of_decide_eq_true (by first | (with_reducible assumption) | assumption)
                have qi43 : (0 < x5_23.length) = True := eq_true (by omega)
                obtain ⟨go43, co43, eo43, gb43, gl43, cl43, HG43⟩ := Kd.R_form HO_5.out (by omega)
                (first | cases eo43 | (injection eo43 with ea_ en_ ec_; (first | subst ea_ | (injection ea_ with ea_; subst ea_)); subst ec_; clear en_))
                have GB43 := Aside0.mk gb43
                have GG43 := Aside0.mk HG43
                clear gb43 gl43 HG43
                obtain ⟨hx43_0, hf43_0⟩ := Kd.R_celln false HO_5.out (0 : Int) p43 q43
                (try rw [show ((0 : Int)).toNat = 0 from rfl] at hx43_0)
                (try simp only [Nat.reduceMul, Nat.zero_mul, Nat.zero_add, Nat.reduceAdd] at hx43_0)
                (try rw [show ((0 : Int)).toNat = 0 from rfl] at hf43_0)
                (try simp only [Nat.reduceMul, Nat.zero_mul, Nat.zero_add, Nat.reduceAdd] at hf43_0)
                replace p43 := eq_true p43
                replace q43 := eq_true q43
                have HP44 := Kd.R_putg HO_5.out (0 : Int) true
                go_wp2_with (first | ((with_reducible refine gate_store (t := 4) (p := 62) rfl ?_); refine store_event (t := 4) (p := 62) (v := ?vo_w45) (w1 := (wc.setCell ⟨go43, (0 : Int).toNat, none⟩ (.bool true))) ?hg ?ho ?hn ?hr ?_; (case ho => rfl); (case hg => rfl); (case hn => rfl); (case hr => first | (go_simp; done) | (go_simp; rfl)); intro w45 hw; have hg : wc.grownBy w45 (some go43) := (by rw [hw]; exact HP44.2); have hp_ : Kd.R Kd.bool 4 w45 w.heap.size (fun _ => True) (.slice (some ⟨go43, 0, none⟩) x5_23.length co43) y330 := (by rw [hw, Ny330.out]; exact HP44.1); clear HP44; have n0_ := Aside0.mk (Kd.R_over' (v := (.slice (some ⟨go43, 0, none⟩) x5_23.length co43)) (by (with_reducible repeat (first | apply Kd.R_alloc | apply Kd.R_drewN | apply Kd.R_drew)); exact HO_3.out) (Kd.R_typed HO_5.out) (by decide) hg); have n1_ := Aside0.mk (hp_); have n2_ := Aside0.mk (blk_grown (g := gb316) (o := .cells #[.int .i64 a0_0, .int .i64 a0_1, .slice A0_2 l0_2.length c0_2] 24 (0, 0)) (by (with_reducible repeat (first | refine blk_drewN ?_ _ | refine blk_drew ?_ | refine blk_alloc ?_ _)); exact BK316.out) hg (Kd.R_ne HO_5.out BK316.out (by decide))); have n3_ := Aside0.mk ((by rw [hw]; exact below_set (HB.out) GB43.out : Below w.heap.size w w45)); clear HO_3; clear HO_5; clear BK316; clear HB; have HO_3 := n0_; have HO_5 := n1_; have BK316 := n2_; have HB := n3_; clear n0_ n1_ n2_ n3_; clear hg hw hp_))
                go_loopg [8] kj23 (fun kq v8 w' => ∃ (x8_3 : Int), v8 = .int .i64 x8_3 ∧ Aside0 (davitlaw08_DomChain.l2 kq t318 x4_1 y330 x8_3 a0_0 a0_1 l0_2 = some r) ∧ Aside0 (kq ≤ kj23) ∧ Aside0 (Kd.R (Kd.int .i64) 3 w' w.heap.size (fun _ => True) (.slice Ao14 t318.length co14) t318) ∧ Aside0 (Kd.R Kd.bool 4 w' w.heap.size (fun _ => True) (.slice (some ⟨go43, 0, none⟩) x5_23.length co43) y330) ∧ Aside0 (w'.heap[gb316]? = some (.cells #[.int .i64 a0_0, .int .i64 a0_1, (.slice A0_2 l0_2.length c0_2)] 24 (0, 0))) ∧ Aside0 (Below w.heap.size w w'))
                case atStart => exact ⟨(0), (by first | rfl | (simp; done) | (simp [*]; done)), H', ⟨Nat.le_refl _⟩, ⟨by (with_reducible repeat (first | apply Kd.R_alloc | apply Kd.R_drewN | apply Kd.R_drew)); exact HO_3.out⟩, ⟨by (with_reducible repeat (first | apply Kd.R_alloc | apply Kd.R_drewN | apply Kd.R_drew)); exact HO_5.out⟩, ⟨by (with_reducible repeat (first | refine blk_drewN ?_ _ | refine blk_drew ?_ | refine blk_alloc ?_ _)); exact BK316.out⟩, ⟨by repeat (first | (with_reducible first | exact HB.out | apply below_alloc | apply pw_below_drewN | apply below_drew1 | refine below_set ?_ GE316.out) | exact HB.out)⟩⟩
                case round =>
                 clear H'
                 try clear c1
                 try clear c2
                 try clear p2
                 try clear q2
                 try clear c3
                 try clear p3
                 try clear q3
                 try clear hx3
                 try clear hf3
                 try clear c4
                 try clear c4b0
                 try clear c4b1
                 try clear p4
                 try clear q4
                 try clear hx4
                 try clear qi4
                 try clear hf4
                 try clear c6
                 try clear p6
                 try clear c9
                 try clear c9b0
                 try clear c9b1
                 try clear c9b2
                 try clear c11
                 try clear c13
                 try clear c16
                 try clear c16b0
                 try clear c18
                 try clear c18b0
                 try clear c19
                 try clear c19b0
                 try clear q20
                 try clear c21
                 try clear c22
                 try clear c22b0
                 try clear c22b1
                 try clear c23
                 try clear c23b0
                 try clear c23b1
                 try clear c31
                 try clear c31b0
                 try clear c32
                 try clear c32b0
                 try clear p32
                 try clear q32
                 try clear hx32
                 try clear c33
                 try clear c33b0
                 try clear c34
                 try clear c34b0
                 try clear p35
                 try clear q35
                 try clear hx35
                 try clear hf35
                 try clear c36
                 try clear c36b0
                 try clear c41
                 try clear c41b0
                 try clear c41b1
                 try clear c42
                 try clear c42b0
                 try clear c42b1
                 try clear p43
                 try clear q43
                 try clear hx43
                 try clear qi43
                 try clear hf43
                 try clear hcz12_0
                 try clear hcz12_1
                 try clear hcz12_2
                 try clear hcz15_0
                 try clear hcz15_1
                 try clear hcz15_2
                 try clear hcz25_0
                 try clear hcz25_1
                 try clear hcz25_2
                 try clear hcz28_0
                 try clear hcz28_1
                 try clear hcz28_2
                 try clear hcz37_0
                 try clear hcz37_1
                 try clear hcz37_2
                 try clear hcz40_0
                 try clear hcz40_1
                 try clear hcz40_2
                 try clear hcz7_0
                 try clear hcz7_1
                 try clear hcz7_2
                 try clear hfz12_0
                 try clear hfz12_1
                 try clear hfz12_2
                 try clear hfz15_0
                 try clear hfz15_1
                 try clear hfz15_2
                 try clear hfz25_0
                 try clear hfz25_1
                 try clear hfz25_2
                 try clear hfz28_0
                 try clear hfz28_1
                 try clear hfz28_2
                 try clear hfz37_0
                 try clear hfz37_1
                 try clear hfz37_2
                 try clear hfz40_0
                 try clear hfz40_1
                 try clear hfz40_2
                 try clear hfz7_0
                 try clear hfz7_1
                 try clear hfz7_2
                 try clear hx324_0
                 try clear hx329_0
                 try clear hx35_0
                 try clear hx43_0
                 try clear p2
                 try clear p3
                 try clear p32
                 try clear p324
                 try clear p329
                 try clear p35
                 try clear p43
                 try clear p6
                 try clear q2
                 try clear q20
                 try clear q3
                 try clear q32
                 try clear q324
                 try clear q329
                 try clear q35
                 try clear q43
                 obtain ⟨x8_3, rfl, HA, HK3, HO_3, HO_5, BK316, HB⟩ := hrel
                 have hl5_3 := (Kd.R_reads' HO_5.out).1
                 rw [hl5_3] at HO_5
                 (try simp only [hl5_3])
                 (try simp only [hl5_3] at BK316)
                 (try simp only [hl5_3] at HO_3)
                 cases gk with
                 | zero => exact absurd HA.out (by simp [davitlaw08_DomChain.l2])
                 | succ k3 =>
                  have H := HA.out
                  clear HA
                  simp only [davitlaw08_DomChain.l2] at H
                  by_cases c46 : x8_3 < (l0_2.length : Int)
                  ·rw [if_pos c46] at H
                   have c46b0 : decide (x8_3 < (l0_2.length : Int)) = true := decide_eq_true c46
                   clear c46
                   by_cases c47 : 0 ≤ x8_3
                   ·rw [if_pos c47] at H
                    have c47b0 : decide (0 ≤ x8_3) = true := decide_eq_true c47
                    clear c47
                    by_cases c48 : x8_3 < (y330.length : Int)
                    ·rw [if_pos c48] at H
                     have c48b0 : decide (x8_3 < (y330.length : Int)) = true := decide_eq_true c48
                     clear c48
                     replace H := Option.bind_eq_some_iff.mp H
                     obtain ⟨t332, A490, H⟩ := H
                     replace H : (if ((rdOf false y330 x8_3) != t332) = true then (some false) else (davitlaw08_DomChain.l2 k3 t318 x4_1 y330 (wrap64 (x8_3 + 1)) a0_0 a0_1 l0_2)) = some r := H
                     have A49 := Aside0.mk A490
                     clear A490
                     by_cases c50 : ((rdOf false y330 x8_3) != t332) = true
                     ·rw [if_pos c50] at H
                      have c50b0 : ((rdOf false y330 x8_3) != t332) = true := c50
                      (try (have c50b1 : decide ((rdOf false y330 x8_3) = t332) = false := by simpa using c50))
                      (try (have c50b2 : ((rdOf false y330 x8_3) == t332) = false := by simpa using c50))
                      (try (have c50b3 : ¬ ((rdOf false y330 x8_3) = t332) := by simpa using c50))
                      clear c50
                      obtain rfl := Option.some.inj H
                      have hcz51_0 : wr.cell? ⟨gb316, 0, none⟩ = some (.int .i64 a0_0) := (blk_cell BK316.out 0).trans rfl
                      have hcz51_1 : wr.cell? ⟨gb316, 1, none⟩ = some (.int .i64 a0_1) := (blk_cell BK316.out 1).trans rfl
                      have hcz51_2 : wr.cell? ⟨gb316, 2, none⟩ = some (.slice A0_2 l0_2.length c0_2) := (blk_cell BK316.out 2).trans rfl
                      have hfz51_0 := blk_frozen BK316.out 0
                      have hfz51_1 := blk_frozen BK316.out 1
                      have hfz51_2 := blk_frozen BK316.out 2
                      try go_wp2
                      have n0_ := Aside0.mk (Kd.R_drew HO_3.out)
                      have n1_ := Aside0.mk (Kd.R_drew HO_5.out)
                      have n2_ := Aside0.mk (blk_drew BK316.out)
                      have n3_ := Aside0.mk (below_drew1 HB.out)
                      clear HO_3
                      clear HO_5
                      clear BK316
                      clear HB
                      have HO_3 := n0_
                      have HO_5 := n1_
                      have BK316 := n2_
                      have HB := n3_
                      clear n0_ n1_ n2_ n3_
                      have p331 : 0 ≤ (x8_3 : Int) := of_decide_eq_true (by first | (with_reducible assumption) | assumption)
                      have q331 : x8_3 < (y330.length : Int) := of_decide_eq_true (by first | (with_reducible assumption) | assumption)
                      obtain ⟨ad331, e331, hx331_0⟩ := Kd.at_bool (Kd.R_reads' HO_5.out).2.2 x8_3 p331 q331
                      (try rw [← Nbq20.out] at hx331_0)
                      obtain rfl : (⟨go43, 0, none⟩ : Addr) = ad331 := (by injection e331)
                      (first | simp only [add_plain] at hx331_0 | simp only [add_at] at hx331_0 | simp only [Addr.add, Nat.zero_add] at hx331_0 | skip)
                      replace p331 := eq_true p331
                      replace q331 := eq_true q331
                      refine start_ (n := 9) (S := fun w' => w'.cell? ⟨gb316, 0, none⟩ = some (.int .i64 a0_0) ∧ w'.cell? ⟨gb316, 1, none⟩ = some (.int .i64 a0_1) ∧ w'.cell? ⟨gb316, 2, none⟩ = some (.slice A0_2 l0_2.length c0_2) ∧ w'.cell? ⟨go43, (x8_3).toNat, none⟩ = some (.bool (rdOf false y330 x8_3))) (ds := []) #[false, false, false, false, false, false, false, false, false] (by kernel_rfl) rfl rfl ⟨(blk_cell BK316.out 0).trans rfl, (blk_cell BK316.out 1).trans rfl, (blk_cell BK316.out 2).trans rfl, hx331_0⟩ (fun hHeld => ?_); refine with_tabW davitlaw08_DomChain.tab24 davitlaw08_DomChain.bits24 (fun HT_ HW_ => ?_)
                      generalize wr.drew = w52 at HO_3 HO_5 BK316 HB hx331_0 hHeld ⊢
                      refine pure_ (i := 0) (N := some 70) (v := ?_) (a' := ?_) #[true, false, false, false, false, false, false, false, false] rfl rfl (any_of HT_.out (by kernel_rfl)) (fun _ _ _ h => h) (Or.inl ⟨by rfl, ?_⟩) ?_ ?_
                      rotate_left
                      ·intro w'
                       go_simp
                       with_reducible rfl
                      rotate_left
                      ·simp only [Act.put, List.setIfInBounds_toArray, List.set_cons_zero, List.set_cons_succ, i64_w, i32_w]
                       rfl
                      refine pure_ (i := 1) (N := some 71) (v := ?_) (a' := ?_) #[true, true, false, false, false, false, false, false, false] rfl rfl (any_of HT_.out (by kernel_rfl)) (fun _ _ _ h => h) (Or.inl ⟨by rfl, ?_⟩) ?_ ?_
                      rotate_left
                      ·intro w'
                       go_simp
                       with_reducible rfl
                      rotate_left
                      ·simp only [Act.put, List.setIfInBounds_toArray, List.set_cons_zero, List.set_cons_succ, i64_w, i32_w]
                       rfl
                      refine pure_ (i := 2) (N := some 72) (v := ?_) (a' := ?_) #[true, true, true, false, false, false, false, false, false] rfl rfl (any_of HT_.out (by kernel_rfl)) (fun _ _ _ h => h) (Or.inl ⟨by rfl, ?_⟩) ?_ ?_
                      rotate_left
                      ·intro w'
                       go_simp
                       with_reducible rfl
                      rotate_left
                      ·simp only [Act.put, List.setIfInBounds_toArray, List.set_cons_zero, List.set_cons_succ, i64_w, i32_w]
                       rfl
                      refine pure_ (i := 5) (N := some 75) (v := ?_) (a' := ?_) #[true, true, true, false, false, true, false, false, false] rfl rfl (any_of HT_.out (by kernel_rfl)) (fun _ _ _ h => h) (Or.inl ⟨by rfl, ?_⟩) ?_ ?_
                      rotate_left
                      ·intro w'
                       go_simp
                       with_reducible rfl
                      rotate_left
                      ·simp only [Act.put, List.setIfInBounds_toArray, List.set_cons_zero, List.set_cons_succ, i64_w, i32_w]
                       rfl
                      refine pure_ (i := 6) (N := some 76) (v := ?_) (a' := ?_) #[true, true, true, false, false, true, true, false, false] rfl rfl (any_of HT_.out (by kernel_rfl)) (fun _ _ _ h => h) (Or.inl ⟨by rfl, ?_⟩) ?_ ?_
                      rotate_left
                      ·intro w'
                       go_simp
                       with_reducible rfl
                      rotate_left
                      ·simp only [Act.put, List.setIfInBounds_toArray, List.set_cons_zero, List.set_cons_succ, i64_w, i32_w]
                       rfl
                      refine take_ (i := 3) (N := some 73) (v := ?_) (a' := ?_) #[true, true, true, true, false, true, true, false, false] rfl rfl (take_ofW HT_.out HW_.out (by kernel_rfl)) (fun _ _ _ h => h) (Or.inl ⟨by rfl, ?_⟩) hHeld ?_ ?_
                      rotate_left
                      ·rintro w' ⟨s0, s1, s2, s3⟩
                       go_simp
                       with_reducible rfl
                      rotate_left
                      ·simp only [Act.put, List.setIfInBounds_toArray, List.set_cons_zero, List.set_cons_succ, i64_w, i32_w]
                       rfl
                      refine take_ (i := 4) (N := some 74) (v := ?_) (a' := ?_) #[true, true, true, true, true, true, true, false, false] rfl rfl (take_ofW HT_.out HW_.out (by kernel_rfl)) (fun _ _ _ h => h) (Or.inl ⟨by rfl, ?_⟩) hHeld ?_ ?_
                      rotate_left
                      ·rintro w' ⟨s0, s1, s2, s3⟩
                       go_simp
                       with_reducible rfl
                      rotate_left
                      ·simp only [Act.put, List.setIfInBounds_toArray, List.set_cons_zero, List.set_cons_succ, i64_w, i32_w]
                       rfl
                      refine one_ (i := 7) (N := some 77) #[true, true, true, true, true, true, true, true, false] rfl rfl (one_of HT_.out (by kernel_rfl)) (by decide) (fun K hK => ?_)
                      refine goes_ Try.func15 (by kernel_rfl) rfl #[.agg #[.int .i64 a0_0, .int .i64 a0_1, .slice A0_2 l0_2.length c0_2], .int .i64 x8_3, .int .i64 x4_1] (by rfl) rfl rfl (by (try simp only [List.map_toArray, List.map_cons, List.map_nil]); first | done | rfl | (simp only [List.length_drop, List.length_take]; rfl)) ?_
                      with_reducible refine (dom_Is.calls k3 a0_0 a0_1 _ _ l0_2 x8_3 x4_1 t332 _ ?side1 ?side2 A49.out).mono ?_
                      (case side1 => repeat (first | exact (Kd.C_below HR0_2.out HB.out) | (with_reducible refine Kd.C_alloc ?_ _) | (with_reducible refine Kd.C_drewN ?_ _) | (with_reducible refine Kd.C_drew ?_)))
                      (case side2 => exact HC0_2.out)
                      rintro e w53 ⟨rfl, hb⟩
                      have HS3_ := (hb.cell (World.block_lt_of_cell? _ _ (hHeld.2.2.2))).trans (hHeld.2.2.2)
                      refine ⟨_, rfl, ?_⟩
                      have n0_ := Aside0.mk (Kd.R_below (by (with_reducible repeat (first | apply Kd.R_alloc | apply Kd.R_drewN | apply Kd.R_drew)); exact HO_3.out) hb)
                      have n1_ := Aside0.mk (Kd.R_below (by (with_reducible repeat (first | apply Kd.R_alloc | apply Kd.R_drewN | apply Kd.R_drew)); exact HO_5.out) hb)
                      have n2_ := Aside0.mk (blk_below (g := gb316) (o := .cells #[.int .i64 a0_0, .int .i64 a0_1, .slice A0_2 l0_2.length c0_2] 24 (0, 0)) (by (with_reducible repeat (first | refine blk_drewN ?_ _ | refine blk_drew ?_ | refine blk_alloc ?_ _)); exact BK316.out) hb)
                      have n3_ := Aside0.mk (below_step (by repeat (first | (with_reducible first | exact HB.out | apply below_alloc | apply pw_below_drewN | apply below_drew1 | refine below_set ?_ GE316.out) | exact HB.out)) hb)
                      clear HO_3
                      clear HO_5
                      clear BK316
                      clear HB
                      have HO_3 := n0_
                      have HO_5 := n1_
                      have BK316 := n2_
                      have HB := n3_
                      clear n0_ n1_ n2_ n3_
                      (try clear hb)
                      (try clear hb2)
                      (try clear hk)
                      (try clear hi)
                      refine hK.out _ _ ⟨(blk_cell BK316.out 0).trans rfl, (blk_cell BK316.out 1).trans rfl, (blk_cell BK316.out 2).trans rfl, HS3_⟩ (fun hHeld => ?_)
                      clear hK K
                      refine norm_ (a' := ?_) ?_ ?_
                      rotate_left
                      ·show Act.put _ (some 77) _ = _
                       simp only [Act.put, List.setIfInBounds_toArray, List.set_cons_zero, List.set_cons_succ, i64_w, i32_w]
                       rfl
                      refine pure_ (i := 8) (N := some 78) (v := ?_) (a' := ?_) #[true, true, true, true, true, true, true, true, true] rfl rfl (any_of HT_.out (by kernel_rfl)) (fun _ _ _ h => h) (Or.inl ⟨by rfl, ?_⟩) ?_ ?_
                      rotate_left
                      ·intro w'
                       go_simp
                       with_reducible rfl
                      rotate_left
                      ·simp only [Act.put, List.setIfInBounds_toArray, List.set_cons_zero, List.set_cons_succ, i64_w, i32_w]
                       rfl
                      refine done_ (done_of HT_.out (by kernel_rfl)) ?_
                      try go_wp2
                      go_ret
                      exact ⟨by first | rfl | (simp [errW_none, errW_some] <;> rfl) | (simp [*, errW_none, errW_some] <;> rfl), by repeat (first | (with_reducible first | exact HB.out | apply below_alloc | apply pw_below_drewN | apply below_drew1 | refine below_set ?_ GE316.out) | exact HB.out)⟩
                     ·rw [if_neg c50] at H
                      have c50b0 : ((rdOf false y330 x8_3) != t332) = false := by simpa using c50
                      (try (have c50b1 : decide ((rdOf false y330 x8_3) = t332) = true := by simpa using c50))
                      (try (have c50b2 : ((rdOf false y330 x8_3) == t332) = true := by simpa using c50))
                      clear c50
                      have H' := Aside0.mk H
                      clear H
                      have hcz54_0 : wr.cell? ⟨gb316, 0, none⟩ = some (.int .i64 a0_0) := (blk_cell BK316.out 0).trans rfl
                      have hcz54_1 : wr.cell? ⟨gb316, 1, none⟩ = some (.int .i64 a0_1) := (blk_cell BK316.out 1).trans rfl
                      have hcz54_2 : wr.cell? ⟨gb316, 2, none⟩ = some (.slice A0_2 l0_2.length c0_2) := (blk_cell BK316.out 2).trans rfl
                      have hfz54_0 := blk_frozen BK316.out 0
                      have hfz54_1 := blk_frozen BK316.out 1
                      have hfz54_2 := blk_frozen BK316.out 2
                      try go_wp2
                      have n0_ := Aside0.mk (Kd.R_drew HO_3.out)
                      have n1_ := Aside0.mk (Kd.R_drew HO_5.out)
                      have n2_ := Aside0.mk (blk_drew BK316.out)
                      have n3_ := Aside0.mk (below_drew1 HB.out)
                      clear HO_3
                      clear HO_5
                      clear BK316
                      clear HB
                      have HO_3 := n0_
                      have HO_5 := n1_
                      have BK316 := n2_
                      have HB := n3_
                      clear n0_ n1_ n2_ n3_
                      have p331 : 0 ≤ (x8_3 : Int) := of_decide_eq_true (by first | (with_reducible assumption) | assumption)
                      have q331 : x8_3 < (y330.length : Int) := of_decide_eq_true (by first | (with_reducible assumption) | assumption)
                      obtain ⟨ad331, e331, hx331_0⟩ := Kd.at_bool (Kd.R_reads' HO_5.out).2.2 x8_3 p331 q331
                      (try rw [← Nbq20.out] at hx331_0)
                      obtain rfl : (⟨go43, 0, none⟩ : Addr) = ad331 := (by injection e331)
                      (first | simp only [add_plain] at hx331_0 | simp only [add_at] at hx331_0 | simp only [Addr.add, Nat.zero_add] at hx331_0 | skip)
                      replace p331 := eq_true p331
                      replace q331 := eq_true q331
                      refine start_ (n := 9) (S := fun w' => w'.cell? ⟨gb316, 0, none⟩ = some (.int .i64 a0_0) ∧ w'.cell? ⟨gb316, 1, none⟩ = some (.int .i64 a0_1) ∧ w'.cell? ⟨gb316, 2, none⟩ = some (.slice A0_2 l0_2.length c0_2) ∧ w'.cell? ⟨go43, (x8_3).toNat, none⟩ = some (.bool (rdOf false y330 x8_3))) (ds := []) #[false, false, false, false, false, false, false, false, false] (by kernel_rfl) rfl rfl ⟨(blk_cell BK316.out 0).trans rfl, (blk_cell BK316.out 1).trans rfl, (blk_cell BK316.out 2).trans rfl, hx331_0⟩ (fun hHeld => ?_); refine with_tabW davitlaw08_DomChain.tab24 davitlaw08_DomChain.bits24 (fun HT_ HW_ => ?_)
                      generalize wr.drew = w55 at HO_3 HO_5 BK316 HB hx331_0 hHeld ⊢
                      refine pure_ (i := 0) (N := some 70) (v := ?_) (a' := ?_) #[true, false, false, false, false, false, false, false, false] rfl rfl (any_of HT_.out (by kernel_rfl)) (fun _ _ _ h => h) (Or.inl ⟨by rfl, ?_⟩) ?_ ?_
                      rotate_left
                      ·intro w'
                       go_simp
                       with_reducible rfl
                      rotate_left
                      ·simp only [Act.put, List.setIfInBounds_toArray, List.set_cons_zero, List.set_cons_succ, i64_w, i32_w]
                       rfl
                      refine pure_ (i := 1) (N := some 71) (v := ?_) (a' := ?_) #[true, true, false, false, false, false, false, false, false] rfl rfl (any_of HT_.out (by kernel_rfl)) (fun _ _ _ h => h) (Or.inl ⟨by rfl, ?_⟩) ?_ ?_
                      rotate_left
                      ·intro w'
                       go_simp
                       with_reducible rfl
                      rotate_left
                      ·simp only [Act.put, List.setIfInBounds_toArray, List.set_cons_zero, List.set_cons_succ, i64_w, i32_w]
                       rfl
                      refine pure_ (i := 2) (N := some 72) (v := ?_) (a' := ?_) #[true, true, true, false, false, false, false, false, false] rfl rfl (any_of HT_.out (by kernel_rfl)) (fun _ _ _ h => h) (Or.inl ⟨by rfl, ?_⟩) ?_ ?_
                      rotate_left
                      ·intro w'
                       go_simp
                       with_reducible rfl
                      rotate_left
                      ·simp only [Act.put, List.setIfInBounds_toArray, List.set_cons_zero, List.set_cons_succ, i64_w, i32_w]
                       rfl
                      refine pure_ (i := 5) (N := some 75) (v := ?_) (a' := ?_) #[true, true, true, false, false, true, false, false, false] rfl rfl (any_of HT_.out (by kernel_rfl)) (fun _ _ _ h => h) (Or.inl ⟨by rfl, ?_⟩) ?_ ?_
                      rotate_left
                      ·intro w'
                       go_simp
                       with_reducible rfl
                      rotate_left
                      ·simp only [Act.put, List.setIfInBounds_toArray, List.set_cons_zero, List.set_cons_succ, i64_w, i32_w]
                       rfl
                      refine pure_ (i := 6) (N := some 76) (v := ?_) (a' := ?_) #[true, true, true, false, false, true, true, false, false] rfl rfl (any_of HT_.out (by kernel_rfl)) (fun _ _ _ h => h) (Or.inl ⟨by rfl, ?_⟩) ?_ ?_
                      rotate_left
                      ·intro w'
                       go_simp
                       with_reducible rfl
                      rotate_left
                      ·simp only [Act.put, List.setIfInBounds_toArray, List.set_cons_zero, List.set_cons_succ, i64_w, i32_w]
                       rfl
                      refine take_ (i := 3) (N := some 73) (v := ?_) (a' := ?_) #[true, true, true, true, false, true, true, false, false] rfl rfl (take_ofW HT_.out HW_.out (by kernel_rfl)) (fun _ _ _ h => h) (Or.inl ⟨by rfl, ?_⟩) hHeld ?_ ?_
                      rotate_left
                      ·rintro w' ⟨s0, s1, s2, s3⟩
                       go_simp
                       with_reducible rfl
                      rotate_left
                      ·simp only [Act.put, List.setIfInBounds_toArray, List.set_cons_zero, List.set_cons_succ, i64_w, i32_w]
                       rfl
                      refine take_ (i := 4) (N := some 74) (v := ?_) (a' := ?_) #[true, true, true, true, true, true, true, false, false] rfl rfl (take_ofW HT_.out HW_.out (by kernel_rfl)) (fun _ _ _ h => h) (Or.inl ⟨by rfl, ?_⟩) hHeld ?_ ?_
                      rotate_left
                      ·rintro w' ⟨s0, s1, s2, s3⟩
                       go_simp
                       with_reducible rfl
                      rotate_left
                      ·simp only [Act.put, List.setIfInBounds_toArray, List.set_cons_zero, List.set_cons_succ, i64_w, i32_w]
                       rfl
                      refine one_ (i := 7) (N := some 77) #[true, true, true, true, true, true, true, true, false] rfl rfl (one_of HT_.out (by kernel_rfl)) (by decide) (fun K hK => ?_)
                      refine goes_ Try.func15 (by kernel_rfl) rfl #[.agg #[.int .i64 a0_0, .int .i64 a0_1, .slice A0_2 l0_2.length c0_2], .int .i64 x8_3, .int .i64 x4_1] (by rfl) rfl rfl (by (try simp only [List.map_toArray, List.map_cons, List.map_nil]); first | done | rfl | (simp only [List.length_drop, List.length_take]; rfl)) ?_
                      with_reducible refine (dom_Is.calls k3 a0_0 a0_1 _ _ l0_2 x8_3 x4_1 t332 _ ?side1 ?side2 A49.out).mono ?_
                      (case side1 => repeat (first | exact (Kd.C_below HR0_2.out HB.out) | (with_reducible refine Kd.C_alloc ?_ _) | (with_reducible refine Kd.C_drewN ?_ _) | (with_reducible refine Kd.C_drew ?_)))
                      (case side2 => exact HC0_2.out)
                      rintro e w56 ⟨rfl, hb⟩
                      have HS3_ := (hb.cell (World.block_lt_of_cell? _ _ (hHeld.2.2.2))).trans (hHeld.2.2.2)
                      refine ⟨_, rfl, ?_⟩
                      have n0_ := Aside0.mk (Kd.R_below (by (with_reducible repeat (first | apply Kd.R_alloc | apply Kd.R_drewN | apply Kd.R_drew)); exact HO_3.out) hb)
                      have n1_ := Aside0.mk (Kd.R_below (by (with_reducible repeat (first | apply Kd.R_alloc | apply Kd.R_drewN | apply Kd.R_drew)); exact HO_5.out) hb)
                      have n2_ := Aside0.mk (blk_below (g := gb316) (o := .cells #[.int .i64 a0_0, .int .i64 a0_1, .slice A0_2 l0_2.length c0_2] 24 (0, 0)) (by (with_reducible repeat (first | refine blk_drewN ?_ _ | refine blk_drew ?_ | refine blk_alloc ?_ _)); exact BK316.out) hb)
                      have n3_ := Aside0.mk (below_step (by repeat (first | (with_reducible first | exact HB.out | apply below_alloc | apply pw_below_drewN | apply below_drew1 | refine below_set ?_ GE316.out) | exact HB.out)) hb)
                      clear HO_3
                      clear HO_5
                      clear BK316
                      clear HB
                      have HO_3 := n0_
                      have HO_5 := n1_
                      have BK316 := n2_
                      have HB := n3_
                      clear n0_ n1_ n2_ n3_
                      (try clear hb)
                      (try clear hb2)
                      (try clear hk)
                      (try clear hi)
                      refine hK.out _ _ ⟨(blk_cell BK316.out 0).trans rfl, (blk_cell BK316.out 1).trans rfl, (blk_cell BK316.out 2).trans rfl, HS3_⟩ (fun hHeld => ?_)
                      clear hK K
                      refine norm_ (a' := ?_) ?_ ?_
                      rotate_left
                      ·show Act.put _ (some 77) _ = _
                       simp only [Act.put, List.setIfInBounds_toArray, List.set_cons_zero, List.set_cons_succ, i64_w, i32_w]
                       rfl
                      refine pure_ (i := 8) (N := some 78) (v := ?_) (a' := ?_) #[true, true, true, true, true, true, true, true, true] rfl rfl (any_of HT_.out (by kernel_rfl)) (fun _ _ _ h => h) (Or.inl ⟨by rfl, ?_⟩) ?_ ?_
                      rotate_left
                      ·intro w'
                       go_simp
                       with_reducible rfl
                      rotate_left
                      ·simp only [Act.put, List.setIfInBounds_toArray, List.set_cons_zero, List.set_cons_succ, i64_w, i32_w]
                       rfl
                      refine done_ (done_of HT_.out (by kernel_rfl)) ?_
                      try go_wp2
                      (try simp only [← hl5_3])
                      go_roundg k3
                      case measure => have := HK1.out; have := HJ23.out; have := HK3.out; omega
                      case rel => exact ⟨(wrap64 (x8_3 + 1)), (by first | rfl | (simp; done) | (simp [*]; done)), H', ⟨by have := HK1.out; have := HJ23.out; have := HK3.out; omega⟩, ⟨by (try simp only [hl5_3]); (with_reducible repeat (first | apply Kd.R_alloc | apply Kd.R_drewN | apply Kd.R_drew)); exact HO_3.out⟩, ⟨by (try simp only [hl5_3]); (with_reducible repeat (first | apply Kd.R_alloc | apply Kd.R_drewN | apply Kd.R_drew)); exact HO_5.out⟩, ⟨by (try simp only [hl5_3]); (with_reducible repeat (first | refine blk_drewN ?_ _ | refine blk_drew ?_ | refine blk_alloc ?_ _)); exact BK316.out⟩, ⟨by repeat (first | (with_reducible first | exact HB.out | apply below_alloc | apply pw_below_drewN | apply below_drew1 | refine below_set ?_ GE316.out) | exact HB.out)⟩⟩
                    ·rw [if_neg c48] at H
                     exact absurd H (by simp)
                   ·rw [if_neg c47] at H
                    exact absurd H (by simp)
                  ·rw [if_neg c46] at H
                   have c46b0 : decide (x8_3 < (l0_2.length : Int)) = false := decide_eq_false c46
                   clear c46
                   have H' := Aside0.mk H
                   clear H
                   have hcz57_0 : wr.cell? ⟨gb316, 0, none⟩ = some (.int .i64 a0_0) := (blk_cell BK316.out 0).trans rfl
                   have hcz57_1 : wr.cell? ⟨gb316, 1, none⟩ = some (.int .i64 a0_1) := (blk_cell BK316.out 1).trans rfl
                   have hcz57_2 : wr.cell? ⟨gb316, 2, none⟩ = some (.slice A0_2 l0_2.length c0_2) := (blk_cell BK316.out 2).trans rfl
                   have hfz57_0 := blk_frozen BK316.out 0
                   have hfz57_1 := blk_frozen BK316.out 1
                   have hfz57_2 := blk_frozen BK316.out 2
                   go_wp2
                   (try simp only [← hl5_3])
                   go_roundg k3
                   case measure => have := HK1.out; have := HJ23.out; have := HK3.out; omega
                   case rel => exact ⟨(wrap64 (x4_1 + 1)), (by first | rfl | (simp; done) | (simp [*]; done)), H', ⟨by have := HK1.out; have := HJ23.out; have := HK3.out; omega⟩, ⟨by (try simp only [hl5_3]); (with_reducible repeat (first | apply Kd.R_alloc | apply Kd.R_drewN | apply Kd.R_drew)); exact HO_3.out⟩, ⟨by (try simp only [hl5_3]); (with_reducible repeat (first | refine blk_drewN ?_ _ | refine blk_drew ?_ | refine blk_alloc ?_ _)); exact BK316.out⟩, ⟨by repeat (first | (with_reducible first | exact HB.out | apply below_alloc | apply pw_below_drewN | apply below_drew1 | refine below_set ?_ GE316.out) | exact HB.out)⟩⟩
               ·rw [if_neg c42] at H
                exact absurd H (by simp)
              ·rw [if_neg c41] at H
               have c41b0 : (x6_23 == 0) = false := beq_eq_false_iff_ne.mpr c41
               have c41b1 : (x6_23 != 0) = true := bne_iff_ne.mpr c41
               obtain rfl := Option.some.inj H
               go_wp2
               go_ret
               exact ⟨by first | rfl | (simp [errW_none, errW_some] <;> rfl) | (simp [*, errW_none, errW_some] <;> rfl), by repeat (first | (with_reducible first | exact HB.out | apply below_alloc | apply pw_below_drewN | apply below_drew1 | refine below_set ?_ GE316.out) | exact HB.out)⟩
           ·rw [if_neg c23] at H
            exact absurd H (by simp)
          ·rw [if_neg c22] at H
           exact absurd H (by simp)
         ·replace c21 := Bool.eq_false_iff.mpr c21
          subst c21
          have H1 : (davitlaw08_DomChain.l0 k1 t318 (wrap64 (x4_1 + 1)) a0_0 a0_1 l0_2) = some r := by rw [if_neg (show ¬ (false = true) by decide)] at H; exact H
          clear H
          have H := H1
          clear H1
          have H' := Aside0.mk H
          clear H
          have hcz58_0 : wr.cell? ⟨gb316, 0, none⟩ = some (.int .i64 a0_0) := (blk_cell BK316.out 0).trans rfl
          have hcz58_1 : wr.cell? ⟨gb316, 1, none⟩ = some (.int .i64 a0_1) := (blk_cell BK316.out 1).trans rfl
          have hcz58_2 : wr.cell? ⟨gb316, 2, none⟩ = some (.slice A0_2 l0_2.length c0_2) := (blk_cell BK316.out 2).trans rfl
          have hfz58_0 := blk_frozen BK316.out 0
          have hfz58_1 := blk_frozen BK316.out 1
          have hfz58_2 := blk_frozen BK316.out 2
          go_wp2_with (first | ((with_reducible refine gate_callee (f := 19) rfl ?_); refine goesL_ (some 31) rfl rfl Try.func19 (by kernel_rfl) rfl #[.agg #[.int .i64 a0_0, .int .i64 a0_1, .slice A0_2 l0_2.length c0_2]] rfl (by (try simp only [List.map_toArray, List.map_cons, List.map_nil]); first | done | rfl | (simp only [List.length_drop, List.length_take]; rfl)) ?_; (with_reducible refine (flow_Reached.calls a0_0 a0_1 _ _ l0_2 t321 _ ?side1 ?side2 A17.out).mono ?_); (case side1 => repeat (first | exact (Kd.C_below HR0_2.out HB.out) | (with_reducible refine Kd.C_alloc ?_ _) | (with_reducible refine Kd.C_drewN ?_ _) | (with_reducible refine Kd.C_drew ?_))); (case side2 => exact HC0_2.out); rintro e w59 ⟨v322, rfl, ho0, hb⟩; refine ⟨_, rfl, ?_⟩; have n0_ := Aside0.mk (Kd.R_below (by (with_reducible repeat (first | apply Kd.R_alloc | apply Kd.R_drewN | apply Kd.R_drew)); exact HO_3.out) hb); have n1_ := Aside0.mk (Kd.R_lower ho0 (below_size (by repeat (first | (with_reducible first | exact HB.out | apply below_alloc | apply pw_below_drewN | apply below_drew1 | refine below_set ?_ GE316.out) | exact HB.out)))); have n2_ := Aside0.mk (blk_below (g := gb316) (o := .cells #[.int .i64 a0_0, .int .i64 a0_1, .slice A0_2 l0_2.length c0_2] 24 (0, 0)) (by (with_reducible repeat (first | refine blk_drewN ?_ _ | refine blk_drew ?_ | refine blk_alloc ?_ _)); exact BK316.out) hb); have n3_ := Aside0.mk (below_step (by repeat (first | (with_reducible first | exact HB.out | apply below_alloc | apply pw_below_drewN | apply below_drew1 | refine below_set ?_ GE316.out) | exact HB.out)) hb); clear HO_3; clear BK316; clear HB; have HO_3 := n0_; have HO323 := n1_; have BK316 := n2_; have HB := n3_; clear n0_ n1_ n2_ n3_; (try clear hb); (try clear hb2); (try clear hk); (try clear hi); (try clear ho0); obtain ⟨Ao60, co60, eo60⟩ := Kd.R_slice HO323.out; subst eo60; have p324 : 0 ≤ (x4_1 : Int) := of_decide_eq_true (by first | (with_reducible assumption) | assumption); have q324 : x4_1 < (t321.length : Int) := of_decide_eq_true (by first | (with_reducible assumption) | assumption); obtain ⟨ad324, e324, hx324_0⟩ := Kd.at_bool (Kd.R_reads' HO323.out).2.2 x4_1 p324 q324; (try rw [← Nbq20.out] at hx324_0); cases e324; replace p324 := eq_true p324; replace q324 := eq_true q324))
          go_roundg k1
          case measure => have := HK1.out; omega
          case rel => exact ⟨(wrap64 (x4_1 + 1)), (by first | rfl | (simp; done) | (simp [*]; done)), H', ⟨by have := HK1.out; omega⟩, ⟨by (with_reducible repeat (first | apply Kd.R_alloc | apply Kd.R_drewN | apply Kd.R_drew)); exact HO_3.out⟩, ⟨by (with_reducible repeat (first | refine blk_drewN ?_ _ | refine blk_drew ?_ | refine blk_alloc ?_ _)); exact BK316.out⟩, ⟨by repeat (first | (with_reducible first | exact HB.out | apply below_alloc | apply pw_below_drewN | apply below_drew1 | refine below_set ?_ GE316.out) | exact HB.out)⟩⟩
        ·rw [if_neg c19] at H
         exact absurd H (by simp)
       ·rw [if_neg c18] at H
        exact absurd H (by simp)
      ·rw [if_neg c16] at H
       have c16b0 : decide (x4_1 < (l0_2.length : Int)) = false := decide_eq_false c16
       clear c16
       obtain rfl := Option.some.inj H
       have hcz61_0 : wr.cell? ⟨gb316, 0, none⟩ = some (.int .i64 a0_0) := (blk_cell BK316.out 0).trans rfl
       have hcz61_1 : wr.cell? ⟨gb316, 1, none⟩ = some (.int .i64 a0_1) := (blk_cell BK316.out 1).trans rfl
       have hcz61_2 : wr.cell? ⟨gb316, 2, none⟩ = some (.slice A0_2 l0_2.length c0_2) := (blk_cell BK316.out 2).trans rfl
       have hfz61_0 := blk_frozen BK316.out 0
       have hfz61_1 := blk_frozen BK316.out 1
       have hfz61_2 := blk_frozen BK316.out 2
       go_wp2
       go_ret
       exact ⟨by first | rfl | (simp [errW_none, errW_some] <;> rfl) | (simp [*, errW_none, errW_some] <;> rfl), by repeat (first | (with_reducible first | exact HB.out | apply below_alloc | apply pw_below_drewN | apply below_drew1 | refine below_set ?_ GE316.out) | exact HB.out)⟩
   ·rw [if_neg c9] at H
    have c9b0 : ((t318.length : Int) == (l0_2.length : Int)) = false := beq_eq_false_iff_ne.mpr c9
    have c9b1 : ((t318.length : Int) != (l0_2.length : Int)) = true := bne_iff_ne.mpr c9
    have c9b2 : (t318.length == l0_2.length) = false := by first | simpa using c9 | (simp at c9 ⊢; omega)
    obtain rfl := Option.some.inj H
    go_enter Try.func6, Try.ntmps6
    go_wp2_with (first | ((with_reducible refine gate_dst (N := 1) rfl ?_); (try (refine gate_guard (by rfl) ?_; dsimp only)); refine box_event ?hg (N := 1) ?hd (cs := #[.int .i64 a0_0, .int .i64 a0_1, .slice A0_2 l0_2.length c0_2]) (t := 24) ?hr ?_; (case hd => rfl); (case hg => rfl); (case hr => first | (go_simp; done) | (go_simp; rfl)); intro gb316 hg w62 hbox hb; have n0_ := Aside0.mk (below_step (by repeat (first | (with_reducible first | exact HB.out | apply below_alloc | apply pw_below_drewN | apply below_drew1) | exact HB.out)) hb); have n1_ := Aside0.mk (hbox); have n2_ := Aside0.mk ((by rw [hg]; exact (below_size (by repeat (first | (with_reducible first | exact HB.out | apply below_alloc | apply pw_below_drewN | apply below_drew1) | exact HB.out))) : w.heap.size ≤ gb316)); have n3_ := Aside0.mk ((by rw [hg]; exact (below_size (by repeat (first | (with_reducible first | exact HB.out | apply below_alloc | apply pw_below_drewN | apply below_drew1) | exact HB.out))) : w.heap.size ≤ gb316)); clear HB; have HB := n0_; have BK316 := n1_; have GW316 := n2_; have GE316 := n3_; clear n0_ n1_ n2_ n3_; clear hb hbox hg) | ((with_reducible refine gate_callee (f := 11) rfl ?_); refine goesL_ (some 9) rfl rfl Try.func11 (by kernel_rfl) rfl #[] rfl (by (try simp only [List.map_toArray, List.map_cons, List.map_nil]); first | done | rfl | (simp only [List.length_drop, List.length_take]; rfl)) ?_; (with_reducible refine (davitlaw08_awake.calls k  true _ A2.out).mono ?_); rintro e w63 ⟨rfl, hb⟩; refine ⟨_, rfl, ?_⟩; have n0_ := Aside0.mk (blk_below (g := gb316) (o := .cells #[.int .i64 a0_0, .int .i64 a0_1, .slice A0_2 l0_2.length c0_2] 24 (0, 0)) (by (with_reducible repeat (first | refine blk_drewN ?_ _ | refine blk_drew ?_ | refine blk_alloc ?_ _)); exact BK316.out) hb); have n1_ := Aside0.mk (below_step (by repeat (first | (with_reducible first | exact HB.out | apply below_alloc | apply pw_below_drewN | apply below_drew1 | refine below_set ?_ GE316.out) | exact HB.out)) hb); clear BK316; clear HB; have BK316 := n0_; have HB := n1_; clear n0_ n1_; (try clear hb); (try clear hb2); (try clear hk); (try clear hi); have hcz64_0 : w63.cell? ⟨gb316, 0, none⟩ = some (.int .i64 a0_0) := (blk_cell BK316.out 0).trans rfl; have hcz64_1 : w63.cell? ⟨gb316, 1, none⟩ = some (.int .i64 a0_1) := (blk_cell BK316.out 1).trans rfl; have hcz64_2 : w63.cell? ⟨gb316, 2, none⟩ = some (.slice A0_2 l0_2.length c0_2) := (blk_cell BK316.out 2).trans rfl; have hfz64_0 := blk_frozen BK316.out 0; have hfz64_1 := blk_frozen BK316.out 1; have hfz64_2 := blk_frozen BK316.out 2) | ((with_reducible refine gate_callee (f := 13) rfl ?_); refine goesL_ (some 16) rfl rfl Try.func13 (by kernel_rfl) rfl #[.agg #[.int .i64 a0_0, .int .i64 a0_1, .slice A0_2 l0_2.length c0_2]] rfl (by (try simp only [List.map_toArray, List.map_cons, List.map_nil]); first | done | rfl | (simp only [List.length_drop, List.length_take]; rfl)) ?_; (with_reducible refine (dom_Over.calls a0_0 a0_1 _ _ l0_2 t318 _ ?side1 ?side2 A8.out).mono ?_); (case side1 => repeat (first | exact (Kd.C_below HR0_2.out HB.out) | (with_reducible refine Kd.C_alloc ?_ _) | (with_reducible refine Kd.C_drewN ?_ _) | (with_reducible refine Kd.C_drew ?_))); (case side2 => exact HC0_2.out); rintro e w65 ⟨v319, rfl, ho0, hb⟩; refine ⟨_, rfl, ?_⟩; have n0_ := Aside0.mk (Kd.R_lower ho0 (below_size (by repeat (first | (with_reducible first | exact HB.out | apply below_alloc | apply pw_below_drewN | apply below_drew1 | refine below_set ?_ GE316.out) | exact HB.out)))); have n1_ := Aside0.mk (blk_below (g := gb316) (o := .cells #[.int .i64 a0_0, .int .i64 a0_1, .slice A0_2 l0_2.length c0_2] 24 (0, 0)) (by (with_reducible repeat (first | refine blk_drewN ?_ _ | refine blk_drew ?_ | refine blk_alloc ?_ _)); exact BK316.out) hb); have n2_ := Aside0.mk (below_step (by repeat (first | (with_reducible first | exact HB.out | apply below_alloc | apply pw_below_drewN | apply below_drew1 | refine below_set ?_ GE316.out) | exact HB.out)) hb); clear BK316; clear HB; have HO320 := n0_; have BK316 := n1_; have HB := n2_; clear n0_ n1_ n2_; (try clear hb); (try clear hb2); (try clear hk); (try clear hi); (try clear ho0); obtain ⟨Ao66, co66, eo66⟩ := Kd.R_slice HO320.out; subst eo66; have hcz67_0 : w65.cell? ⟨gb316, 0, none⟩ = some (.int .i64 a0_0) := (blk_cell BK316.out 0).trans rfl; have hcz67_1 : w65.cell? ⟨gb316, 1, none⟩ = some (.int .i64 a0_1) := (blk_cell BK316.out 1).trans rfl; have hcz67_2 : w65.cell? ⟨gb316, 2, none⟩ = some (.slice A0_2 l0_2.length c0_2) := (blk_cell BK316.out 2).trans rfl; have hfz67_0 := blk_frozen BK316.out 0; have hfz67_1 := blk_frozen BK316.out 1; have hfz67_2 := blk_frozen BK316.out 2))
    go_ret
    exact ⟨by first | rfl | (simp [errW_none, errW_some] <;> rfl) | (simp [*, errW_none, errW_some] <;> rfl), by repeat (first | (with_reducible first | exact HB.out | apply below_alloc | apply pw_below_drewN | apply below_drew1 | refine below_set ?_ GE316.out) | exact HB.out)⟩
 ·replace c3 := Bool.eq_false_iff.mpr c3
  subst c3
  have H1 : (some false) = some r := by rw [if_neg (show ¬ (false = true) by decide)] at H; exact H
  clear H
  have H := H1
  clear H1
  obtain rfl := Option.some.inj H
  go_enter Try.func6, Try.ntmps6
  go_wp2_with (first | ((with_reducible refine gate_dst (N := 1) rfl ?_); (try (refine gate_guard (by rfl) ?_; dsimp only)); refine box_event ?hg (N := 1) ?hd (cs := #[.int .i64 a0_0, .int .i64 a0_1, .slice A0_2 l0_2.length c0_2]) (t := 24) ?hr ?_; (case hd => rfl); (case hg => rfl); (case hr => first | (go_simp; done) | (go_simp; rfl)); intro gb316 hg w68 hbox hb; have n0_ := Aside0.mk (below_step (by repeat (first | (with_reducible first | exact HB.out | apply below_alloc | apply pw_below_drewN | apply below_drew1) | exact HB.out)) hb); have n1_ := Aside0.mk (hbox); have n2_ := Aside0.mk ((by rw [hg]; exact (below_size (by repeat (first | (with_reducible first | exact HB.out | apply below_alloc | apply pw_below_drewN | apply below_drew1) | exact HB.out))) : w.heap.size ≤ gb316)); have n3_ := Aside0.mk ((by rw [hg]; exact (below_size (by repeat (first | (with_reducible first | exact HB.out | apply below_alloc | apply pw_below_drewN | apply below_drew1) | exact HB.out))) : w.heap.size ≤ gb316)); clear HB; have HB := n0_; have BK316 := n1_; have GW316 := n2_; have GE316 := n3_; clear n0_ n1_ n2_ n3_; clear hb hbox hg) | ((with_reducible refine gate_callee (f := 11) rfl ?_); refine goesL_ (some 9) rfl rfl Try.func11 (by kernel_rfl) rfl #[] rfl (by (try simp only [List.map_toArray, List.map_cons, List.map_nil]); first | done | rfl | (simp only [List.length_drop, List.length_take]; rfl)) ?_; (with_reducible refine (davitlaw08_awake.calls k  false _ A2.out).mono ?_); rintro e w69 ⟨rfl, hb⟩; refine ⟨_, rfl, ?_⟩; have n0_ := Aside0.mk (blk_below (g := gb316) (o := .cells #[.int .i64 a0_0, .int .i64 a0_1, .slice A0_2 l0_2.length c0_2] 24 (0, 0)) (by (with_reducible repeat (first | refine blk_drewN ?_ _ | refine blk_drew ?_ | refine blk_alloc ?_ _)); exact BK316.out) hb); have n1_ := Aside0.mk (below_step (by repeat (first | (with_reducible first | exact HB.out | apply below_alloc | apply pw_below_drewN | apply below_drew1 | refine below_set ?_ GE316.out) | exact HB.out)) hb); clear BK316; clear HB; have BK316 := n0_; have HB := n1_; clear n0_ n1_; (try clear hb); (try clear hb2); (try clear hk); (try clear hi)))
  go_ret
  exact ⟨by first | rfl | (simp [errW_none, errW_some] <;> rfl) | (simp [*, errW_none, errW_some] <;> rfl), by repeat (first | (with_reducible first | exact HB.out | apply below_alloc | apply pw_below_drewN | apply below_drew1 | refine below_set ?_ GE316.out) | exact HB.out)⟩
end
end Go.Proofs.Ytilopoegoddggaa.X
namespace Go.Proofs.Ytilopoegoddggaa.G
set_option linter.all false
def Evt {α : Type} (g : Nat → Option α) (r : α) : Prop := ∃ k0, ∀ k, k0 ≤ k → g k = some r
theorem Evt.succ {α : Type} {g : Nat → Option α} {r : α} (h : Evt (fun k => g (k + 1)) r) : Evt g r := by
 obtain ⟨k0, h⟩ := h
 refine ⟨k0 + 1, fun k hk => ?_⟩
 obtain ⟨j, rfl⟩ : ∃ j, k = j + 1 := ⟨k - 1, by omega⟩
 exact h j (by omega)
theorem Evt.bind {α β : Type} {g : Nat → Option α} {h : Nat → α → Option β} {a : α} {r : β} (h1 : Evt g a) (h2 : Evt (fun k => h k a) r) : Evt (fun k => (g k).bind (h k)) r := by
 obtain ⟨k1, h1⟩ := h1
 obtain ⟨k2, h2⟩ := h2
 refine ⟨k1 + k2, fun k hk => ?_⟩
 show (g k).bind (h k) = some r
 rw [h1 k (by omega)]
 exact h2 k (by omega)
theorem Evt.pure {α : Type} (r : α) : Evt (fun _ => some r) r := ⟨0, fun _ _ => rfl⟩
theorem Evt.congr {α : Type} {g g' : Nat → Option α} {r : α} (h : Evt g' r) (e : ∀ k, g k = g' k) : Evt g r := by
 obtain ⟨k0, h⟩ := h
 exact ⟨k0, fun k hk => (e k).trans (h k hk)⟩
theorem Evt.inj {α : Type} {g : Nat → Option α} {r s : α} (h1 : Evt g r) (h2 : Evt g s) : r = s := by
 obtain ⟨k1, h1⟩ := h1
 obtain ⟨k2, h2⟩ := h2
 have e1 := h1 (k1 + k2) (by omega)
 have e2 := h2 (k1 + k2) (by omega)
 rw [e1] at e2
 exact Option.some.inj e2
theorem Evt.ex {α : Type} {g : Nat → Option α} {r : α} (h : Evt g r) : ∃ k, g k = some r := by
 obtain ⟨k0, h⟩ := h
 exact ⟨k0, h k0 (Nat.le_refl _)⟩
inductive Rch (N : Nat) (sc : Int → List Int) (no : Int) : Int → Prop
 | zero : 0 < N → (0 : Int) ≠ no → Rch N sc no 0
 | step {a b : Int} : Rch N sc no a → b ∈ sc a → b ≠ no → Rch N sc no b
def Dom (N : Nat) (sc : Int → List Int) (a b : Int) : Prop := Rch N sc (-1) b ∧ (0 ≤ a ∧ a < N) ∧ (a = b ∨ ¬ Rch N sc a b)
inductive Anc (o : Int → Int) : Int → Int → Prop
 | refl (n : Int) : Anc o n n
 | up {a n : Int} : n ≠ 0 → Anc o a (o n) → Anc o a n
section
variable {N : Nat} {sc : Int → List Int}
def Edges (N : Nat) (sc : Int → List Int) : Prop := ∀ a b, b ∈ sc a → (0 ≤ a ∧ a < N) ∧ (0 ≤ b ∧ b < N)
theorem Rch.inV (he : Edges N sc) {no n : Int} (h : Rch N sc no n) : 0 ≤ n ∧ n < N := by
 cases h with
 | zero h0 _ => omega
 | step _ h _ => exact (he _ _ h).2
theorem Rch.ne {no n : Int} (h : Rch N sc no n) : n ≠ no := by
 cases h with
 | zero _ h => exact h
 | step _ _ h => exact h
theorem Rch.any (he : Edges N sc) {no n : Int} (h : Rch N sc no n) : Rch N sc (-1) n := by
 induction h with
 | zero h0 _ => exact .zero h0 (by omega)
 | step _ hs _ ih => exact .step ih hs (by have := (he _ _ hs).2; omega)
theorem Rch.next (he : Edges N sc) {a b : Int} (h : Rch N sc (-1) a) (hs : b ∈ sc a) : Rch N sc (-1) b := .step h hs (by have := (he _ _ hs).2; omega)
theorem Dom.refl (he : Edges N sc) {a : Int} (h : Rch N sc (-1) a) : Dom N sc a a := ⟨h, h.inV he, .inl rfl⟩
theorem Dom.pred (he : Edges N sc) {x m p : Int} (h : Dom N sc x m) (hne : x ≠ m) (hs : m ∈ sc p) (hp : Rch N sc (-1) p) : Dom N sc x p := by
 obtain ⟨h1, h2, h3⟩ := h
 refine ⟨hp, h2, ?_⟩
 rcases h3 with h3 | h3
 ·exact absurd h3 hne
 ·exact .inr fun h => h3 (.step h hs (fun e => hne e.symm))
theorem Dom.at_zero {x : Int} (h : Dom N sc x 0) : x = 0 := by
 obtain ⟨h1, h2, h3⟩ := h
 rcases h3 with h3 | h3
 ·exact h3
 ·by_cases hx : x = 0
  ·exact hx
  ·exact absurd (.zero (by omega) (fun e => hx e.symm)) h3
theorem no_rch0 {n : Int} (h : Rch N sc 0 n) : False := by
 induction h with
 | zero _ h => exact h rfl
 | step _ _ _ ih => exact ih
theorem Dom.zero {n : Int} (h : Rch N sc (-1) n) (hN : 0 < N) : Dom N sc 0 n := ⟨h, ⟨by omega, by omega⟩, .inr no_rch0⟩
end
section
variable {o : Int → Int}
theorem Anc.trans {a b c : Int} (h1 : Anc o a b) (h2 : Anc o b c) : Anc o a c := by
 induction h2 with
 | refl => exact h1
 | up h0 _ ih => exact .up h0 ih
theorem Anc.at_zero {a : Int} (h : Anc o a 0) : a = 0 := by
 cases h with
 | refl => rfl
 | up h0 _ => exact absurd rfl h0
theorem Anc.total {a b n : Int} (h1 : Anc o a n) (h2 : Anc o b n) : Anc o a b ∨ Anc o b a := by
 induction h1 with
 | refl => exact .inr h2
 | up h0 h1 ih =>
  cases h2 with
  | refl => exact .inl (.up h0 h1)
  | up _ h2 => exact ih h2
theorem Anc.cases_ne {a n : Int} (h : Anc o a n) (hne : a ≠ n) : n ≠ 0 ∧ Anc o a (o n) := by
 cases h with
 | refl => exact absurd rfl hne
 | up h0 h1 => exact ⟨h0, h1⟩
end
section
variable (N : Nat) (sc : Int → List Int) (place : Int → Int)
structure Pl : Prop where
 edge : Edges N sc
 zero : place 0 = 0
 pos : ∀ n, Rch N sc (-1) n → 0 ≤ place n
 inj : ∀ a b, Rch N sc (-1) a → Rch N sc (-1) b → place a = place b → a = b
 pred : ∀ n, Rch N sc (-1) n → n ≠ 0 → ∃ q, Rch N sc (-1) q ∧ n ∈ sc q ∧ place q < place n
structure Tree (o : Int → Int) : Prop where
 zero : o 0 = 0
 neg : ∀ n : Int, 0 ≤ n → n < N → ¬ Rch N sc (-1) n → o n = -1
 low : ∀ n : Int, 0 ≤ n → n < N → -1 ≤ o n
 up : ∀ n, Rch N sc (-1) n → n ≠ 0 → 0 ≤ o n → Rch N sc (-1) (o n) ∧ 0 ≤ o (o n) ∧ place (o n) < place n
structure Inv (o : Int → Int) (i : Int) (fin : Bool) : Prop extends Tree N sc place o where
 P : ∀ m, Rch N sc (-1) m → (place m < i ∨ fin = true) → 0 ≤ o m
 U : ∀ m, Rch N sc (-1) m → 0 ≤ o m → ∀ x, Dom N sc x m → Anc o x m
 K : ∀ m, Rch N sc (-1) m → m ≠ 0 → 0 ≤ o m → ∀ x, (∀ p, m ∈ sc p → Rch N sc (-1) p → 0 ≤ o p → Anc o x p) → Anc o x (o m)
 M : ∀ m q, Rch N sc (-1) m → m ≠ 0 → 0 ≤ o m → m ∈ sc q → Rch N sc (-1) q → place q < place m → 0 ≤ o q ∧ ∀ x, x ≠ m → Anc o x m → (place m < i ∨ i ≤ place x) → Anc o x q
end
section
variable {N : Nat} {sc : Int → List Int} {place o : Int → Int}
theorem Tree.anc (T : Tree N sc place o) {a n : Int} (h : Anc o a n) (hr : Rch N sc (-1) n) (hp : 0 ≤ o n) : Rch N sc (-1) a ∧ 0 ≤ o a ∧ place a ≤ place n := by
 induction h with
 | refl => exact ⟨hr, hp, Int.le_refl _⟩
 | up h0 _ ih =>
  obtain ⟨h1, h2, h3⟩ := T.up _ hr h0 hp
  obtain ⟨r1, r2, r3⟩ := ih h1 h2
  exact ⟨r1, r2, by omega⟩
theorem Tree.lt (T : Tree N sc place o) {a n : Int} (h : Anc o a n) (hne : a ≠ n) (hr : Rch N sc (-1) n) (hp : 0 ≤ o n) : place a < place n := by
 obtain ⟨h0, h1⟩ := h.cases_ne hne
 obtain ⟨r1, r2, r3⟩ := T.up _ hr h0 hp
 have := (T.anc h1 r1 r2).2.2
 omega
theorem Tree.antisymm (T : Tree N sc place o) {a n : Int} (h : Anc o a n) (h' : Anc o n a) (hr : Rch N sc (-1) n) (hp : 0 ≤ o n) : a = n := by
 by_cases he : a = n
 ·exact he
 ·have h1 := T.lt h he hr hp
  obtain ⟨r1, r2, _⟩ := T.anc h hr hp
  have h2 := (T.anc h' r1 r2).2.2
  omega
theorem Tree.above (T : Tree N sc place o) {a b n : Int} (h1 : Anc o a n) (h2 : Anc o b n) (hr : Rch N sc (-1) n) (hp : 0 ≤ o n) (hl : place a < place b) : Anc o a b := by
 rcases h1.total h2 with h | h
 ·exact h
 ·obtain ⟨r1, r2, _⟩ := T.anc h1 hr hp
  have := (T.anc h r1 r2).2.2
  omega
theorem Tree.root (T : Tree N sc place o) (L : Pl N sc place) : ∀ (j : Nat) (n : Int), (place n).toNat ≤ j → Rch N sc (-1) n → 0 ≤ o n → Anc o 0 n
 | 0, n, hj, hr, hp => by
  by_cases h0 : n = 0
  ·exact h0 ▸ .refl _
  ·obtain ⟨r1, r2, r3⟩ := T.up n hr h0 hp
   have := L.pos _ r1
   omega
 | j + 1, n, hj, hr, hp => by
  by_cases h0 : n = 0
  ·exact h0 ▸ .refl _
  ·obtain ⟨r1, r2, r3⟩ := T.up n hr h0 hp
   have := L.pos _ r1
   exact .up h0 (T.root L j (o n) (by omega) r1 r2)
def upd (o : Int → Int) (n r : Int) : Int → Int := fun x => if x = n then r else o x
theorem upd_self (o : Int → Int) (n r : Int) : upd o n r n = r := by simp [upd]
theorem upd_ne (o : Int → Int) {n r x : Int} (h : x ≠ n) : upd o n r x = o x := by simp [upd, h]
section
variable {i n0 r : Int} {fin : Bool}
structure Best (N : Nat) (sc : Int → List Int) (o : Int → Int) (n0 r : Int) : Prop where
 rch : Rch N sc (-1) r
 done : 0 ≤ o r
 all : ∀ x, Anc o x r ↔ ∀ p, n0 ∈ sc p → Rch N sc (-1) p → 0 ≤ o p → Anc o x p
theorem upd_low (T : Tree N sc place o) {x m : Int} (hr : Rch N sc (-1) m) (hp : 0 ≤ o m) (hl : place m < place n0) : Anc (upd o n0 r) x m ↔ Anc o x m := by
 constructor
 ·intro h
  induction h with
  | refl => exact .refl _
  | up h0 _ ih =>
   rename_i n _
   have hn : n ≠ n0 := fun e => by rw [e] at hl; omega
   rw [upd_ne o hn] at ih
   obtain ⟨r1, r2, r3⟩ := T.up _ hr h0 hp
   exact .up h0 (ih r1 r2 (by omega))
 ·intro h
  induction h with
  | refl => exact .refl _
  | up h0 _ ih =>
   rename_i n _
   have hn : n ≠ n0 := fun e => by rw [e] at hl; omega
   obtain ⟨r1, r2, r3⟩ := T.up _ hr h0 hp
   exact .up h0 (by rw [upd_ne o hn]; exact ih r1 r2 (by omega))
theorem upd_off {x m : Int} (h : Anc o x m) (hn : ¬ Anc o n0 m) : Anc (upd o n0 r) x m := by
 induction h with
 | refl => exact .refl _
 | up h0 _ ih =>
  rename_i n _
  have : n ≠ n0 := fun e => hn (e ▸ .refl _)
  exact .up h0 (by rw [upd_ne o this]; exact ih (fun h => hn (.up h0 h)))
theorem upd_high (T : Tree N sc place o) {x m : Int} (h : Anc o x m) (hr : Rch N sc (-1) m) (hp : 0 ≤ o m) (hl : place n0 ≤ place x) : Anc (upd o n0 r) x m := by
 induction h with
 | refl => exact .refl _
 | up h0 h1 ih =>
  rename_i n
  obtain ⟨r1, r2, r3⟩ := T.up _ hr h0 hp
  have h3 := (T.anc h1 r1 r2).2.2
  have : n ≠ n0 := fun e => by rw [e] at r3 h3; omega
  exact .up h0 (by rw [upd_ne o this]; exact ih r1 r2)
theorem Best.lt (B : Best N sc o n0 r) (I : Inv N sc place o (place n0) fin) (L : Pl N sc place) (hn : Rch N sc (-1) n0) (h0 : n0 ≠ 0) : place r < place n0 := by
 obtain ⟨q, q1, q2, q3⟩ := L.pred n0 hn h0
 have hq := I.P q q1 (.inl q3)
 have h := (B.all r).1 (.refl _) q q2 q1 hq
 have := (I.toTree.anc h q1 hq).2.2
 omega
theorem upd_back (B : Best N sc o n0 r) (I : Inv N sc place o (place n0) fin) (L : Pl N sc place) (hn : Rch N sc (-1) n0) (h0 : n0 ≠ 0) {x m : Int} (h : Anc (upd o n0 r) x m) (hr : Rch N sc (-1) m) (hp : 0 ≤ o m) : Anc o x m := by
 induction h with
 | refl => exact .refl _
 | up hm0 h1 ih =>
  rename_i n
  obtain ⟨r1, r2, r3⟩ := I.up _ hr hm0 hp
  by_cases e : n = n0
  ·subst e
   rw [upd_self] at ih
   have h2 := ih B.rch B.done
   exact .up hm0 (h2.trans (I.K n hr hm0 hp r ((B.all r).1 (.refl _))))
  ·rw [upd_ne o e] at ih
   exact .up hm0 (ih r1 r2)
end
end
end Go.Proofs.Ytilopoegoddggaa.G
namespace Go.Proofs.Ytilopoegoddggaa.G
set_option linter.all false
section
variable {N : Nat} {sc : Int → List Int} {place o : Int → Int} {n0 r : Int} {fin : Bool}
theorem upd_done (hd : 0 ≤ r) {m : Int} (h : 0 ≤ o m) : 0 ≤ upd o n0 r m := by
 unfold upd; split
 ·exact hd
 ·exact h
theorem Inv.step (I : Inv N sc place o (place n0) fin) (L : Pl N sc place) (hn : Rch N sc (-1) n0) (h0 : n0 ≠ 0) (B : Best N sc o n0 r) : Inv N sc place (upd o n0 r) (place n0 + 1) fin := by
 have hlt := B.lt I L hn h0
 have hd : 0 ≤ r := (B.rch.inV L.edge).1
 have hr0 : r ≠ n0 := fun e => by rw [e] at hlt; omega
 have T' : Tree N sc place (upd o n0 r) := by
  refine ⟨?_, fun n a b c => ?_, fun n a b => ?_, fun n a b c => ?_⟩
  ·rw [upd_ne o (fun e => h0 e.symm)]; exact I.zero
  ·rw [upd_ne o (fun e : n = n0 => c (e ▸ hn))]; exact I.neg n a b c
  ·unfold upd; split
   ·omega
   ·exact I.low n a b
  ·by_cases e : n = n0
   ·subst e
    rw [upd_self]
    exact ⟨B.rch, by rw [upd_ne o hr0]; exact B.done, hlt⟩
   ·rw [upd_ne o e] at c ⊢
    obtain ⟨r1, r2, r3⟩ := I.up n a b c
    exact ⟨r1, upd_done hd r2, r3⟩
 have back : ∀ {x m : Int}, Anc (upd o n0 r) x m → Rch N sc (-1) m → 0 ≤ o m → Anc o x m := fun h => upd_back B I L hn h0 h
 have low : ∀ {x m : Int}, Rch N sc (-1) m → 0 ≤ o m → place m < place n0 → (Anc (upd o n0 r) x m ↔ Anc o x m) := fun a b c => upd_low I.toTree a b c
 have high : ∀ {x m : Int}, Anc o x m → Rch N sc (-1) m → 0 ≤ o m → place n0 ≤ place x → Anc (upd o n0 r) x m := fun h a b c => upd_high I.toTree h a b c
 have ndone : ∀ {m : Int}, m ≠ n0 → 0 ≤ upd o n0 r m → 0 ≤ o m := fun hm h => by rw [upd_ne o hm] at h; exact h
 have toR : ∀ {x : Int}, Anc o x r → Anc (upd o n0 r) x r := fun h => (low B.rch B.done hlt).2 h
 have selfUp : ∀ {x : Int}, Anc o x r → Anc (upd o n0 r) x n0 := fun h => .up h0 (by rw [upd_self]; exact toR h)
 have via : ∀ {m : Int}, Rch N sc (-1) m → m ≠ 0 → 0 ≤ o m → m ≠ n0 → Anc o n0 m → ∃ q, Rch N sc (-1) q ∧ m ∈ sc q ∧ place q < place m ∧ 0 ≤ o q ∧ Anc o n0 q := by
  intro m a b c d e
  obtain ⟨q, q1, q2, q3⟩ := L.pred m a b
  obtain ⟨m1, m2⟩ := I.M m q a b c q2 q1 q3
  exact ⟨q, q1, q2, q3, m1, m2 n0 (fun e => d e.symm) e (.inr (Int.le_refl _))⟩
 have U' : ∀ (j : Nat) (m : Int), (place m).toNat ≤ j → Rch N sc (-1) m → 0 ≤ upd o n0 r m → ∀ x, Dom N sc x m → Anc (upd o n0 r) x m := by
  intro j
  induction j with
  | zero =>
   intro m hj hm hp x hx
   have hz : m = 0 := L.inj _ _ hm (.zero (by have := hm.inV L.edge; omega) (by omega)) (by have := L.pos m hm; have := L.zero; omega)
   subst hz
   rw [hx.at_zero]
   exact .refl _
  | succ j ih =>
   intro m hj hm hp x hx
   by_cases hxm : x = m
   ·exact hxm ▸ .refl _
   by_cases e : m = n0
   ·subst e
    refine selfUp ((B.all x).2 fun p a b c => ?_)
    exact I.U p b c x (hx.pred L.edge hxm a b)
   have hpo := ndone e hp
   have hm0 : m ≠ 0 := fun e => hxm (by subst e; exact hx.at_zero)
   have hxo := I.U m hm hpo x hx
   by_cases hu : Anc o n0 m
   ·by_cases hl : place n0 ≤ place x
    ·exact high hxo hm hpo hl
    ·obtain ⟨q, q1, q2, q3, q4, q5⟩ := via hm hm0 hpo e hu
     have hq := ih q (by have := L.pos q q1; omega) q1 (upd_done hd q4) x (hx.pred L.edge hxm q2 q1)
     have hq2 := high q5 q1 q4 (Int.le_refl _)
     have h3 := T'.above hq hq2 q1 (upd_done hd q4) (by omega)
     exact h3.trans (high hu hm hpo (Int.le_refl _))
   ·exact upd_off hxo hu
 refine { toTree := T', P := ?_, U := fun m a b => U' _ m (Nat.le_refl _) a b, K := ?_, M := ?_ }
 ·intro m a b
  by_cases e : m = n0
  ·rw [e, upd_self]; exact hd
  ·rw [upd_ne o e]
   refine I.P m a (b.imp (fun h => ?_) id)
   have : place m ≠ place n0 := fun h => e (L.inj _ _ a hn h)
   omega
 ·intro m a b c x h
  by_cases e : m = n0
  ·subst e
   rw [upd_self]
   exact toR ((B.all x).2 fun p p1 p2 p3 => back (h p p1 p2 (upd_done hd p3)) p2 p3)
  ·have hpo := ndone e c
   rw [upd_ne o e]
   have hx : Anc o x (o m) := I.K m a b hpo x fun p p1 p2 p3 => back (h p p1 p2 (upd_done hd p3)) p2 p3
   obtain ⟨r1, r2, r3⟩ := I.up m a b hpo
   by_cases hu : Anc o n0 (o m)
   ·by_cases hl : place n0 ≤ place x
    ·exact high hx r1 r2 hl
    ·obtain ⟨q, q1, q2, q3, q4, q5⟩ := via a b hpo e (.up b hu)
     have hq := h q q2 q1 (upd_done hd q4)
     have hq2 := high q5 q1 q4 (Int.le_refl _)
     have h3 := T'.above hq hq2 q1 (upd_done hd q4) (by omega)
     exact h3.trans (high hu r1 r2 (Int.le_refl _))
   ·exact upd_off hx hu
 ·intro m q a b c d f g
  by_cases e : m = n0
  ·subst e
   have hq := I.P q f (.inl g)
   refine ⟨upd_done hd hq, fun x hx h _ => ?_⟩
   obtain ⟨_, h1⟩ := h.cases_ne hx
   rw [upd_self] at h1
   exact (low f hq g).2 ((B.all x).1 ((low B.rch B.done hlt).1 h1) q d f hq)
  ·have hpo := ndone e c
   obtain ⟨m1, m2⟩ := I.M m q a b hpo d f g
   refine ⟨upd_done hd m1, fun x hx h hh => ?_⟩
   have hne : place m ≠ place n0 := fun h => e (L.inj _ _ a hn h)
   have ho := back h a hpo
   rcases hh with hh | hh
   ·exact (low f m1 (by omega)).2 (m2 x hx ho (.inl (by omega)))
   ·exact high (m2 x hx ho (.inr (by omega))) f m1 (by omega)
theorem Inv.again {j : Int} (I : Inv N sc place o j fin) (L : Pl N sc place) (hj : ∀ m, Rch N sc (-1) m → place m < j) : Inv N sc place o 1 true := by
 refine { toTree := I.toTree, P := fun m a _ => I.P m a (.inl (hj m a)), U := I.U, K := I.K, M := fun m q a b c d f g => ?_ }
 obtain ⟨m1, m2⟩ := I.M m q a b c d f g
 exact ⟨m1, fun x hx h _ => m2 x hx h (.inl (hj m a))⟩
theorem Inv.start (L : Pl N sc place) (hN : 0 < N) : Inv N sc place (fun x => if x = 0 then 0 else -1) 1 false := by
 refine { toTree := ⟨rfl, fun n a b c => ?_, fun n a b => ?_, fun n a b c => ?_⟩, P := fun m a b => ?_, U := fun m a b x h => ?_, K := fun m a b c => ?_, M := fun m q a b c => ?_ }
 ·show (if n = 0 then (0 : Int) else -1) = -1
  rw [if_neg (fun e : n = 0 => c (by rw [e]; exact .zero hN (by omega)))]
 ·show -1 ≤ (if n = 0 then (0 : Int) else -1)
  split <;> omega
 ·simp only [if_neg b] at c; omega
 ·rcases b with b | b
  ·have : m = 0 := L.inj _ _ a (.zero hN (by omega)) (by have := L.pos m a; have := L.zero; omega)
   simp [this]
  ·cases b
 ·by_cases e : m = 0
  ·subst e
   rw [h.at_zero]; exact .refl _
  ·simp only [if_neg e] at b; omega
 ·simp only [if_neg b] at c; omega
 ·simp only [if_neg b] at c; omega
def Fix (N : Nat) (sc : Int → List Int) (o : Int → Int) : Prop := ∀ n, Rch N sc (-1) n → n ≠ 0 → Best N sc o n (o n)
theorem Inv.dom {j : Int} (I : Inv N sc place o j fin) (L : Pl N sc place) (hj : ∀ m, Rch N sc (-1) m → 0 ≤ o m) (F : Fix N sc o) {x m : Int} (hm : Rch N sc (-1) m) : Anc o x m ↔ Dom N sc x m := by
 refine ⟨fun h => ?_, fun h => I.U m hm (hj m hm) x h⟩
 have hx := (I.toTree.anc h hm (hj m hm)).1
 refine ⟨hm, hx.inV L.edge, ?_⟩
 by_cases e : x = m
 ·exact .inl e
 refine .inr fun hr => ?_
 have key : ∀ y, Rch N sc x y → ¬ Anc o x y := by
  intro y hy
  induction hy with
  | zero _ h0 => exact fun h => h0 h.at_zero.symm
  | step ha hs hne ih =>
   rename_i a b
   intro hb
   have ha' := ha.any L.edge
   have hb' := ha'.next L.edge hs
   obtain ⟨b0, h1⟩ := hb.cases_ne (fun e => hne e.symm)
   exact ih (((F b hb' b0).all x).1 h1 a hs ha' (hj a ha'))
 exact key m hr h
end
end Go.Proofs.Ytilopoegoddggaa.G
namespace Go.Proofs.Ytilopoegoddggaa.X
open Go.RowKit Go.Proofs.YtilopoegoddggaaW.PrintWords Go.Proofs.YtilopoegoddggaaW.PrintLast Go.Proofs.YtilopoegoddggaaW.PrintMore
attribute [local go_sem] max2_int min2_int max_two min_two max_three min_three max_four min_four
set_option linter.all false
noncomputable section
def davitref07_Has.l0 : Nat → List Int → Int → Int → Option (Bool)
 | 0, _, _, _ => none
 | k + 1, x0, x1, x5 => if x5 < (x0.length : Int) then (if 0 ≤ x5 then (if (rd x0 x5) = x1 then (some true) else (davitref07_Has.l0 k x0 x1 (wrap64 (x5 + 1)))) else (none)) else (some false)
def davitref07_Has.f (k : Nat) (l0 : List Int) (a1 : Int) : Option (Bool) := davitref07_Has.l0 k l0 a1 0
theorem davitref07_Has.mono_l : ∀ k, (∀ y0 y1 y2, LeO (davitref07_Has.l0 k y0 y1 y2) (davitref07_Has.l0 (k + 1) y0 y1 y2))
 | 0 => fun _ _ _ r h => by simp [davitref07_Has.l0] at h
 | k + 1 => by
  have ih0 := davitref07_Has.mono_l k
  ·intro y0 y1 y2
   unfold davitref07_Has.l0
   repeat' first
   | (with_reducible exact ih0 _ _ _)
   | (with_reducible exact LeO.refl _)
   | (with_reducible exact LeO.none _)
   | (with_reducible refine LeO.ite ?_ ?_)
   | (with_reducible refine LeO.bind ?_ (fun _ => ?_))
   | exact ih0 _ _ _
   | exact LeO.none _
   | refine LeO.ite ?_ ?_
   | refine LeO.bind ?_ (fun _ => ?_)
theorem davitref07_Has.mono : ∀ a0 a1 k, LeO (davitref07_Has.f k a0 a1) (davitref07_Has.f (k + 1) a0 a1) := by
 intro a0 a1 k
 have ih0 := davitref07_Has.mono_l k
 unfold davitref07_Has.f
 repeat' first
   | (with_reducible exact ih0 _ _ _)
   | (with_reducible exact LeO.refl _)
   | (with_reducible exact LeO.none _)
   | (with_reducible refine LeO.ite ?_ ?_)
   | (with_reducible refine LeO.bind ?_ (fun _ => ?_))
   | exact ih0 _ _ _
   | exact LeO.none _
   | refine LeO.ite ?_ ?_
   | refine LeO.bind ?_ (fun _ => ?_)
set_option maxHeartbeats 8000000 in
set_option maxRecDepth 100000 in
theorem davitref07_Has.calls (k : Nat) (A0 : Option Addr) (c0 : Nat) (l0 : List Int) (a1 : Int) (r : Bool) (w : World) (hr0 : Kd.C (Kd.int .i64) w A0 l0.length l0) (hc0 : l0.length ≤ c0) (h : davitref07_Has.f k l0 a1 = some r) :
  Calls Try.prog 21 #[.slice A0 l0.length c0, .int .i64 a1] w fun e w' => e = .returned (.bool r) ∧ Drawn0 w w' := by
 have HR0 := Aside0.mk hr0
 have HC0 := Aside0.mk hc0
 clear hr0 hc0
 have H : (davitref07_Has.l0 k l0 a1 0) = some r := h
 clear h
 have H' := Aside0.mk H
 clear H
 go_enter Try.func21, Try.ntmps21
 go_wp2
 go_loopg [5] k (fun kq v5 w' => ∃ (x5_1 : Int), v5 = .int .i64 x5_1 ∧ Aside0 (davitref07_Has.l0 kq l0 a1 x5_1 = some r) ∧ Aside0 (kq ≤ k) ∧ Drawn0 w w')
 case atStart => exact ⟨(0), (by first | rfl | (simp; done) | (simp [*]; done)), H', ⟨Nat.le_refl _⟩, by repeat (first | exact Drawn0.refl _ | apply Drawn0.step)⟩
 case round =>
  clear H'
  try clear c2
  try clear p2
  obtain ⟨x5_1, rfl, HA, HK1, ⟨m1, rfl⟩⟩ := hrel
  cases gk with
  | zero => exact absurd HA.out (by simp [davitref07_Has.l0])
  | succ k1 =>
   have H := HA.out
   clear HA
   simp only [davitref07_Has.l0] at H
   by_cases c3 : x5_1 < (l0.length : Int)
   ·rw [if_pos c3] at H
    have c3b0 : decide (x5_1 < (l0.length : Int)) = true := decide_eq_true c3
    clear c3
    by_cases c4 : 0 ≤ x5_1
    ·rw [if_pos c4] at H
     have c4b0 : decide (0 ≤ x5_1) = true := decide_eq_true c4
     clear c4
     by_cases c5 : (rd l0 x5_1) = a1
     ·rw [if_pos c5] at H
      have c5b0 : ((rd l0 x5_1) == a1) = true := beq_iff_eq.mpr c5
      have c5b1 : ((rd l0 x5_1) != a1) = false := bne_eq_false_iff_eq.mpr c5
      clear c5
      obtain rfl := Option.some.inj H
      have p226 : 0 ≤ (x5_1 : Int) := of_decide_eq_true (by first | (with_reducible assumption) | assumption)
      have q226 : x5_1 < (l0.length : Int) := of_decide_eq_true (by first | (with_reducible assumption) | assumption)
      obtain ⟨ad226, e226, hx226_0⟩ := Kd.at_int HR0.out x5_1 p226 q226
      cases e226
      replace p226 := eq_true p226
      replace q226 := eq_true q226
      go_wp2
      go_ret
      exact ⟨by first | rfl | (simp; done) | (simp [*]; done), by repeat (first | exact Drawn0.refl _ | apply Drawn0.step)⟩
     ·rw [if_neg c5] at H
      have c5b0 : ((rd l0 x5_1) == a1) = false := beq_eq_false_iff_ne.mpr c5
      have c5b1 : ((rd l0 x5_1) != a1) = true := bne_iff_ne.mpr c5
      have H' := Aside0.mk H
      clear H
      have p226 : 0 ≤ (x5_1 : Int) := of_decide_eq_true (by first | (with_reducible assumption) | assumption)
      have q226 : x5_1 < (l0.length : Int) := of_decide_eq_true (by first | (with_reducible assumption) | assumption)
      obtain ⟨ad226, e226, hx226_0⟩ := Kd.at_int HR0.out x5_1 p226 q226
      cases e226
      replace p226 := eq_true p226
      replace q226 := eq_true q226
      go_wp2
      go_roundg k1
      case measure => have := HK1.out; omega
      case rel => exact ⟨(wrap64 (x5_1 + 1)), (by first | rfl | (simp; done) | (simp [*]; done)), H', ⟨by have := HK1.out; omega⟩, by repeat (first | exact Drawn0.refl _ | apply Drawn0.step)⟩
    ·rw [if_neg c4] at H
     exact absurd H (by simp)
   ·rw [if_neg c3] at H
    have c3b0 : decide (x5_1 < (l0.length : Int)) = false := decide_eq_false c3
    clear c3
    obtain rfl := Option.some.inj H
    go_wp2
    go_ret
    exact ⟨by first | rfl | (simp; done) | (simp [*]; done), by repeat (first | exact Drawn0.refl _ | apply Drawn0.step)⟩
end
end Go.Proofs.Ytilopoegoddggaa.X
