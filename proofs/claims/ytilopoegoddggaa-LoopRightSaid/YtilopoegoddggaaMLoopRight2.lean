/- Part 3 of the proof of the statement LoopRight: the words of the walks, the walks through the functions that it reaches, and the plain laws of what they compute. -/
import Derived.Test.YtilopoegoddggaaMLoopRight1
namespace Go.Proofs.Ytilopoegoddggaa.X
open Go.RowKit Go.Proofs.YtilopoegoddggaaW.PrintWords Go.Proofs.YtilopoegoddggaaW.PrintLast Go.Proofs.YtilopoegoddggaaW.PrintMore
attribute [local go_sem] max2_int min2_int max_two min_two max_three min_three max_four min_four
set_option linter.all false
noncomputable section
def davitlaw09_awake.f (k : Nat)  : Option (Bool) := (some (([(⟨false, (⟨0, ([] : List Int), false, false⟩ : S47), ([] : List (S117)), (⟨2, 0, 0, 0, ([] : List Int), 1, 0, 0⟩ : S44)⟩ : S50), (⟨false, (⟨0, ([] : List Int), false, false⟩ : S47), ([] : List (S117)), (⟨3, 0, 0, 0, ([] : List Int), 1, 2, 0⟩ : S44)⟩ : S50), (⟨false, (⟨0, ([] : List Int), false, false⟩ : S47), ([] : List (S117)), (⟨1, 0, 0, 0, ([] : List Int), 0, 0, 0⟩ : S44)⟩ : S50)] : List (S50)) : List (S50))).bind fun y352 => ((loop_All.f k 0 1 y352).bind fun t356 => (if (t356.length : Int) = 1 then (if 0 < (t356.length : Int) then (if ((rd_T40 t356 0).f0) = 1 then ((davitref02_Ints.f k ((rd_T40 t356 0).f1) (([1] : List Int))).bind fun t364 => (if t364 = true then ((loop_Deep.f k 0 1 y352 1).bind fun t365 => (if t365 = 1 then ((loop_Deep.f k 0 1 y352 2).bind fun t366 => (some (t366 == 0))) else (some false))) else (some false))) else (some false)) else (none)) else (some false)))
theorem davitlaw09_awake.mono : ∀ k, LeO (davitlaw09_awake.f k ) (davitlaw09_awake.f (k + 1) ) := by
 intro  k
 unfold davitlaw09_awake.f
 repeat' first
   | (with_reducible exact davitref02_Ints.mono _ _ _)
   | (with_reducible exact loop_All.mono _ _ _ _)
   | (with_reducible exact loop_Deep.mono _ _ _ _ _)
   | (with_reducible exact LeO.refl _)
   | (with_reducible exact LeO.none _)
   | (with_reducible refine LeO.ite ?_ ?_)
   | (with_reducible refine LeO.bind ?_ (fun _ => ?_))
   | exact davitref02_Ints.mono _ _ _
   | exact loop_All.mono _ _ _ _
   | exact loop_Deep.mono _ _ _ _ _
   | exact LeO.none _
   | refine LeO.ite ?_ ?_
   | refine LeO.bind ?_ (fun _ => ?_)
set_option maxHeartbeats 8000000 in
set_option maxRecDepth 100000 in
theorem davitlaw09_awake.calls (k : Nat)  (r : Bool) (w : World) (h : davitlaw09_awake.f k  = some r) :
  Calls Try.prog 22 #[] w fun e w' => e = .returned (.bool r) ∧ Below w.heap.size w w' := by
 have hu44 := Try.underlying44
 have hu50 := Try.underlying50
 have hu24 := Try.underlying24
 have HB := Aside0.mk (Below.refl w.heap.size w)
 have H : ((some (([(⟨false, (⟨0, ([] : List Int), false, false⟩ : S47), ([] : List (S117)), (⟨2, 0, 0, 0, ([] : List Int), 1, 0, 0⟩ : S44)⟩ : S50), (⟨false, (⟨0, ([] : List Int), false, false⟩ : S47), ([] : List (S117)), (⟨3, 0, 0, 0, ([] : List Int), 1, 2, 0⟩ : S44)⟩ : S50), (⟨false, (⟨0, ([] : List Int), false, false⟩ : S47), ([] : List (S117)), (⟨1, 0, 0, 0, ([] : List Int), 0, 0, 0⟩ : S44)⟩ : S50)] : List (S50)) : List (S50))).bind fun y352 => ((loop_All.f k 0 1 y352).bind fun t356 => (if (t356.length : Int) = 1 then (if 0 < (t356.length : Int) then (if ((rd_T40 t356 0).f0) = 1 then ((davitref02_Ints.f k ((rd_T40 t356 0).f1) (([1] : List Int))).bind fun t364 => (if t364 = true then ((loop_Deep.f k 0 1 y352 1).bind fun t365 => (if t365 = 1 then ((loop_Deep.f k 0 1 y352 2).bind fun t366 => (some (t366 == 0))) else (some false))) else (some false))) else (some false)) else (none)) else (some false)))) = some r := h
 clear h
 obtain ⟨y352, hy352⟩ : ∃ y_ : List (S50), y_ = (([(⟨false, (⟨0, ([] : List Int), false, false⟩ : S47), ([] : List (S117)), (⟨2, 0, 0, 0, ([] : List Int), 1, 0, 0⟩ : S44)⟩ : S50), (⟨false, (⟨0, ([] : List Int), false, false⟩ : S47), ([] : List (S117)), (⟨3, 0, 0, 0, ([] : List Int), 1, 2, 0⟩ : S44)⟩ : S50), (⟨false, (⟨0, ([] : List Int), false, false⟩ : S47), ([] : List (S117)), (⟨1, 0, 0, 0, ([] : List Int), 0, 0, 0⟩ : S44)⟩ : S50)] : List (S50))) := ⟨_, rfl⟩
 replace H : ((loop_All.f k 0 1 y352).bind fun t356 => (if (t356.length : Int) = 1 then (if 0 < (t356.length : Int) then (if ((rd_T40 t356 0).f0) = 1 then ((davitref02_Ints.f k ((rd_T40 t356 0).f1) (([1] : List Int))).bind fun t364 => (if t364 = true then ((loop_Deep.f k 0 1 y352 1).bind fun t365 => (if t365 = 1 then ((loop_Deep.f k 0 1 y352 2).bind fun t366 => (some (t366 == 0))) else (some false))) else (some false))) else (some false)) else (none)) else (some false))) = some r := by first | (rw [hy352]; with_reducible exact H) | (have H2_ := (Option.bind_some _ _).symm.trans H; rw [hy352]; with_reducible exact H2_) | (have H2_ := (Option.bind_some _ _).symm.trans H; with_reducible exact H2_) | with_reducible exact H | (rw [hy352]; exact H) | exact H
 have Ny352 := Aside0.mk hy352
 clear hy352
 replace H := Option.bind_eq_some_iff.mp H
 obtain ⟨t356, A10, H⟩ := H
 replace H : (if (t356.length : Int) = 1 then (if 0 < (t356.length : Int) then (if ((rd_T40 t356 0).f0) = 1 then ((davitref02_Ints.f k ((rd_T40 t356 0).f1) (([1] : List Int))).bind fun t364 => (if t364 = true then ((loop_Deep.f k 0 1 y352 1).bind fun t365 => (if t365 = 1 then ((loop_Deep.f k 0 1 y352 2).bind fun t366 => (some (t366 == 0))) else (some false))) else (some false))) else (some false)) else (none)) else (some false)) = some r := H
 have A1 := Aside0.mk A10
 clear A10
 by_cases c2 : (t356.length : Int) = 1
 ·rw [if_pos c2] at H
  have c2b0 : ((t356.length : Int) == 1) = true := beq_iff_eq.mpr c2
  have c2b1 : ((t356.length : Int) != 1) = false := bne_eq_false_iff_eq.mpr c2
  clear c2
  by_cases c3 : 0 < (t356.length : Int)
  ·rw [if_pos c3] at H
   have c3b0 : decide (0 < (t356.length : Int)) = true := decide_eq_true c3
   have c3b1 : decide (0 < t356.length) = true := decide_eq_true (by omega)
   clear c3
   by_cases c4 : ((rd_T40 t356 0).f0) = 1
   ·rw [if_pos c4] at H
    have c4b0 : (((rd_T40 t356 0).f0) == 1) = true := beq_iff_eq.mpr c4
    have c4b1 : (((rd_T40 t356 0).f0) != 1) = false := bne_eq_false_iff_eq.mpr c4
    clear c4
    obtain ⟨y361, hy361⟩ : ∃ y_ : List Int, y_ = (([1] : List Int)) := ⟨_, rfl⟩
    replace H : ((davitref02_Ints.f k ((rd_T40 t356 0).f1) y361).bind fun t364 => (if t364 = true then ((loop_Deep.f k 0 1 y352 1).bind fun t365 => (if t365 = 1 then ((loop_Deep.f k 0 1 y352 2).bind fun t366 => (some (t366 == 0))) else (some false))) else (some false))) = some r := by first | (rw [hy361]; with_reducible exact H) | (have H2_ := (Option.bind_some _ _).symm.trans H; rw [hy361]; with_reducible exact H2_) | (have H2_ := (Option.bind_some _ _).symm.trans H; with_reducible exact H2_) | with_reducible exact H | (rw [hy361]; exact H) | exact H
    have Ny361 := Aside0.mk hy361
    clear hy361
    replace H := Option.bind_eq_some_iff.mp H
    obtain ⟨t364, A50, H⟩ := H
    replace H : (if t364 = true then ((loop_Deep.f k 0 1 y352 1).bind fun t365 => (if t365 = 1 then ((loop_Deep.f k 0 1 y352 2).bind fun t366 => (some (t366 == 0))) else (some false))) else (some false)) = some r := H
    have A5 := Aside0.mk A50
    clear A50
    by_cases c6 : t364 = true
    ·subst c6
     have H1 : ((loop_Deep.f k 0 1 y352 1).bind fun t365 => (if t365 = 1 then ((loop_Deep.f k 0 1 y352 2).bind fun t366 => (some (t366 == 0))) else (some false))) = some r := by rw [if_pos rfl] at H; exact H
     clear H
     have H := H1
     clear H1
     replace H := Option.bind_eq_some_iff.mp H
     obtain ⟨t365, A70, H⟩ := H
     replace H : (if t365 = 1 then ((loop_Deep.f k 0 1 y352 2).bind fun t366 => (some (t366 == 0))) else (some false)) = some r := H
     have A7 := Aside0.mk A70
     clear A70
     by_cases c8 : t365 = 1
     ·rw [if_pos c8] at H
      have c8b0 : (t365 == 1) = true := beq_iff_eq.mpr c8
      have c8b1 : (t365 != 1) = false := bne_eq_false_iff_eq.mpr c8
      clear c8
      replace H := Option.bind_eq_some_iff.mp H
      obtain ⟨t366, A90, H⟩ := H
      replace H : (some (t366 == 0)) = some r := H
      have A9 := Aside0.mk A90
      clear A90
      obtain rfl := Option.some.inj H
      go_enter Try.func22, Try.ntmps22
      go_wp2_with (first | ((with_reducible refine gate_dst (N := 9) rfl ?_); (try (refine gate_guard (by rfl) ?_; dsimp only)); refine Kd.R_lit k50 _ 50 ?hg (N := 9) ?hd (xs := ([(⟨false, (⟨0, ([] : List Int), false, false⟩ : S47), ([] : List (S117)), (⟨2, 0, 0, 0, ([] : List Int), 1, 0, 0⟩ : S44)⟩ : S50), (⟨false, (⟨0, ([] : List Int), false, false⟩ : S47), ([] : List (S117)), (⟨3, 0, 0, 0, ([] : List Int), 1, 2, 0⟩ : S44)⟩ : S50), (⟨false, (⟨0, ([] : List Int), false, false⟩ : S47), ([] : List (S117)), (⟨1, 0, 0, 0, ([] : List Int), 0, 0, 0⟩ : S44)⟩ : S50)] : List (S50))) (inner := [.bool false, .int .i64 0, .slice none 0 0, .bool false, .bool false, .slice none 0 0, .int .i64 2, .int .i64 0, .int .i64 0, .int .i64 0, .slice none 0 0, .int .i64 1, .int .i64 0, .int .i64 0, .bool false, .int .i64 0, .slice none 0 0, .bool false, .bool false, .slice none 0 0, .int .i64 3, .int .i64 0, .int .i64 0, .int .i64 0, .slice none 0 0, .int .i64 1, .int .i64 2, .int .i64 0, .bool false, .int .i64 0, .slice none 0 0, .bool false, .bool false, .slice none 0 0, .int .i64 1, .int .i64 0, .int .i64 0, .int .i64 0, .slice none 0 0, .int .i64 0, .int .i64 0, .int .i64 0]) (ok := fun _ => True) (okp := fun _ => True) ?hr ?hp (fun _ hk => hk) trivial (Below.refl _ _) (Nat.le_refl _) (by simp) ?_; (case hd => rfl); (case hg => rfl); (case hr => first | (go_simp; done) | (go_simp; rfl)); (case hp => exact (Reps.front (show Kd.M k50 _ _ _ (⟨false, (⟨0, ([] : List Int), false, false⟩ : S47), ([] : List (S117)), (⟨2, 0, 0, 0, ([] : List Int), 1, 0, 0⟩ : S44)⟩ : S50) [.bool false, .int .i64 0, .slice none 0 0, .bool false, .bool false, .slice none 0 0, .int .i64 2, .int .i64 0, .int .i64 0, .int .i64 0, .slice none 0 0, .int .i64 1, .int .i64 0, .int .i64 0] from (k50_mkM _ _ _ (⟨false, (⟨0, ([] : List Int), false, false⟩ : S47), ([] : List (S117)), (⟨2, 0, 0, 0, ([] : List Int), 1, 0, 0⟩ : S44)⟩ : S50) (Kd.R_nil _ _ _ _ _) (Kd.R_nil _ _ _ _ _) (Kd.R_nil _ _ _ _ _))) rfl (Reps.front (show Kd.M k50 _ _ _ (⟨false, (⟨0, ([] : List Int), false, false⟩ : S47), ([] : List (S117)), (⟨3, 0, 0, 0, ([] : List Int), 1, 2, 0⟩ : S44)⟩ : S50) [.bool false, .int .i64 0, .slice none 0 0, .bool false, .bool false, .slice none 0 0, .int .i64 3, .int .i64 0, .int .i64 0, .int .i64 0, .slice none 0 0, .int .i64 1, .int .i64 2, .int .i64 0] from (k50_mkM _ _ _ (⟨false, (⟨0, ([] : List Int), false, false⟩ : S47), ([] : List (S117)), (⟨3, 0, 0, 0, ([] : List Int), 1, 2, 0⟩ : S44)⟩ : S50) (Kd.R_nil _ _ _ _ _) (Kd.R_nil _ _ _ _ _) (Kd.R_nil _ _ _ _ _))) rfl (Reps.front (show Kd.M k50 _ _ _ (⟨false, (⟨0, ([] : List Int), false, false⟩ : S47), ([] : List (S117)), (⟨1, 0, 0, 0, ([] : List Int), 0, 0, 0⟩ : S44)⟩ : S50) [.bool false, .int .i64 0, .slice none 0 0, .bool false, .bool false, .slice none 0 0, .int .i64 1, .int .i64 0, .int .i64 0, .int .i64 0, .slice none 0 0, .int .i64 0, .int .i64 0, .int .i64 0] from (k50_mkM _ _ _ (⟨false, (⟨0, ([] : List Int), false, false⟩ : S47), ([] : List (S117)), (⟨1, 0, 0, 0, ([] : List Int), 0, 0, 0⟩ : S44)⟩ : S50) (Kd.R_nil _ _ _ _ _) (Kd.R_nil _ _ _ _ _) (Kd.R_nil _ _ _ _ _))) rfl (Reps.none _ _) rfl) rfl) rfl)); intro v353 w10 ho11 hb hg_ hnew_; clear hg_ hnew_; (first | rw [← Ny352.out] at ho11 | (simp only [Int.reduceToNat] at ho11; rw [← Ny352.out] at ho11)); have n0_ := Aside0.mk (Kd.R_lower ho11 (below_size (by repeat (first | (with_reducible first | exact HB.out | apply below_alloc | apply pw_below_drewN | apply below_drew1) | exact HB.out)))); have n1_ := Aside0.mk (below_step (by repeat (first | (with_reducible first | exact HB.out | apply below_alloc | apply pw_below_drewN | apply below_drew1) | exact HB.out)) hb); clear HB; have HO354 := n0_; have HB := n1_; clear n0_ n1_; clear hb ho11; obtain ⟨Ao12, co12, eo12⟩ := Kd.R_slice HO354.out; subst eo12) | ((with_reducible refine gate_dst (N := 1) rfl ?_); (try (refine gate_guard (by rfl) ?_; dsimp only)); refine box_event ?hg (N := 1) ?hd (cs := #[.int .i64 0, .int .i64 0, .slice none 0 0]) (t := 24) ?hr ?_; (case hd => rfl); (case hg => rfl); (case hr => first | (go_simp; done) | (go_simp; rfl)); intro gb355 hg w13 hbox hb; have n0_ := Aside0.mk (Kd.R_below (by (with_reducible repeat (first | apply Kd.R_alloc | apply Kd.R_drewN | apply Kd.R_drew)); exact HO354.out) hb); have n1_ := Aside0.mk (below_step (by repeat (first | (with_reducible first | exact HB.out | apply below_alloc | apply pw_below_drewN | apply below_drew1) | exact HB.out)) hb); have n2_ := Aside0.mk (hbox); have n3_ := Aside0.mk ((by rw [hg]; exact (below_size (by repeat (first | (with_reducible first | exact HB.out | apply below_alloc | apply pw_below_drewN | apply below_drew1) | exact HB.out))) : w.heap.size ≤ gb355)); have n4_ := Aside0.mk ((by rw [hg]; exact (below_size (by repeat (first | (with_reducible first | exact HB.out | apply below_alloc | apply pw_below_drewN | apply below_drew1) | exact HB.out))) : w.heap.size ≤ gb355)); clear HO354; clear HB; have HO354 := n0_; have HB := n1_; have BK355 := n2_; have GW355 := n3_; have GE355 := n4_; clear n0_ n1_ n2_ n3_ n4_; clear hb hbox hg; have hcz14_0 : w13.cell? ⟨gb355, 0, none⟩ = some (.int .i64 0) := (blk_cell BK355.out 0).trans rfl; have hcz14_1 : w13.cell? ⟨gb355, 1, none⟩ = some (.int .i64 0) := (blk_cell BK355.out 1).trans rfl; have hcz14_2 : w13.cell? ⟨gb355, 2, none⟩ = some (.slice none 0 0) := (blk_cell BK355.out 2).trans rfl; have hfz14_0 := blk_frozen BK355.out 0; have hfz14_1 := blk_frozen BK355.out 1; have hfz14_2 := blk_frozen BK355.out 2) | ((with_reducible refine gate_callee (f := 23) rfl ?_); refine goesL_ (some 12) rfl rfl Try.func23 (by kernel_rfl) rfl #[.agg #[.int .i64 0, .int .i64 1, .slice Ao12 y352.length co12]] rfl (by (try simp only [List.map_toArray, List.map_cons, List.map_nil]); first | done | rfl | (simp only [List.length_drop, List.length_take]; rfl)) ?_; (with_reducible refine (loop_All.calls k 0 1 _ _ y352 t356 _ ?side1 ?side2 A1.out).mono ?_); (case side1 => refine (Kd.R_reads' (e := 50) (base := w.heap.size) (ok := fun k_ => True) (n := y352.length) (c := co12) ?_).2.2; exact (by (with_reducible repeat (first | apply Kd.R_alloc | apply Kd.R_drewN | apply Kd.R_drew)); exact (Kd.R_mono (Kd.R_far (p := ⟨gb355, 2, none⟩) (Kd.R_far (p := ⟨gb355, 1, none⟩) (Kd.R_far (p := ⟨gb355, 0, none⟩) (Kd.R_types HO354.out BK355.out (by decide)) (fun _ hk => hk.2) (.int .i64 0)) (fun _ hk => hk.2) (.int .i64 1)) (fun _ hk => hk.2) (.slice Ao12 y352.length co12)) (fun _ h_ => h_.1)))); (case side2 => exact (Kd.R_reads' HO354.out).2.1); rintro e w15 ⟨v357, rfl, ho0, hb⟩; refine ⟨_, rfl, ?_⟩; have n0_ := Aside0.mk (Kd.R_below (by (with_reducible repeat (first | apply Kd.R_alloc | apply Kd.R_drewN | apply Kd.R_drew)); exact (Kd.R_mono (Kd.R_far (p := ⟨gb355, 2, none⟩) (Kd.R_far (p := ⟨gb355, 1, none⟩) (Kd.R_far (p := ⟨gb355, 0, none⟩) (Kd.R_types HO354.out BK355.out (by decide)) (fun _ hk => hk.2) (.int .i64 0)) (fun _ hk => hk.2) (.int .i64 1)) (fun _ hk => hk.2) (.slice Ao12 y352.length co12)) (fun _ h_ => h_.1))) hb); have n1_ := Aside0.mk (Kd.S_lower ho0 (below_size (by repeat (first | (with_reducible first | exact HB.out | apply below_alloc | apply pw_below_drewN | apply below_drew1 | refine below_set ?_ GE355.out) | exact HB.out)))); have n2_ := Aside0.mk (blk_below (g := gb355) (o := .cells #[.int .i64 0, .int .i64 1, .slice Ao12 y352.length co12] 24 (0, 0)) (by (with_reducible repeat (first | refine blk_drewN ?_ _ | refine blk_drew ?_ | refine blk_alloc ?_ _)); refine blk_put (cs := #[.int .i64 0, .int .i64 1, .slice none 0 0]) ?_ 2 _ rfl; (with_reducible repeat (first | refine blk_drewN ?_ _ | refine blk_drew ?_ | refine blk_alloc ?_ _)); refine blk_put (cs := #[.int .i64 0, .int .i64 0, .slice none 0 0]) ?_ 1 _ rfl; (with_reducible repeat (first | refine blk_drewN ?_ _ | refine blk_drew ?_ | refine blk_alloc ?_ _)); refine blk_put (cs := #[.int .i64 0, .int .i64 0, .slice none 0 0]) ?_ 0 _ rfl; (with_reducible repeat (first | refine blk_drewN ?_ _ | refine blk_drew ?_ | refine blk_alloc ?_ _)); exact BK355.out) hb); have n3_ := Aside0.mk (below_step (by repeat (first | (with_reducible first | exact HB.out | apply below_alloc | apply pw_below_drewN | apply below_drew1 | refine below_set ?_ GE355.out) | exact HB.out)) hb); clear HO354; clear BK355; clear HB; have HO354 := n0_; have HO358 := n1_; have BK355 := n2_; have HB := n3_; clear n0_ n1_ n2_ n3_; (try clear hb); (try clear hb2); (try clear hk); (try clear hi); (try clear ho0); obtain ⟨Ao16, co16, eo16⟩ := Kd.S_slice HO358.out; subst eo16; have p359 : 0 ≤ (0 : Int) := (by omega); have q359 : 0 < (t356.length : Int) := of_decide_eq_true (by first | (with_reducible assumption) | assumption); obtain ⟨ad359, A359_1, c359_1, e359, hx359_0, hx359_1, hl359_1, hi359_1⟩ := at_T40 (Kd.S_reads' HO358.out).2.2 0 p359 q359; cases e359; obtain ⟨ce359, hce359, hMe359, hcc359⟩ := Kd.S_get HO358.out z40 0 p359 (by first | exact q359 | exact of_decide_eq_true (by first | (with_reducible assumption) | assumption) | (have e_ := (Kd.S_reads' HO358.out).1; omega)); obtain ⟨ve359_1, rfl, ge359_1⟩ := k40_openM hMe359; have hv359_1 := hcc359 1 _ rfl; rw [add_field _ _ 1 (by omega)] at hv359_1; replace hv359_1 := Option.some.inj (hv359_1.symm.trans hx359_1); rw [hv359_1] at ge359_1; have HL359_1 := Aside0.mk (show Kd.R (Kd.int .i64) 3 _ _ _ _ ((rd_T40 t356 0).f1) from ge359_1); clear hv359_1 ge359_1; clear hcc359 hce359; have qi359 : (0 < t356.length) = True := eq_true (by omega); (try rw [show ((0 : Int)).toNat = 0 from rfl] at hx359_0); (try rw [show 0 * 2 = 0 from rfl] at hx359_0); (try rw [Addr.add_zero'] at hx359_0); (try rw [show ((0 : Int)).toNat = 0 from rfl] at hx359_1); (try rw [show 0 * 2 = 0 from rfl] at hx359_1); (try rw [Addr.add_zero'] at hx359_1); have HR359_1 := Aside0.mk hi359_1; have HC359_1 := Aside0.mk hl359_1; clear hi359_1 hl359_1; replace p359 := eq_true p359; replace q359 := eq_true q359; have p360 : 0 ≤ (0 : Int) := (by omega); have q360 : 0 < (t356.length : Int) := of_decide_eq_true (by first | (with_reducible assumption) | assumption); obtain ⟨ad360, A360_1, c360_1, e360, hx360_0, hx360_1, hl360_1, hi360_1⟩ := at_T40 (Kd.S_reads' HO358.out).2.2 0 p360 q360; obtain rfl : ad359 = ad360 := (by injection e360); obtain ⟨ce360, hce360, hMe360, hcc360⟩ := Kd.S_get HO358.out z40 0 p360 (by first | exact q360 | exact of_decide_eq_true (by first | (with_reducible assumption) | assumption) | (have e_ := (Kd.S_reads' HO358.out).1; omega)); obtain ⟨ve360_1, rfl, ge360_1⟩ := k40_openM hMe360; have hv360_1 := hcc360 1 _ rfl; rw [add_field _ _ 1 (by omega)] at hv360_1; replace hv360_1 := Option.some.inj (hv360_1.symm.trans hx360_1); rw [hv360_1] at ge360_1; have HL360_1 := Aside0.mk (show Kd.R (Kd.int .i64) 3 _ _ _ _ ((rd_T40 t356 0).f1) from ge360_1); clear hv360_1 ge360_1; clear hcc360 hce360; have qi360 : (0 < t356.length) = True := eq_true (by omega); (try rw [show ((0 : Int)).toNat = 0 from rfl] at hx360_0); (try rw [show 0 * 2 = 0 from rfl] at hx360_0); (try rw [Addr.add_zero'] at hx360_0); (try rw [show ((0 : Int)).toNat = 0 from rfl] at hx360_1); (try rw [show 0 * 2 = 0 from rfl] at hx360_1); (try rw [Addr.add_zero'] at hx360_1); have HR360_1 := Aside0.mk hi360_1; have HC360_1 := Aside0.mk hl360_1; clear hi360_1 hl360_1; replace p360 := eq_true p360; replace q360 := eq_true q360; have ea_ := Option.some.inj (hx359_1.symm.trans hx360_1); injection ea_ with ea_ en_ ec_; subst ea_; subst ec_; clear en_) | ((with_reducible refine gate_dst (N := 28) rfl ?_); (try (refine gate_guard (by rfl) ?_; dsimp only)); refine Kd.R_lit (Kd.int .i64) _ 3 ?hg (N := 28) ?hd (xs := ([1] : List Int)) (inner := [.int .i64 1]) (ok := fun _ => True) (okp := fun _ => True) ?hr ?hp (fun _ hk => hk) trivial (Below.refl _ _) (Nat.le_refl _) (by simp) ?_; (case hd => rfl); (case hg => rfl); (case hr => first | (go_simp; done) | (go_simp; rfl)); (case hp => exact (Reps.one (show Kd.M (Kd.int .i64) _ _ _ 1 [.int .i64 1] from rfl) (Reps.none _ _))); intro v362 w17 ho18 hb hg_ hnew_; clear hg_ hnew_; (first | rw [← Ny361.out] at ho18 | (simp only [Int.reduceToNat] at ho18; rw [← Ny361.out] at ho18)); have n0_ := Aside0.mk (Kd.R_elder' (by (with_reducible repeat (first | apply Kd.R_alloc | apply Kd.R_drewN | apply Kd.R_drew)); exact HO354.out) (Kd.R_base ho18) hb); have n1_ := Aside0.mk (Kd.S_elder' (by (with_reducible repeat (first | apply Kd.S_alloc | apply Kd.S_drewN | apply Kd.S_drew)); exact HO358.out) (Kd.R_base ho18) hb); have n2_ := Aside0.mk (Kd.R_elder' (by (with_reducible repeat (first | apply Kd.R_alloc | apply Kd.R_drewN | apply Kd.R_drew)); exact HL359_1.out) (Kd.R_base ho18) hb); have n3_ := Aside0.mk (Kd.R_elder' (by (with_reducible repeat (first | apply Kd.R_alloc | apply Kd.R_drewN | apply Kd.R_drew)); exact HL360_1.out) (Kd.R_base ho18) hb); have n4_ := Aside0.mk (Kd.R_lower (Kd.R_new' (Kd.R_new' ho18 (Kd.R_lt (by (with_reducible repeat (first | apply Kd.R_alloc | apply Kd.R_drewN | apply Kd.R_drew)); exact HL359_1.out))) (Kd.R_lt (by (with_reducible repeat (first | apply Kd.R_alloc | apply Kd.R_drewN | apply Kd.R_drew)); exact HL360_1.out))) (below_size (by repeat (first | (with_reducible first | exact HB.out | apply below_alloc | apply pw_below_drewN | apply below_drew1 | refine below_set ?_ GE355.out) | exact HB.out)))); have n5_ := Aside0.mk (blk_below (g := gb355) (o := .cells #[.int .i64 0, .int .i64 1, .slice Ao12 y352.length co12] 24 (0, 0)) (by (with_reducible repeat (first | refine blk_drewN ?_ _ | refine blk_drew ?_ | refine blk_alloc ?_ _)); exact BK355.out) hb); have n6_ := Aside0.mk (Kd.C_below (by repeat (first | (with_reducible exact HR359_1.out) | (with_reducible refine Kd.C_alloc ?_ _) | (with_reducible refine Kd.C_drewN ?_ _) | (with_reducible refine Kd.C_drew ?_) | exact HR359_1.out)) hb); have n7_ := Aside0.mk (Kd.C_below (by repeat (first | (with_reducible exact HR360_1.out) | (with_reducible refine Kd.C_alloc ?_ _) | (with_reducible refine Kd.C_drewN ?_ _) | (with_reducible refine Kd.C_drew ?_) | exact HR360_1.out)) hb); have n8_ := Aside0.mk (below_step (by repeat (first | (with_reducible first | exact HB.out | apply below_alloc | apply pw_below_drewN | apply below_drew1 | refine below_set ?_ GE355.out) | exact HB.out)) hb); clear HO354; clear HO358; clear HL359_1; clear HL360_1; clear BK355; clear HR359_1; clear HR360_1; clear HB; have HO354 := n0_; have HO358 := n1_; have HL359_1 := n2_; have HL360_1 := n3_; have HO363 := n4_; have BK355 := n5_; have HR359_1 := n6_; have HR360_1 := n7_; have HB := n8_; clear n0_ n1_ n2_ n3_ n4_ n5_ n6_ n7_ n8_; clear hb ho18; obtain ⟨Ao19, co19, eo19⟩ := Kd.R_slice HO363.out; subst eo19) | (go_at_call 12; (with_reducible refine (davitref02_Ints.calls k _ _ ((rd_T40 t356 0).f1) _ _ y361 true _ ?side1 ?side2 ?side3 ?side4 A5.out).mono ?_); (case side1 => repeat (first | exact (by repeat (first | (with_reducible exact HR360_1.out) | (with_reducible refine Kd.C_alloc ?_ _) | (with_reducible refine Kd.C_drewN ?_ _) | (with_reducible refine Kd.C_drew ?_) | exact HR360_1.out)) | (with_reducible refine Kd.C_alloc ?_ _) | (with_reducible refine Kd.C_drewN ?_ _) | (with_reducible refine Kd.C_drew ?_))); (case side2 => exact HC360_1.out); (case side3 => repeat (first | exact (Kd.R_reads' HO363.out).2.2 | (with_reducible refine Kd.C_alloc ?_ _) | (with_reducible refine Kd.C_drewN ?_ _) | (with_reducible refine Kd.C_drew ?_))); (case side4 => exact (Kd.R_reads' HO363.out).2.1); rintro e w' ⟨rfl, ⟨nd, rfl⟩⟩; have hcz20_0 : w17.cell? ⟨gb355, 0, none⟩ = some (.int .i64 0) := (blk_cell BK355.out 0).trans rfl; have hcz20_1 : w17.cell? ⟨gb355, 1, none⟩ = some (.int .i64 1) := (blk_cell BK355.out 1).trans rfl; have hcz20_2 : w17.cell? ⟨gb355, 2, none⟩ = some (.slice Ao12 y352.length co12) := (blk_cell BK355.out 2).trans rfl; have hfz20_0 := blk_frozen BK355.out 0; have hfz20_1 := blk_frozen BK355.out 1; have hfz20_2 := blk_frozen BK355.out 2) | (go_at_call 25; (with_reducible refine (loop_Deep.calls k 0 1 _ _ y352 1 t365 _ ?side1 ?side2 A7.out).mono ?_); (case side1 => repeat (first | exact (Kd.R_reads' HO354.out).2.2 | (with_reducible refine Kd.C_alloc ?_ _) | (with_reducible refine Kd.C_drewN ?_ _) | (with_reducible refine Kd.C_drew ?_))); (case side2 => exact (Kd.R_reads' HO354.out).2.1); rintro e w21 ⟨rfl, hb⟩; have n0_ := Aside0.mk (Kd.R_below (by (with_reducible repeat (first | apply Kd.R_alloc | apply Kd.R_drewN | apply Kd.R_drew)); exact HO354.out) hb); have n1_ := Aside0.mk (Kd.S_below (by (with_reducible repeat (first | apply Kd.S_alloc | apply Kd.S_drewN | apply Kd.S_drew)); exact HO358.out) hb); have n2_ := Aside0.mk (Kd.R_below (by (with_reducible repeat (first | apply Kd.R_alloc | apply Kd.R_drewN | apply Kd.R_drew)); exact HL359_1.out) hb); have n3_ := Aside0.mk (Kd.R_below (by (with_reducible repeat (first | apply Kd.R_alloc | apply Kd.R_drewN | apply Kd.R_drew)); exact HL360_1.out) hb); have n4_ := Aside0.mk (Kd.R_below (by (with_reducible repeat (first | apply Kd.R_alloc | apply Kd.R_drewN | apply Kd.R_drew)); exact HO363.out) hb); have n5_ := Aside0.mk (blk_below (g := gb355) (o := .cells #[.int .i64 0, .int .i64 1, .slice Ao12 y352.length co12] 24 (0, 0)) (by (with_reducible repeat (first | refine blk_drewN ?_ _ | refine blk_drew ?_ | refine blk_alloc ?_ _)); exact BK355.out) hb); have n6_ := Aside0.mk (Kd.C_below (by repeat (first | (with_reducible exact HR359_1.out) | (with_reducible refine Kd.C_alloc ?_ _) | (with_reducible refine Kd.C_drewN ?_ _) | (with_reducible refine Kd.C_drew ?_) | exact HR359_1.out)) hb); have n7_ := Aside0.mk (Kd.C_below (by repeat (first | (with_reducible exact HR360_1.out) | (with_reducible refine Kd.C_alloc ?_ _) | (with_reducible refine Kd.C_drewN ?_ _) | (with_reducible refine Kd.C_drew ?_) | exact HR360_1.out)) hb); have n8_ := Aside0.mk (below_step (by repeat (first | (with_reducible first | exact HB.out | apply below_alloc | apply pw_below_drewN | apply below_drew1 | refine below_set ?_ GE355.out) | exact HB.out)) hb); clear HO354; clear HO358; clear HL359_1; clear HL360_1; clear HO363; clear BK355; clear HR359_1; clear HR360_1; clear HB; have HO354 := n0_; have HO358 := n1_; have HL359_1 := n2_; have HL360_1 := n3_; have HO363 := n4_; have BK355 := n5_; have HR359_1 := n6_; have HR360_1 := n7_; have HB := n8_; clear n0_ n1_ n2_ n3_ n4_ n5_ n6_ n7_ n8_; (try clear hb); (try clear hb2); (try clear hk); (try clear hi); have hcz22_0 : w21.cell? ⟨gb355, 0, none⟩ = some (.int .i64 0) := (blk_cell BK355.out 0).trans rfl; have hcz22_1 : w21.cell? ⟨gb355, 1, none⟩ = some (.int .i64 1) := (blk_cell BK355.out 1).trans rfl; have hcz22_2 : w21.cell? ⟨gb355, 2, none⟩ = some (.slice Ao12 y352.length co12) := (blk_cell BK355.out 2).trans rfl; have hfz22_0 := blk_frozen BK355.out 0; have hfz22_1 := blk_frozen BK355.out 1; have hfz22_2 := blk_frozen BK355.out 2) | (go_at_call 25; (with_reducible refine (loop_Deep.calls k 0 1 _ _ y352 2 t366 _ ?side1 ?side2 A9.out).mono ?_); (case side1 => repeat (first | exact (Kd.R_reads' HO354.out).2.2 | (with_reducible refine Kd.C_alloc ?_ _) | (with_reducible refine Kd.C_drewN ?_ _) | (with_reducible refine Kd.C_drew ?_))); (case side2 => exact (Kd.R_reads' HO354.out).2.1); rintro e w23 ⟨rfl, hb⟩; have n0_ := Aside0.mk (Kd.R_below (by (with_reducible repeat (first | apply Kd.R_alloc | apply Kd.R_drewN | apply Kd.R_drew)); exact HO354.out) hb); have n1_ := Aside0.mk (Kd.S_below (by (with_reducible repeat (first | apply Kd.S_alloc | apply Kd.S_drewN | apply Kd.S_drew)); exact HO358.out) hb); have n2_ := Aside0.mk (Kd.R_below (by (with_reducible repeat (first | apply Kd.R_alloc | apply Kd.R_drewN | apply Kd.R_drew)); exact HL359_1.out) hb); have n3_ := Aside0.mk (Kd.R_below (by (with_reducible repeat (first | apply Kd.R_alloc | apply Kd.R_drewN | apply Kd.R_drew)); exact HL360_1.out) hb); have n4_ := Aside0.mk (Kd.R_below (by (with_reducible repeat (first | apply Kd.R_alloc | apply Kd.R_drewN | apply Kd.R_drew)); exact HO363.out) hb); have n5_ := Aside0.mk (blk_below (g := gb355) (o := .cells #[.int .i64 0, .int .i64 1, .slice Ao12 y352.length co12] 24 (0, 0)) (by (with_reducible repeat (first | refine blk_drewN ?_ _ | refine blk_drew ?_ | refine blk_alloc ?_ _)); exact BK355.out) hb); have n6_ := Aside0.mk (Kd.C_below (by repeat (first | (with_reducible exact HR359_1.out) | (with_reducible refine Kd.C_alloc ?_ _) | (with_reducible refine Kd.C_drewN ?_ _) | (with_reducible refine Kd.C_drew ?_) | exact HR359_1.out)) hb); have n7_ := Aside0.mk (Kd.C_below (by repeat (first | (with_reducible exact HR360_1.out) | (with_reducible refine Kd.C_alloc ?_ _) | (with_reducible refine Kd.C_drewN ?_ _) | (with_reducible refine Kd.C_drew ?_) | exact HR360_1.out)) hb); have n8_ := Aside0.mk (below_step (by repeat (first | (with_reducible first | exact HB.out | apply below_alloc | apply pw_below_drewN | apply below_drew1 | refine below_set ?_ GE355.out) | exact HB.out)) hb); clear HO354; clear HO358; clear HL359_1; clear HL360_1; clear HO363; clear BK355; clear HR359_1; clear HR360_1; clear HB; have HO354 := n0_; have HO358 := n1_; have HL359_1 := n2_; have HL360_1 := n3_; have HO363 := n4_; have BK355 := n5_; have HR359_1 := n6_; have HR360_1 := n7_; have HB := n8_; clear n0_ n1_ n2_ n3_ n4_ n5_ n6_ n7_ n8_; (try clear hb); (try clear hb2); (try clear hk); (try clear hi)))
      go_ret
      exact ⟨by first | rfl | (simp [errW_none, errW_some] <;> rfl) | (simp [*, errW_none, errW_some] <;> rfl), by repeat (first | (with_reducible first | exact HB.out | apply below_alloc | apply pw_below_drewN | apply below_drew1 | refine below_set ?_ GE355.out) | exact HB.out)⟩
     ·rw [if_neg c8] at H
      have c8b0 : (t365 == 1) = false := beq_eq_false_iff_ne.mpr c8
      have c8b1 : (t365 != 1) = true := bne_iff_ne.mpr c8
      obtain rfl := Option.some.inj H
      go_enter Try.func22, Try.ntmps22
      go_wp2_with (first | ((with_reducible refine gate_dst (N := 9) rfl ?_); (try (refine gate_guard (by rfl) ?_; dsimp only)); refine Kd.R_lit k50 _ 50 ?hg (N := 9) ?hd (xs := ([(⟨false, (⟨0, ([] : List Int), false, false⟩ : S47), ([] : List (S117)), (⟨2, 0, 0, 0, ([] : List Int), 1, 0, 0⟩ : S44)⟩ : S50), (⟨false, (⟨0, ([] : List Int), false, false⟩ : S47), ([] : List (S117)), (⟨3, 0, 0, 0, ([] : List Int), 1, 2, 0⟩ : S44)⟩ : S50), (⟨false, (⟨0, ([] : List Int), false, false⟩ : S47), ([] : List (S117)), (⟨1, 0, 0, 0, ([] : List Int), 0, 0, 0⟩ : S44)⟩ : S50)] : List (S50))) (inner := [.bool false, .int .i64 0, .slice none 0 0, .bool false, .bool false, .slice none 0 0, .int .i64 2, .int .i64 0, .int .i64 0, .int .i64 0, .slice none 0 0, .int .i64 1, .int .i64 0, .int .i64 0, .bool false, .int .i64 0, .slice none 0 0, .bool false, .bool false, .slice none 0 0, .int .i64 3, .int .i64 0, .int .i64 0, .int .i64 0, .slice none 0 0, .int .i64 1, .int .i64 2, .int .i64 0, .bool false, .int .i64 0, .slice none 0 0, .bool false, .bool false, .slice none 0 0, .int .i64 1, .int .i64 0, .int .i64 0, .int .i64 0, .slice none 0 0, .int .i64 0, .int .i64 0, .int .i64 0]) (ok := fun _ => True) (okp := fun _ => True) ?hr ?hp (fun _ hk => hk) trivial (Below.refl _ _) (Nat.le_refl _) (by simp) ?_; (case hd => rfl); (case hg => rfl); (case hr => first | (go_simp; done) | (go_simp; rfl)); (case hp => exact (Reps.front (show Kd.M k50 _ _ _ (⟨false, (⟨0, ([] : List Int), false, false⟩ : S47), ([] : List (S117)), (⟨2, 0, 0, 0, ([] : List Int), 1, 0, 0⟩ : S44)⟩ : S50) [.bool false, .int .i64 0, .slice none 0 0, .bool false, .bool false, .slice none 0 0, .int .i64 2, .int .i64 0, .int .i64 0, .int .i64 0, .slice none 0 0, .int .i64 1, .int .i64 0, .int .i64 0] from (k50_mkM _ _ _ (⟨false, (⟨0, ([] : List Int), false, false⟩ : S47), ([] : List (S117)), (⟨2, 0, 0, 0, ([] : List Int), 1, 0, 0⟩ : S44)⟩ : S50) (Kd.R_nil _ _ _ _ _) (Kd.R_nil _ _ _ _ _) (Kd.R_nil _ _ _ _ _))) rfl (Reps.front (show Kd.M k50 _ _ _ (⟨false, (⟨0, ([] : List Int), false, false⟩ : S47), ([] : List (S117)), (⟨3, 0, 0, 0, ([] : List Int), 1, 2, 0⟩ : S44)⟩ : S50) [.bool false, .int .i64 0, .slice none 0 0, .bool false, .bool false, .slice none 0 0, .int .i64 3, .int .i64 0, .int .i64 0, .int .i64 0, .slice none 0 0, .int .i64 1, .int .i64 2, .int .i64 0] from (k50_mkM _ _ _ (⟨false, (⟨0, ([] : List Int), false, false⟩ : S47), ([] : List (S117)), (⟨3, 0, 0, 0, ([] : List Int), 1, 2, 0⟩ : S44)⟩ : S50) (Kd.R_nil _ _ _ _ _) (Kd.R_nil _ _ _ _ _) (Kd.R_nil _ _ _ _ _))) rfl (Reps.front (show Kd.M k50 _ _ _ (⟨false, (⟨0, ([] : List Int), false, false⟩ : S47), ([] : List (S117)), (⟨1, 0, 0, 0, ([] : List Int), 0, 0, 0⟩ : S44)⟩ : S50) [.bool false, .int .i64 0, .slice none 0 0, .bool false, .bool false, .slice none 0 0, .int .i64 1, .int .i64 0, .int .i64 0, .int .i64 0, .slice none 0 0, .int .i64 0, .int .i64 0, .int .i64 0] from (k50_mkM _ _ _ (⟨false, (⟨0, ([] : List Int), false, false⟩ : S47), ([] : List (S117)), (⟨1, 0, 0, 0, ([] : List Int), 0, 0, 0⟩ : S44)⟩ : S50) (Kd.R_nil _ _ _ _ _) (Kd.R_nil _ _ _ _ _) (Kd.R_nil _ _ _ _ _))) rfl (Reps.none _ _) rfl) rfl) rfl)); intro v353 w24 ho25 hb hg_ hnew_; clear hg_ hnew_; (first | rw [← Ny352.out] at ho25 | (simp only [Int.reduceToNat] at ho25; rw [← Ny352.out] at ho25)); have n0_ := Aside0.mk (Kd.R_lower ho25 (below_size (by repeat (first | (with_reducible first | exact HB.out | apply below_alloc | apply pw_below_drewN | apply below_drew1) | exact HB.out)))); have n1_ := Aside0.mk (below_step (by repeat (first | (with_reducible first | exact HB.out | apply below_alloc | apply pw_below_drewN | apply below_drew1) | exact HB.out)) hb); clear HB; have HO354 := n0_; have HB := n1_; clear n0_ n1_; clear hb ho25; obtain ⟨Ao26, co26, eo26⟩ := Kd.R_slice HO354.out; subst eo26) | ((with_reducible refine gate_dst (N := 1) rfl ?_); (try (refine gate_guard (by rfl) ?_; dsimp only)); refine box_event ?hg (N := 1) ?hd (cs := #[.int .i64 0, .int .i64 0, .slice none 0 0]) (t := 24) ?hr ?_; (case hd => rfl); (case hg => rfl); (case hr => first | (go_simp; done) | (go_simp; rfl)); intro gb355 hg w27 hbox hb; have n0_ := Aside0.mk (Kd.R_below (by (with_reducible repeat (first | apply Kd.R_alloc | apply Kd.R_drewN | apply Kd.R_drew)); exact HO354.out) hb); have n1_ := Aside0.mk (below_step (by repeat (first | (with_reducible first | exact HB.out | apply below_alloc | apply pw_below_drewN | apply below_drew1) | exact HB.out)) hb); have n2_ := Aside0.mk (hbox); have n3_ := Aside0.mk ((by rw [hg]; exact (below_size (by repeat (first | (with_reducible first | exact HB.out | apply below_alloc | apply pw_below_drewN | apply below_drew1) | exact HB.out))) : w.heap.size ≤ gb355)); have n4_ := Aside0.mk ((by rw [hg]; exact (below_size (by repeat (first | (with_reducible first | exact HB.out | apply below_alloc | apply pw_below_drewN | apply below_drew1) | exact HB.out))) : w.heap.size ≤ gb355)); clear HO354; clear HB; have HO354 := n0_; have HB := n1_; have BK355 := n2_; have GW355 := n3_; have GE355 := n4_; clear n0_ n1_ n2_ n3_ n4_; clear hb hbox hg; have hcz28_0 : w27.cell? ⟨gb355, 0, none⟩ = some (.int .i64 0) := (blk_cell BK355.out 0).trans rfl; have hcz28_1 : w27.cell? ⟨gb355, 1, none⟩ = some (.int .i64 0) := (blk_cell BK355.out 1).trans rfl; have hcz28_2 : w27.cell? ⟨gb355, 2, none⟩ = some (.slice none 0 0) := (blk_cell BK355.out 2).trans rfl; have hfz28_0 := blk_frozen BK355.out 0; have hfz28_1 := blk_frozen BK355.out 1; have hfz28_2 := blk_frozen BK355.out 2) | ((with_reducible refine gate_callee (f := 23) rfl ?_); refine goesL_ (some 12) rfl rfl Try.func23 (by kernel_rfl) rfl #[.agg #[.int .i64 0, .int .i64 1, .slice Ao26 y352.length co26]] rfl (by (try simp only [List.map_toArray, List.map_cons, List.map_nil]); first | done | rfl | (simp only [List.length_drop, List.length_take]; rfl)) ?_; (with_reducible refine (loop_All.calls k 0 1 _ _ y352 t356 _ ?side1 ?side2 A1.out).mono ?_); (case side1 => refine (Kd.R_reads' (e := 50) (base := w.heap.size) (ok := fun k_ => True) (n := y352.length) (c := co26) ?_).2.2; exact (by (with_reducible repeat (first | apply Kd.R_alloc | apply Kd.R_drewN | apply Kd.R_drew)); exact (Kd.R_mono (Kd.R_far (p := ⟨gb355, 2, none⟩) (Kd.R_far (p := ⟨gb355, 1, none⟩) (Kd.R_far (p := ⟨gb355, 0, none⟩) (Kd.R_types HO354.out BK355.out (by decide)) (fun _ hk => hk.2) (.int .i64 0)) (fun _ hk => hk.2) (.int .i64 1)) (fun _ hk => hk.2) (.slice Ao26 y352.length co26)) (fun _ h_ => h_.1)))); (case side2 => exact (Kd.R_reads' HO354.out).2.1); rintro e w29 ⟨v357, rfl, ho0, hb⟩; refine ⟨_, rfl, ?_⟩; have n0_ := Aside0.mk (Kd.R_below (by (with_reducible repeat (first | apply Kd.R_alloc | apply Kd.R_drewN | apply Kd.R_drew)); exact (Kd.R_mono (Kd.R_far (p := ⟨gb355, 2, none⟩) (Kd.R_far (p := ⟨gb355, 1, none⟩) (Kd.R_far (p := ⟨gb355, 0, none⟩) (Kd.R_types HO354.out BK355.out (by decide)) (fun _ hk => hk.2) (.int .i64 0)) (fun _ hk => hk.2) (.int .i64 1)) (fun _ hk => hk.2) (.slice Ao26 y352.length co26)) (fun _ h_ => h_.1))) hb); have n1_ := Aside0.mk (Kd.S_lower ho0 (below_size (by repeat (first | (with_reducible first | exact HB.out | apply below_alloc | apply pw_below_drewN | apply below_drew1 | refine below_set ?_ GE355.out) | exact HB.out)))); have n2_ := Aside0.mk (blk_below (g := gb355) (o := .cells #[.int .i64 0, .int .i64 1, .slice Ao26 y352.length co26] 24 (0, 0)) (by (with_reducible repeat (first | refine blk_drewN ?_ _ | refine blk_drew ?_ | refine blk_alloc ?_ _)); refine blk_put (cs := #[.int .i64 0, .int .i64 1, .slice none 0 0]) ?_ 2 _ rfl; (with_reducible repeat (first | refine blk_drewN ?_ _ | refine blk_drew ?_ | refine blk_alloc ?_ _)); refine blk_put (cs := #[.int .i64 0, .int .i64 0, .slice none 0 0]) ?_ 1 _ rfl; (with_reducible repeat (first | refine blk_drewN ?_ _ | refine blk_drew ?_ | refine blk_alloc ?_ _)); refine blk_put (cs := #[.int .i64 0, .int .i64 0, .slice none 0 0]) ?_ 0 _ rfl; (with_reducible repeat (first | refine blk_drewN ?_ _ | refine blk_drew ?_ | refine blk_alloc ?_ _)); exact BK355.out) hb); have n3_ := Aside0.mk (below_step (by repeat (first | (with_reducible first | exact HB.out | apply below_alloc | apply pw_below_drewN | apply below_drew1 | refine below_set ?_ GE355.out) | exact HB.out)) hb); clear HO354; clear BK355; clear HB; have HO354 := n0_; have HO358 := n1_; have BK355 := n2_; have HB := n3_; clear n0_ n1_ n2_ n3_; (try clear hb); (try clear hb2); (try clear hk); (try clear hi); (try clear ho0); obtain ⟨Ao30, co30, eo30⟩ := Kd.S_slice HO358.out; subst eo30; have p359 : 0 ≤ (0 : Int) := (by omega); have q359 : 0 < (t356.length : Int) := of_decide_eq_true (by first | (with_reducible assumption) | assumption); obtain ⟨ad359, A359_1, c359_1, e359, hx359_0, hx359_1, hl359_1, hi359_1⟩ := at_T40 (Kd.S_reads' HO358.out).2.2 0 p359 q359; cases e359; obtain ⟨ce359, hce359, hMe359, hcc359⟩ := Kd.S_get HO358.out z40 0 p359 (by first | exact q359 | exact of_decide_eq_true (by first | (with_reducible assumption) | assumption) | (have e_ := (Kd.S_reads' HO358.out).1; omega)); obtain ⟨ve359_1, rfl, ge359_1⟩ := k40_openM hMe359; have hv359_1 := hcc359 1 _ rfl; rw [add_field _ _ 1 (by omega)] at hv359_1; replace hv359_1 := Option.some.inj (hv359_1.symm.trans hx359_1); rw [hv359_1] at ge359_1; have HL359_1 := Aside0.mk (show Kd.R (Kd.int .i64) 3 _ _ _ _ ((rd_T40 t356 0).f1) from ge359_1); clear hv359_1 ge359_1; clear hcc359 hce359; have qi359 : (0 < t356.length) = True := eq_true (by omega); (try rw [show ((0 : Int)).toNat = 0 from rfl] at hx359_0); (try rw [show 0 * 2 = 0 from rfl] at hx359_0); (try rw [Addr.add_zero'] at hx359_0); (try rw [show ((0 : Int)).toNat = 0 from rfl] at hx359_1); (try rw [show 0 * 2 = 0 from rfl] at hx359_1); (try rw [Addr.add_zero'] at hx359_1); have HR359_1 := Aside0.mk hi359_1; have HC359_1 := Aside0.mk hl359_1; clear hi359_1 hl359_1; replace p359 := eq_true p359; replace q359 := eq_true q359; have p360 : 0 ≤ (0 : Int) := (by omega); have q360 : 0 < (t356.length : Int) := of_decide_eq_true (by first | (with_reducible assumption) | assumption); obtain ⟨ad360, A360_1, c360_1, e360, hx360_0, hx360_1, hl360_1, hi360_1⟩ := at_T40 (Kd.S_reads' HO358.out).2.2 0 p360 q360; obtain rfl : ad359 = ad360 := (by injection e360); obtain ⟨ce360, hce360, hMe360, hcc360⟩ := Kd.S_get HO358.out z40 0 p360 (by first | exact q360 | exact of_decide_eq_true (by first | (with_reducible assumption) | assumption) | (have e_ := (Kd.S_reads' HO358.out).1; omega)); obtain ⟨ve360_1, rfl, ge360_1⟩ := k40_openM hMe360; have hv360_1 := hcc360 1 _ rfl; rw [add_field _ _ 1 (by omega)] at hv360_1; replace hv360_1 := Option.some.inj (hv360_1.symm.trans hx360_1); rw [hv360_1] at ge360_1; have HL360_1 := Aside0.mk (show Kd.R (Kd.int .i64) 3 _ _ _ _ ((rd_T40 t356 0).f1) from ge360_1); clear hv360_1 ge360_1; clear hcc360 hce360; have qi360 : (0 < t356.length) = True := eq_true (by omega); (try rw [show ((0 : Int)).toNat = 0 from rfl] at hx360_0); (try rw [show 0 * 2 = 0 from rfl] at hx360_0); (try rw [Addr.add_zero'] at hx360_0); (try rw [show ((0 : Int)).toNat = 0 from rfl] at hx360_1); (try rw [show 0 * 2 = 0 from rfl] at hx360_1); (try rw [Addr.add_zero'] at hx360_1); have HR360_1 := Aside0.mk hi360_1; have HC360_1 := Aside0.mk hl360_1; clear hi360_1 hl360_1; replace p360 := eq_true p360; replace q360 := eq_true q360; have ea_ := Option.some.inj (hx359_1.symm.trans hx360_1); injection ea_ with ea_ en_ ec_; subst ea_; subst ec_; clear en_) | ((with_reducible refine gate_dst (N := 28) rfl ?_); (try (refine gate_guard (by rfl) ?_; dsimp only)); refine Kd.R_lit (Kd.int .i64) _ 3 ?hg (N := 28) ?hd (xs := ([1] : List Int)) (inner := [.int .i64 1]) (ok := fun _ => True) (okp := fun _ => True) ?hr ?hp (fun _ hk => hk) trivial (Below.refl _ _) (Nat.le_refl _) (by simp) ?_; (case hd => rfl); (case hg => rfl); (case hr => first | (go_simp; done) | (go_simp; rfl)); (case hp => exact (Reps.one (show Kd.M (Kd.int .i64) _ _ _ 1 [.int .i64 1] from rfl) (Reps.none _ _))); intro v362 w31 ho32 hb hg_ hnew_; clear hg_ hnew_; (first | rw [← Ny361.out] at ho32 | (simp only [Int.reduceToNat] at ho32; rw [← Ny361.out] at ho32)); have n0_ := Aside0.mk (Kd.R_elder' (by (with_reducible repeat (first | apply Kd.R_alloc | apply Kd.R_drewN | apply Kd.R_drew)); exact HO354.out) (Kd.R_base ho32) hb); have n1_ := Aside0.mk (Kd.S_elder' (by (with_reducible repeat (first | apply Kd.S_alloc | apply Kd.S_drewN | apply Kd.S_drew)); exact HO358.out) (Kd.R_base ho32) hb); have n2_ := Aside0.mk (Kd.R_elder' (by (with_reducible repeat (first | apply Kd.R_alloc | apply Kd.R_drewN | apply Kd.R_drew)); exact HL359_1.out) (Kd.R_base ho32) hb); have n3_ := Aside0.mk (Kd.R_elder' (by (with_reducible repeat (first | apply Kd.R_alloc | apply Kd.R_drewN | apply Kd.R_drew)); exact HL360_1.out) (Kd.R_base ho32) hb); have n4_ := Aside0.mk (Kd.R_lower (Kd.R_new' (Kd.R_new' ho32 (Kd.R_lt (by (with_reducible repeat (first | apply Kd.R_alloc | apply Kd.R_drewN | apply Kd.R_drew)); exact HL359_1.out))) (Kd.R_lt (by (with_reducible repeat (first | apply Kd.R_alloc | apply Kd.R_drewN | apply Kd.R_drew)); exact HL360_1.out))) (below_size (by repeat (first | (with_reducible first | exact HB.out | apply below_alloc | apply pw_below_drewN | apply below_drew1 | refine below_set ?_ GE355.out) | exact HB.out)))); have n5_ := Aside0.mk (blk_below (g := gb355) (o := .cells #[.int .i64 0, .int .i64 1, .slice Ao26 y352.length co26] 24 (0, 0)) (by (with_reducible repeat (first | refine blk_drewN ?_ _ | refine blk_drew ?_ | refine blk_alloc ?_ _)); exact BK355.out) hb); have n6_ := Aside0.mk (Kd.C_below (by repeat (first | (with_reducible exact HR359_1.out) | (with_reducible refine Kd.C_alloc ?_ _) | (with_reducible refine Kd.C_drewN ?_ _) | (with_reducible refine Kd.C_drew ?_) | exact HR359_1.out)) hb); have n7_ := Aside0.mk (Kd.C_below (by repeat (first | (with_reducible exact HR360_1.out) | (with_reducible refine Kd.C_alloc ?_ _) | (with_reducible refine Kd.C_drewN ?_ _) | (with_reducible refine Kd.C_drew ?_) | exact HR360_1.out)) hb); have n8_ := Aside0.mk (below_step (by repeat (first | (with_reducible first | exact HB.out | apply below_alloc | apply pw_below_drewN | apply below_drew1 | refine below_set ?_ GE355.out) | exact HB.out)) hb); clear HO354; clear HO358; clear HL359_1; clear HL360_1; clear BK355; clear HR359_1; clear HR360_1; clear HB; have HO354 := n0_; have HO358 := n1_; have HL359_1 := n2_; have HL360_1 := n3_; have HO363 := n4_; have BK355 := n5_; have HR359_1 := n6_; have HR360_1 := n7_; have HB := n8_; clear n0_ n1_ n2_ n3_ n4_ n5_ n6_ n7_ n8_; clear hb ho32; obtain ⟨Ao33, co33, eo33⟩ := Kd.R_slice HO363.out; subst eo33) | (go_at_call 12; (with_reducible refine (davitref02_Ints.calls k _ _ ((rd_T40 t356 0).f1) _ _ y361 true _ ?side1 ?side2 ?side3 ?side4 A5.out).mono ?_); (case side1 => repeat (first | exact (by repeat (first | (with_reducible exact HR360_1.out) | (with_reducible refine Kd.C_alloc ?_ _) | (with_reducible refine Kd.C_drewN ?_ _) | (with_reducible refine Kd.C_drew ?_) | exact HR360_1.out)) | (with_reducible refine Kd.C_alloc ?_ _) | (with_reducible refine Kd.C_drewN ?_ _) | (with_reducible refine Kd.C_drew ?_))); (case side2 => exact HC360_1.out); (case side3 => repeat (first | exact (Kd.R_reads' HO363.out).2.2 | (with_reducible refine Kd.C_alloc ?_ _) | (with_reducible refine Kd.C_drewN ?_ _) | (with_reducible refine Kd.C_drew ?_))); (case side4 => exact (Kd.R_reads' HO363.out).2.1); rintro e w' ⟨rfl, ⟨nd, rfl⟩⟩; have hcz34_0 : w31.cell? ⟨gb355, 0, none⟩ = some (.int .i64 0) := (blk_cell BK355.out 0).trans rfl; have hcz34_1 : w31.cell? ⟨gb355, 1, none⟩ = some (.int .i64 1) := (blk_cell BK355.out 1).trans rfl; have hcz34_2 : w31.cell? ⟨gb355, 2, none⟩ = some (.slice Ao26 y352.length co26) := (blk_cell BK355.out 2).trans rfl; have hfz34_0 := blk_frozen BK355.out 0; have hfz34_1 := blk_frozen BK355.out 1; have hfz34_2 := blk_frozen BK355.out 2) | (go_at_call 25; (with_reducible refine (loop_Deep.calls k 0 1 _ _ y352 1 t365 _ ?side1 ?side2 A7.out).mono ?_); (case side1 => repeat (first | exact (Kd.R_reads' HO354.out).2.2 | (with_reducible refine Kd.C_alloc ?_ _) | (with_reducible refine Kd.C_drewN ?_ _) | (with_reducible refine Kd.C_drew ?_))); (case side2 => exact (Kd.R_reads' HO354.out).2.1); rintro e w35 ⟨rfl, hb⟩; have n0_ := Aside0.mk (Kd.R_below (by (with_reducible repeat (first | apply Kd.R_alloc | apply Kd.R_drewN | apply Kd.R_drew)); exact HO354.out) hb); have n1_ := Aside0.mk (Kd.S_below (by (with_reducible repeat (first | apply Kd.S_alloc | apply Kd.S_drewN | apply Kd.S_drew)); exact HO358.out) hb); have n2_ := Aside0.mk (Kd.R_below (by (with_reducible repeat (first | apply Kd.R_alloc | apply Kd.R_drewN | apply Kd.R_drew)); exact HL359_1.out) hb); have n3_ := Aside0.mk (Kd.R_below (by (with_reducible repeat (first | apply Kd.R_alloc | apply Kd.R_drewN | apply Kd.R_drew)); exact HL360_1.out) hb); have n4_ := Aside0.mk (Kd.R_below (by (with_reducible repeat (first | apply Kd.R_alloc | apply Kd.R_drewN | apply Kd.R_drew)); exact HO363.out) hb); have n5_ := Aside0.mk (blk_below (g := gb355) (o := .cells #[.int .i64 0, .int .i64 1, .slice Ao26 y352.length co26] 24 (0, 0)) (by (with_reducible repeat (first | refine blk_drewN ?_ _ | refine blk_drew ?_ | refine blk_alloc ?_ _)); exact BK355.out) hb); have n6_ := Aside0.mk (Kd.C_below (by repeat (first | (with_reducible exact HR359_1.out) | (with_reducible refine Kd.C_alloc ?_ _) | (with_reducible refine Kd.C_drewN ?_ _) | (with_reducible refine Kd.C_drew ?_) | exact HR359_1.out)) hb); have n7_ := Aside0.mk (Kd.C_below (by repeat (first | (with_reducible exact HR360_1.out) | (with_reducible refine Kd.C_alloc ?_ _) | (with_reducible refine Kd.C_drewN ?_ _) | (with_reducible refine Kd.C_drew ?_) | exact HR360_1.out)) hb); have n8_ := Aside0.mk (below_step (by repeat (first | (with_reducible first | exact HB.out | apply below_alloc | apply pw_below_drewN | apply below_drew1 | refine below_set ?_ GE355.out) | exact HB.out)) hb); clear HO354; clear HO358; clear HL359_1; clear HL360_1; clear HO363; clear BK355; clear HR359_1; clear HR360_1; clear HB; have HO354 := n0_; have HO358 := n1_; have HL359_1 := n2_; have HL360_1 := n3_; have HO363 := n4_; have BK355 := n5_; have HR359_1 := n6_; have HR360_1 := n7_; have HB := n8_; clear n0_ n1_ n2_ n3_ n4_ n5_ n6_ n7_ n8_; (try clear hb); (try clear hb2); (try clear hk); (try clear hi)))
      go_ret
      exact ⟨by first | rfl | (simp [errW_none, errW_some] <;> rfl) | (simp [*, errW_none, errW_some] <;> rfl), by repeat (first | (with_reducible first | exact HB.out | apply below_alloc | apply pw_below_drewN | apply below_drew1 | refine below_set ?_ GE355.out) | exact HB.out)⟩
    ·replace c6 := Bool.eq_false_iff.mpr c6
     subst c6
     have H1 : (some false) = some r := by rw [if_neg (show ¬ (false = true) by decide)] at H; exact H
     clear H
     have H := H1
     clear H1
     obtain rfl := Option.some.inj H
     go_enter Try.func22, Try.ntmps22
     go_wp2_with (first | ((with_reducible refine gate_dst (N := 9) rfl ?_); (try (refine gate_guard (by rfl) ?_; dsimp only)); refine Kd.R_lit k50 _ 50 ?hg (N := 9) ?hd (xs := ([(⟨false, (⟨0, ([] : List Int), false, false⟩ : S47), ([] : List (S117)), (⟨2, 0, 0, 0, ([] : List Int), 1, 0, 0⟩ : S44)⟩ : S50), (⟨false, (⟨0, ([] : List Int), false, false⟩ : S47), ([] : List (S117)), (⟨3, 0, 0, 0, ([] : List Int), 1, 2, 0⟩ : S44)⟩ : S50), (⟨false, (⟨0, ([] : List Int), false, false⟩ : S47), ([] : List (S117)), (⟨1, 0, 0, 0, ([] : List Int), 0, 0, 0⟩ : S44)⟩ : S50)] : List (S50))) (inner := [.bool false, .int .i64 0, .slice none 0 0, .bool false, .bool false, .slice none 0 0, .int .i64 2, .int .i64 0, .int .i64 0, .int .i64 0, .slice none 0 0, .int .i64 1, .int .i64 0, .int .i64 0, .bool false, .int .i64 0, .slice none 0 0, .bool false, .bool false, .slice none 0 0, .int .i64 3, .int .i64 0, .int .i64 0, .int .i64 0, .slice none 0 0, .int .i64 1, .int .i64 2, .int .i64 0, .bool false, .int .i64 0, .slice none 0 0, .bool false, .bool false, .slice none 0 0, .int .i64 1, .int .i64 0, .int .i64 0, .int .i64 0, .slice none 0 0, .int .i64 0, .int .i64 0, .int .i64 0]) (ok := fun _ => True) (okp := fun _ => True) ?hr ?hp (fun _ hk => hk) trivial (Below.refl _ _) (Nat.le_refl _) (by simp) ?_; (case hd => rfl); (case hg => rfl); (case hr => first | (go_simp; done) | (go_simp; rfl)); (case hp => exact (Reps.front (show Kd.M k50 _ _ _ (⟨false, (⟨0, ([] : List Int), false, false⟩ : S47), ([] : List (S117)), (⟨2, 0, 0, 0, ([] : List Int), 1, 0, 0⟩ : S44)⟩ : S50) [.bool false, .int .i64 0, .slice none 0 0, .bool false, .bool false, .slice none 0 0, .int .i64 2, .int .i64 0, .int .i64 0, .int .i64 0, .slice none 0 0, .int .i64 1, .int .i64 0, .int .i64 0] from (k50_mkM _ _ _ (⟨false, (⟨0, ([] : List Int), false, false⟩ : S47), ([] : List (S117)), (⟨2, 0, 0, 0, ([] : List Int), 1, 0, 0⟩ : S44)⟩ : S50) (Kd.R_nil _ _ _ _ _) (Kd.R_nil _ _ _ _ _) (Kd.R_nil _ _ _ _ _))) rfl (Reps.front (show Kd.M k50 _ _ _ (⟨false, (⟨0, ([] : List Int), false, false⟩ : S47), ([] : List (S117)), (⟨3, 0, 0, 0, ([] : List Int), 1, 2, 0⟩ : S44)⟩ : S50) [.bool false, .int .i64 0, .slice none 0 0, .bool false, .bool false, .slice none 0 0, .int .i64 3, .int .i64 0, .int .i64 0, .int .i64 0, .slice none 0 0, .int .i64 1, .int .i64 2, .int .i64 0] from (k50_mkM _ _ _ (⟨false, (⟨0, ([] : List Int), false, false⟩ : S47), ([] : List (S117)), (⟨3, 0, 0, 0, ([] : List Int), 1, 2, 0⟩ : S44)⟩ : S50) (Kd.R_nil _ _ _ _ _) (Kd.R_nil _ _ _ _ _) (Kd.R_nil _ _ _ _ _))) rfl (Reps.front (show Kd.M k50 _ _ _ (⟨false, (⟨0, ([] : List Int), false, false⟩ : S47), ([] : List (S117)), (⟨1, 0, 0, 0, ([] : List Int), 0, 0, 0⟩ : S44)⟩ : S50) [.bool false, .int .i64 0, .slice none 0 0, .bool false, .bool false, .slice none 0 0, .int .i64 1, .int .i64 0, .int .i64 0, .int .i64 0, .slice none 0 0, .int .i64 0, .int .i64 0, .int .i64 0] from (k50_mkM _ _ _ (⟨false, (⟨0, ([] : List Int), false, false⟩ : S47), ([] : List (S117)), (⟨1, 0, 0, 0, ([] : List Int), 0, 0, 0⟩ : S44)⟩ : S50) (Kd.R_nil _ _ _ _ _) (Kd.R_nil _ _ _ _ _) (Kd.R_nil _ _ _ _ _))) rfl (Reps.none _ _) rfl) rfl) rfl)); intro v353 w36 ho37 hb hg_ hnew_; clear hg_ hnew_; (first | rw [← Ny352.out] at ho37 | (simp only [Int.reduceToNat] at ho37; rw [← Ny352.out] at ho37)); have n0_ := Aside0.mk (Kd.R_lower ho37 (below_size (by repeat (first | (with_reducible first | exact HB.out | apply below_alloc | apply pw_below_drewN | apply below_drew1) | exact HB.out)))); have n1_ := Aside0.mk (below_step (by repeat (first | (with_reducible first | exact HB.out | apply below_alloc | apply pw_below_drewN | apply below_drew1) | exact HB.out)) hb); clear HB; have HO354 := n0_; have HB := n1_; clear n0_ n1_; clear hb ho37; obtain ⟨Ao38, co38, eo38⟩ := Kd.R_slice HO354.out; subst eo38) | ((with_reducible refine gate_dst (N := 1) rfl ?_); (try (refine gate_guard (by rfl) ?_; dsimp only)); refine box_event ?hg (N := 1) ?hd (cs := #[.int .i64 0, .int .i64 0, .slice none 0 0]) (t := 24) ?hr ?_; (case hd => rfl); (case hg => rfl); (case hr => first | (go_simp; done) | (go_simp; rfl)); intro gb355 hg w39 hbox hb; have n0_ := Aside0.mk (Kd.R_below (by (with_reducible repeat (first | apply Kd.R_alloc | apply Kd.R_drewN | apply Kd.R_drew)); exact HO354.out) hb); have n1_ := Aside0.mk (below_step (by repeat (first | (with_reducible first | exact HB.out | apply below_alloc | apply pw_below_drewN | apply below_drew1) | exact HB.out)) hb); have n2_ := Aside0.mk (hbox); have n3_ := Aside0.mk ((by rw [hg]; exact (below_size (by repeat (first | (with_reducible first | exact HB.out | apply below_alloc | apply pw_below_drewN | apply below_drew1) | exact HB.out))) : w.heap.size ≤ gb355)); have n4_ := Aside0.mk ((by rw [hg]; exact (below_size (by repeat (first | (with_reducible first | exact HB.out | apply below_alloc | apply pw_below_drewN | apply below_drew1) | exact HB.out))) : w.heap.size ≤ gb355)); clear HO354; clear HB; have HO354 := n0_; have HB := n1_; have BK355 := n2_; have GW355 := n3_; have GE355 := n4_; clear n0_ n1_ n2_ n3_ n4_; clear hb hbox hg; have hcz40_0 : w39.cell? ⟨gb355, 0, none⟩ = some (.int .i64 0) := (blk_cell BK355.out 0).trans rfl; have hcz40_1 : w39.cell? ⟨gb355, 1, none⟩ = some (.int .i64 0) := (blk_cell BK355.out 1).trans rfl; have hcz40_2 : w39.cell? ⟨gb355, 2, none⟩ = some (.slice none 0 0) := (blk_cell BK355.out 2).trans rfl; have hfz40_0 := blk_frozen BK355.out 0; have hfz40_1 := blk_frozen BK355.out 1; have hfz40_2 := blk_frozen BK355.out 2) | ((with_reducible refine gate_callee (f := 23) rfl ?_); refine goesL_ (some 12) rfl rfl Try.func23 (by kernel_rfl) rfl #[.agg #[.int .i64 0, .int .i64 1, .slice Ao38 y352.length co38]] rfl (by (try simp only [List.map_toArray, List.map_cons, List.map_nil]); first | done | rfl | (simp only [List.length_drop, List.length_take]; rfl)) ?_; (with_reducible refine (loop_All.calls k 0 1 _ _ y352 t356 _ ?side1 ?side2 A1.out).mono ?_); (case side1 => refine (Kd.R_reads' (e := 50) (base := w.heap.size) (ok := fun k_ => True) (n := y352.length) (c := co38) ?_).2.2; exact (by (with_reducible repeat (first | apply Kd.R_alloc | apply Kd.R_drewN | apply Kd.R_drew)); exact (Kd.R_mono (Kd.R_far (p := ⟨gb355, 2, none⟩) (Kd.R_far (p := ⟨gb355, 1, none⟩) (Kd.R_far (p := ⟨gb355, 0, none⟩) (Kd.R_types HO354.out BK355.out (by decide)) (fun _ hk => hk.2) (.int .i64 0)) (fun _ hk => hk.2) (.int .i64 1)) (fun _ hk => hk.2) (.slice Ao38 y352.length co38)) (fun _ h_ => h_.1)))); (case side2 => exact (Kd.R_reads' HO354.out).2.1); rintro e w41 ⟨v357, rfl, ho0, hb⟩; refine ⟨_, rfl, ?_⟩; have n0_ := Aside0.mk (Kd.R_below (by (with_reducible repeat (first | apply Kd.R_alloc | apply Kd.R_drewN | apply Kd.R_drew)); exact (Kd.R_mono (Kd.R_far (p := ⟨gb355, 2, none⟩) (Kd.R_far (p := ⟨gb355, 1, none⟩) (Kd.R_far (p := ⟨gb355, 0, none⟩) (Kd.R_types HO354.out BK355.out (by decide)) (fun _ hk => hk.2) (.int .i64 0)) (fun _ hk => hk.2) (.int .i64 1)) (fun _ hk => hk.2) (.slice Ao38 y352.length co38)) (fun _ h_ => h_.1))) hb); have n1_ := Aside0.mk (Kd.S_lower ho0 (below_size (by repeat (first | (with_reducible first | exact HB.out | apply below_alloc | apply pw_below_drewN | apply below_drew1 | refine below_set ?_ GE355.out) | exact HB.out)))); have n2_ := Aside0.mk (blk_below (g := gb355) (o := .cells #[.int .i64 0, .int .i64 1, .slice Ao38 y352.length co38] 24 (0, 0)) (by (with_reducible repeat (first | refine blk_drewN ?_ _ | refine blk_drew ?_ | refine blk_alloc ?_ _)); refine blk_put (cs := #[.int .i64 0, .int .i64 1, .slice none 0 0]) ?_ 2 _ rfl; (with_reducible repeat (first | refine blk_drewN ?_ _ | refine blk_drew ?_ | refine blk_alloc ?_ _)); refine blk_put (cs := #[.int .i64 0, .int .i64 0, .slice none 0 0]) ?_ 1 _ rfl; (with_reducible repeat (first | refine blk_drewN ?_ _ | refine blk_drew ?_ | refine blk_alloc ?_ _)); refine blk_put (cs := #[.int .i64 0, .int .i64 0, .slice none 0 0]) ?_ 0 _ rfl; (with_reducible repeat (first | refine blk_drewN ?_ _ | refine blk_drew ?_ | refine blk_alloc ?_ _)); exact BK355.out) hb); have n3_ := Aside0.mk (below_step (by repeat (first | (with_reducible first | exact HB.out | apply below_alloc | apply pw_below_drewN | apply below_drew1 | refine below_set ?_ GE355.out) | exact HB.out)) hb); clear HO354; clear BK355; clear HB; have HO354 := n0_; have HO358 := n1_; have BK355 := n2_; have HB := n3_; clear n0_ n1_ n2_ n3_; (try clear hb); (try clear hb2); (try clear hk); (try clear hi); (try clear ho0); obtain ⟨Ao42, co42, eo42⟩ := Kd.S_slice HO358.out; subst eo42; have p359 : 0 ≤ (0 : Int) := (by omega); have q359 : 0 < (t356.length : Int) := of_decide_eq_true (by first | (with_reducible assumption) | assumption); obtain ⟨ad359, A359_1, c359_1, e359, hx359_0, hx359_1, hl359_1, hi359_1⟩ := at_T40 (Kd.S_reads' HO358.out).2.2 0 p359 q359; cases e359; obtain ⟨ce359, hce359, hMe359, hcc359⟩ := Kd.S_get HO358.out z40 0 p359 (by first | exact q359 | exact of_decide_eq_true (by first | (with_reducible assumption) | assumption) | (have e_ := (Kd.S_reads' HO358.out).1; omega)); obtain ⟨ve359_1, rfl, ge359_1⟩ := k40_openM hMe359; have hv359_1 := hcc359 1 _ rfl; rw [add_field _ _ 1 (by omega)] at hv359_1; replace hv359_1 := Option.some.inj (hv359_1.symm.trans hx359_1); rw [hv359_1] at ge359_1; have HL359_1 := Aside0.mk (show Kd.R (Kd.int .i64) 3 _ _ _ _ ((rd_T40 t356 0).f1) from ge359_1); clear hv359_1 ge359_1; clear hcc359 hce359; have qi359 : (0 < t356.length) = True := eq_true (by omega); (try rw [show ((0 : Int)).toNat = 0 from rfl] at hx359_0); (try rw [show 0 * 2 = 0 from rfl] at hx359_0); (try rw [Addr.add_zero'] at hx359_0); (try rw [show ((0 : Int)).toNat = 0 from rfl] at hx359_1); (try rw [show 0 * 2 = 0 from rfl] at hx359_1); (try rw [Addr.add_zero'] at hx359_1); have HR359_1 := Aside0.mk hi359_1; have HC359_1 := Aside0.mk hl359_1; clear hi359_1 hl359_1; replace p359 := eq_true p359; replace q359 := eq_true q359; have p360 : 0 ≤ (0 : Int) := (by omega); have q360 : 0 < (t356.length : Int) := of_decide_eq_true (by first | (with_reducible assumption) | assumption); obtain ⟨ad360, A360_1, c360_1, e360, hx360_0, hx360_1, hl360_1, hi360_1⟩ := at_T40 (Kd.S_reads' HO358.out).2.2 0 p360 q360; obtain rfl : ad359 = ad360 := (by injection e360); obtain ⟨ce360, hce360, hMe360, hcc360⟩ := Kd.S_get HO358.out z40 0 p360 (by first | exact q360 | exact of_decide_eq_true (by first | (with_reducible assumption) | assumption) | (have e_ := (Kd.S_reads' HO358.out).1; omega)); obtain ⟨ve360_1, rfl, ge360_1⟩ := k40_openM hMe360; have hv360_1 := hcc360 1 _ rfl; rw [add_field _ _ 1 (by omega)] at hv360_1; replace hv360_1 := Option.some.inj (hv360_1.symm.trans hx360_1); rw [hv360_1] at ge360_1; have HL360_1 := Aside0.mk (show Kd.R (Kd.int .i64) 3 _ _ _ _ ((rd_T40 t356 0).f1) from ge360_1); clear hv360_1 ge360_1; clear hcc360 hce360; have qi360 : (0 < t356.length) = True := eq_true (by omega); (try rw [show ((0 : Int)).toNat = 0 from rfl] at hx360_0); (try rw [show 0 * 2 = 0 from rfl] at hx360_0); (try rw [Addr.add_zero'] at hx360_0); (try rw [show ((0 : Int)).toNat = 0 from rfl] at hx360_1); (try rw [show 0 * 2 = 0 from rfl] at hx360_1); (try rw [Addr.add_zero'] at hx360_1); have HR360_1 := Aside0.mk hi360_1; have HC360_1 := Aside0.mk hl360_1; clear hi360_1 hl360_1; replace p360 := eq_true p360; replace q360 := eq_true q360; have ea_ := Option.some.inj (hx359_1.symm.trans hx360_1); injection ea_ with ea_ en_ ec_; subst ea_; subst ec_; clear en_) | ((with_reducible refine gate_dst (N := 28) rfl ?_); (try (refine gate_guard (by rfl) ?_; dsimp only)); refine Kd.R_lit (Kd.int .i64) _ 3 ?hg (N := 28) ?hd (xs := ([1] : List Int)) (inner := [.int .i64 1]) (ok := fun _ => True) (okp := fun _ => True) ?hr ?hp (fun _ hk => hk) trivial (Below.refl _ _) (Nat.le_refl _) (by simp) ?_; (case hd => rfl); (case hg => rfl); (case hr => first | (go_simp; done) | (go_simp; rfl)); (case hp => exact (Reps.one (show Kd.M (Kd.int .i64) _ _ _ 1 [.int .i64 1] from rfl) (Reps.none _ _))); intro v362 w43 ho44 hb hg_ hnew_; clear hg_ hnew_; (first | rw [← Ny361.out] at ho44 | (simp only [Int.reduceToNat] at ho44; rw [← Ny361.out] at ho44)); have n0_ := Aside0.mk (Kd.R_elder' (by (with_reducible repeat (first | apply Kd.R_alloc | apply Kd.R_drewN | apply Kd.R_drew)); exact HO354.out) (Kd.R_base ho44) hb); have n1_ := Aside0.mk (Kd.S_elder' (by (with_reducible repeat (first | apply Kd.S_alloc | apply Kd.S_drewN | apply Kd.S_drew)); exact HO358.out) (Kd.R_base ho44) hb); have n2_ := Aside0.mk (Kd.R_elder' (by (with_reducible repeat (first | apply Kd.R_alloc | apply Kd.R_drewN | apply Kd.R_drew)); exact HL359_1.out) (Kd.R_base ho44) hb); have n3_ := Aside0.mk (Kd.R_elder' (by (with_reducible repeat (first | apply Kd.R_alloc | apply Kd.R_drewN | apply Kd.R_drew)); exact HL360_1.out) (Kd.R_base ho44) hb); have n4_ := Aside0.mk (Kd.R_lower (Kd.R_new' (Kd.R_new' ho44 (Kd.R_lt (by (with_reducible repeat (first | apply Kd.R_alloc | apply Kd.R_drewN | apply Kd.R_drew)); exact HL359_1.out))) (Kd.R_lt (by (with_reducible repeat (first | apply Kd.R_alloc | apply Kd.R_drewN | apply Kd.R_drew)); exact HL360_1.out))) (below_size (by repeat (first | (with_reducible first | exact HB.out | apply below_alloc | apply pw_below_drewN | apply below_drew1 | refine below_set ?_ GE355.out) | exact HB.out)))); have n5_ := Aside0.mk (blk_below (g := gb355) (o := .cells #[.int .i64 0, .int .i64 1, .slice Ao38 y352.length co38] 24 (0, 0)) (by (with_reducible repeat (first | refine blk_drewN ?_ _ | refine blk_drew ?_ | refine blk_alloc ?_ _)); exact BK355.out) hb); have n6_ := Aside0.mk (Kd.C_below (by repeat (first | (with_reducible exact HR359_1.out) | (with_reducible refine Kd.C_alloc ?_ _) | (with_reducible refine Kd.C_drewN ?_ _) | (with_reducible refine Kd.C_drew ?_) | exact HR359_1.out)) hb); have n7_ := Aside0.mk (Kd.C_below (by repeat (first | (with_reducible exact HR360_1.out) | (with_reducible refine Kd.C_alloc ?_ _) | (with_reducible refine Kd.C_drewN ?_ _) | (with_reducible refine Kd.C_drew ?_) | exact HR360_1.out)) hb); have n8_ := Aside0.mk (below_step (by repeat (first | (with_reducible first | exact HB.out | apply below_alloc | apply pw_below_drewN | apply below_drew1 | refine below_set ?_ GE355.out) | exact HB.out)) hb); clear HO354; clear HO358; clear HL359_1; clear HL360_1; clear BK355; clear HR359_1; clear HR360_1; clear HB; have HO354 := n0_; have HO358 := n1_; have HL359_1 := n2_; have HL360_1 := n3_; have HO363 := n4_; have BK355 := n5_; have HR359_1 := n6_; have HR360_1 := n7_; have HB := n8_; clear n0_ n1_ n2_ n3_ n4_ n5_ n6_ n7_ n8_; clear hb ho44; obtain ⟨Ao45, co45, eo45⟩ := Kd.R_slice HO363.out; subst eo45) | (go_at_call 12; (with_reducible refine (davitref02_Ints.calls k _ _ ((rd_T40 t356 0).f1) _ _ y361 false _ ?side1 ?side2 ?side3 ?side4 A5.out).mono ?_); (case side1 => repeat (first | exact (by repeat (first | (with_reducible exact HR360_1.out) | (with_reducible refine Kd.C_alloc ?_ _) | (with_reducible refine Kd.C_drewN ?_ _) | (with_reducible refine Kd.C_drew ?_) | exact HR360_1.out)) | (with_reducible refine Kd.C_alloc ?_ _) | (with_reducible refine Kd.C_drewN ?_ _) | (with_reducible refine Kd.C_drew ?_))); (case side2 => exact HC360_1.out); (case side3 => repeat (first | exact (Kd.R_reads' HO363.out).2.2 | (with_reducible refine Kd.C_alloc ?_ _) | (with_reducible refine Kd.C_drewN ?_ _) | (with_reducible refine Kd.C_drew ?_))); (case side4 => exact (Kd.R_reads' HO363.out).2.1); rintro e w' ⟨rfl, ⟨nd, rfl⟩⟩))
     go_ret
     exact ⟨by first | rfl | (simp [errW_none, errW_some] <;> rfl) | (simp [*, errW_none, errW_some] <;> rfl), by repeat (first | (with_reducible first | exact HB.out | apply below_alloc | apply pw_below_drewN | apply below_drew1 | refine below_set ?_ GE355.out) | exact HB.out)⟩
   ·rw [if_neg c4] at H
    have c4b0 : (((rd_T40 t356 0).f0) == 1) = false := beq_eq_false_iff_ne.mpr c4
    have c4b1 : (((rd_T40 t356 0).f0) != 1) = true := bne_iff_ne.mpr c4
    obtain rfl := Option.some.inj H
    go_enter Try.func22, Try.ntmps22
    go_wp2_with (first | ((with_reducible refine gate_dst (N := 9) rfl ?_); (try (refine gate_guard (by rfl) ?_; dsimp only)); refine Kd.R_lit k50 _ 50 ?hg (N := 9) ?hd (xs := ([(⟨false, (⟨0, ([] : List Int), false, false⟩ : S47), ([] : List (S117)), (⟨2, 0, 0, 0, ([] : List Int), 1, 0, 0⟩ : S44)⟩ : S50), (⟨false, (⟨0, ([] : List Int), false, false⟩ : S47), ([] : List (S117)), (⟨3, 0, 0, 0, ([] : List Int), 1, 2, 0⟩ : S44)⟩ : S50), (⟨false, (⟨0, ([] : List Int), false, false⟩ : S47), ([] : List (S117)), (⟨1, 0, 0, 0, ([] : List Int), 0, 0, 0⟩ : S44)⟩ : S50)] : List (S50))) (inner := [.bool false, .int .i64 0, .slice none 0 0, .bool false, .bool false, .slice none 0 0, .int .i64 2, .int .i64 0, .int .i64 0, .int .i64 0, .slice none 0 0, .int .i64 1, .int .i64 0, .int .i64 0, .bool false, .int .i64 0, .slice none 0 0, .bool false, .bool false, .slice none 0 0, .int .i64 3, .int .i64 0, .int .i64 0, .int .i64 0, .slice none 0 0, .int .i64 1, .int .i64 2, .int .i64 0, .bool false, .int .i64 0, .slice none 0 0, .bool false, .bool false, .slice none 0 0, .int .i64 1, .int .i64 0, .int .i64 0, .int .i64 0, .slice none 0 0, .int .i64 0, .int .i64 0, .int .i64 0]) (ok := fun _ => True) (okp := fun _ => True) ?hr ?hp (fun _ hk => hk) trivial (Below.refl _ _) (Nat.le_refl _) (by simp) ?_; (case hd => rfl); (case hg => rfl); (case hr => first | (go_simp; done) | (go_simp; rfl)); (case hp => exact (Reps.front (show Kd.M k50 _ _ _ (⟨false, (⟨0, ([] : List Int), false, false⟩ : S47), ([] : List (S117)), (⟨2, 0, 0, 0, ([] : List Int), 1, 0, 0⟩ : S44)⟩ : S50) [.bool false, .int .i64 0, .slice none 0 0, .bool false, .bool false, .slice none 0 0, .int .i64 2, .int .i64 0, .int .i64 0, .int .i64 0, .slice none 0 0, .int .i64 1, .int .i64 0, .int .i64 0] from (k50_mkM _ _ _ (⟨false, (⟨0, ([] : List Int), false, false⟩ : S47), ([] : List (S117)), (⟨2, 0, 0, 0, ([] : List Int), 1, 0, 0⟩ : S44)⟩ : S50) (Kd.R_nil _ _ _ _ _) (Kd.R_nil _ _ _ _ _) (Kd.R_nil _ _ _ _ _))) rfl (Reps.front (show Kd.M k50 _ _ _ (⟨false, (⟨0, ([] : List Int), false, false⟩ : S47), ([] : List (S117)), (⟨3, 0, 0, 0, ([] : List Int), 1, 2, 0⟩ : S44)⟩ : S50) [.bool false, .int .i64 0, .slice none 0 0, .bool false, .bool false, .slice none 0 0, .int .i64 3, .int .i64 0, .int .i64 0, .int .i64 0, .slice none 0 0, .int .i64 1, .int .i64 2, .int .i64 0] from (k50_mkM _ _ _ (⟨false, (⟨0, ([] : List Int), false, false⟩ : S47), ([] : List (S117)), (⟨3, 0, 0, 0, ([] : List Int), 1, 2, 0⟩ : S44)⟩ : S50) (Kd.R_nil _ _ _ _ _) (Kd.R_nil _ _ _ _ _) (Kd.R_nil _ _ _ _ _))) rfl (Reps.front (show Kd.M k50 _ _ _ (⟨false, (⟨0, ([] : List Int), false, false⟩ : S47), ([] : List (S117)), (⟨1, 0, 0, 0, ([] : List Int), 0, 0, 0⟩ : S44)⟩ : S50) [.bool false, .int .i64 0, .slice none 0 0, .bool false, .bool false, .slice none 0 0, .int .i64 1, .int .i64 0, .int .i64 0, .int .i64 0, .slice none 0 0, .int .i64 0, .int .i64 0, .int .i64 0] from (k50_mkM _ _ _ (⟨false, (⟨0, ([] : List Int), false, false⟩ : S47), ([] : List (S117)), (⟨1, 0, 0, 0, ([] : List Int), 0, 0, 0⟩ : S44)⟩ : S50) (Kd.R_nil _ _ _ _ _) (Kd.R_nil _ _ _ _ _) (Kd.R_nil _ _ _ _ _))) rfl (Reps.none _ _) rfl) rfl) rfl)); intro v353 w46 ho47 hb hg_ hnew_; clear hg_ hnew_; (first | rw [← Ny352.out] at ho47 | (simp only [Int.reduceToNat] at ho47; rw [← Ny352.out] at ho47)); have n0_ := Aside0.mk (Kd.R_lower ho47 (below_size (by repeat (first | (with_reducible first | exact HB.out | apply below_alloc | apply pw_below_drewN | apply below_drew1) | exact HB.out)))); have n1_ := Aside0.mk (below_step (by repeat (first | (with_reducible first | exact HB.out | apply below_alloc | apply pw_below_drewN | apply below_drew1) | exact HB.out)) hb); clear HB; have HO354 := n0_; have HB := n1_; clear n0_ n1_; clear hb ho47; obtain ⟨Ao48, co48, eo48⟩ := Kd.R_slice HO354.out; subst eo48) | ((with_reducible refine gate_dst (N := 1) rfl ?_); (try (refine gate_guard (by rfl) ?_; dsimp only)); refine box_event ?hg (N := 1) ?hd (cs := #[.int .i64 0, .int .i64 0, .slice none 0 0]) (t := 24) ?hr ?_; (case hd => rfl); (case hg => rfl); (case hr => first | (go_simp; done) | (go_simp; rfl)); intro gb355 hg w49 hbox hb; have n0_ := Aside0.mk (Kd.R_below (by (with_reducible repeat (first | apply Kd.R_alloc | apply Kd.R_drewN | apply Kd.R_drew)); exact HO354.out) hb); have n1_ := Aside0.mk (below_step (by repeat (first | (with_reducible first | exact HB.out | apply below_alloc | apply pw_below_drewN | apply below_drew1) | exact HB.out)) hb); have n2_ := Aside0.mk (hbox); have n3_ := Aside0.mk ((by rw [hg]; exact (below_size (by repeat (first | (with_reducible first | exact HB.out | apply below_alloc | apply pw_below_drewN | apply below_drew1) | exact HB.out))) : w.heap.size ≤ gb355)); have n4_ := Aside0.mk ((by rw [hg]; exact (below_size (by repeat (first | (with_reducible first | exact HB.out | apply below_alloc | apply pw_below_drewN | apply below_drew1) | exact HB.out))) : w.heap.size ≤ gb355)); clear HO354; clear HB; have HO354 := n0_; have HB := n1_; have BK355 := n2_; have GW355 := n3_; have GE355 := n4_; clear n0_ n1_ n2_ n3_ n4_; clear hb hbox hg; have hcz50_0 : w49.cell? ⟨gb355, 0, none⟩ = some (.int .i64 0) := (blk_cell BK355.out 0).trans rfl; have hcz50_1 : w49.cell? ⟨gb355, 1, none⟩ = some (.int .i64 0) := (blk_cell BK355.out 1).trans rfl; have hcz50_2 : w49.cell? ⟨gb355, 2, none⟩ = some (.slice none 0 0) := (blk_cell BK355.out 2).trans rfl; have hfz50_0 := blk_frozen BK355.out 0; have hfz50_1 := blk_frozen BK355.out 1; have hfz50_2 := blk_frozen BK355.out 2) | ((with_reducible refine gate_callee (f := 23) rfl ?_); refine goesL_ (some 12) rfl rfl Try.func23 (by kernel_rfl) rfl #[.agg #[.int .i64 0, .int .i64 1, .slice Ao48 y352.length co48]] rfl (by (try simp only [List.map_toArray, List.map_cons, List.map_nil]); first | done | rfl | (simp only [List.length_drop, List.length_take]; rfl)) ?_; (with_reducible refine (loop_All.calls k 0 1 _ _ y352 t356 _ ?side1 ?side2 A1.out).mono ?_); (case side1 => refine (Kd.R_reads' (e := 50) (base := w.heap.size) (ok := fun k_ => True) (n := y352.length) (c := co48) ?_).2.2; exact (by (with_reducible repeat (first | apply Kd.R_alloc | apply Kd.R_drewN | apply Kd.R_drew)); exact (Kd.R_mono (Kd.R_far (p := ⟨gb355, 2, none⟩) (Kd.R_far (p := ⟨gb355, 1, none⟩) (Kd.R_far (p := ⟨gb355, 0, none⟩) (Kd.R_types HO354.out BK355.out (by decide)) (fun _ hk => hk.2) (.int .i64 0)) (fun _ hk => hk.2) (.int .i64 1)) (fun _ hk => hk.2) (.slice Ao48 y352.length co48)) (fun _ h_ => h_.1)))); (case side2 => exact (Kd.R_reads' HO354.out).2.1); rintro e w51 ⟨v357, rfl, ho0, hb⟩; refine ⟨_, rfl, ?_⟩; have n0_ := Aside0.mk (Kd.R_below (by (with_reducible repeat (first | apply Kd.R_alloc | apply Kd.R_drewN | apply Kd.R_drew)); exact (Kd.R_mono (Kd.R_far (p := ⟨gb355, 2, none⟩) (Kd.R_far (p := ⟨gb355, 1, none⟩) (Kd.R_far (p := ⟨gb355, 0, none⟩) (Kd.R_types HO354.out BK355.out (by decide)) (fun _ hk => hk.2) (.int .i64 0)) (fun _ hk => hk.2) (.int .i64 1)) (fun _ hk => hk.2) (.slice Ao48 y352.length co48)) (fun _ h_ => h_.1))) hb); have n1_ := Aside0.mk (Kd.S_lower ho0 (below_size (by repeat (first | (with_reducible first | exact HB.out | apply below_alloc | apply pw_below_drewN | apply below_drew1 | refine below_set ?_ GE355.out) | exact HB.out)))); have n2_ := Aside0.mk (blk_below (g := gb355) (o := .cells #[.int .i64 0, .int .i64 1, .slice Ao48 y352.length co48] 24 (0, 0)) (by (with_reducible repeat (first | refine blk_drewN ?_ _ | refine blk_drew ?_ | refine blk_alloc ?_ _)); refine blk_put (cs := #[.int .i64 0, .int .i64 1, .slice none 0 0]) ?_ 2 _ rfl; (with_reducible repeat (first | refine blk_drewN ?_ _ | refine blk_drew ?_ | refine blk_alloc ?_ _)); refine blk_put (cs := #[.int .i64 0, .int .i64 0, .slice none 0 0]) ?_ 1 _ rfl; (with_reducible repeat (first | refine blk_drewN ?_ _ | refine blk_drew ?_ | refine blk_alloc ?_ _)); refine blk_put (cs := #[.int .i64 0, .int .i64 0, .slice none 0 0]) ?_ 0 _ rfl; (with_reducible repeat (first | refine blk_drewN ?_ _ | refine blk_drew ?_ | refine blk_alloc ?_ _)); exact BK355.out) hb); have n3_ := Aside0.mk (below_step (by repeat (first | (with_reducible first | exact HB.out | apply below_alloc | apply pw_below_drewN | apply below_drew1 | refine below_set ?_ GE355.out) | exact HB.out)) hb); clear HO354; clear BK355; clear HB; have HO354 := n0_; have HO358 := n1_; have BK355 := n2_; have HB := n3_; clear n0_ n1_ n2_ n3_; (try clear hb); (try clear hb2); (try clear hk); (try clear hi); (try clear ho0); obtain ⟨Ao52, co52, eo52⟩ := Kd.S_slice HO358.out; subst eo52; have p359 : 0 ≤ (0 : Int) := (by omega); have q359 : 0 < (t356.length : Int) := of_decide_eq_true (by first | (with_reducible assumption) | assumption); obtain ⟨ad359, A359_1, c359_1, e359, hx359_0, hx359_1, hl359_1, hi359_1⟩ := at_T40 (Kd.S_reads' HO358.out).2.2 0 p359 q359; cases e359; obtain ⟨ce359, hce359, hMe359, hcc359⟩ := Kd.S_get HO358.out z40 0 p359 (by first | exact q359 | exact of_decide_eq_true (by first | (with_reducible assumption) | assumption) | (have e_ := (Kd.S_reads' HO358.out).1; omega)); obtain ⟨ve359_1, rfl, ge359_1⟩ := k40_openM hMe359; have hv359_1 := hcc359 1 _ rfl; rw [add_field _ _ 1 (by omega)] at hv359_1; replace hv359_1 := Option.some.inj (hv359_1.symm.trans hx359_1); rw [hv359_1] at ge359_1; have HL359_1 := Aside0.mk (show Kd.R (Kd.int .i64) 3 _ _ _ _ ((rd_T40 t356 0).f1) from ge359_1); clear hv359_1 ge359_1; clear hcc359 hce359; have qi359 : (0 < t356.length) = True := eq_true (by omega); (try rw [show ((0 : Int)).toNat = 0 from rfl] at hx359_0); (try rw [show 0 * 2 = 0 from rfl] at hx359_0); (try rw [Addr.add_zero'] at hx359_0); (try rw [show ((0 : Int)).toNat = 0 from rfl] at hx359_1); (try rw [show 0 * 2 = 0 from rfl] at hx359_1); (try rw [Addr.add_zero'] at hx359_1); have HR359_1 := Aside0.mk hi359_1; have HC359_1 := Aside0.mk hl359_1; clear hi359_1 hl359_1; replace p359 := eq_true p359; replace q359 := eq_true q359))
    go_ret
    exact ⟨by first | rfl | (simp [errW_none, errW_some] <;> rfl) | (simp [*, errW_none, errW_some] <;> rfl), by repeat (first | (with_reducible first | exact HB.out | apply below_alloc | apply pw_below_drewN | apply below_drew1 | refine below_set ?_ GE355.out) | exact HB.out)⟩
  ·rw [if_neg c3] at H
   exact absurd H (by simp)
 ·rw [if_neg c2] at H
  have c2b0 : ((t356.length : Int) == 1) = false := beq_eq_false_iff_ne.mpr c2
  have c2b1 : ((t356.length : Int) != 1) = true := bne_iff_ne.mpr c2
  obtain rfl := Option.some.inj H
  go_enter Try.func22, Try.ntmps22
  go_wp2_with (first | ((with_reducible refine gate_dst (N := 9) rfl ?_); (try (refine gate_guard (by rfl) ?_; dsimp only)); refine Kd.R_lit k50 _ 50 ?hg (N := 9) ?hd (xs := ([(⟨false, (⟨0, ([] : List Int), false, false⟩ : S47), ([] : List (S117)), (⟨2, 0, 0, 0, ([] : List Int), 1, 0, 0⟩ : S44)⟩ : S50), (⟨false, (⟨0, ([] : List Int), false, false⟩ : S47), ([] : List (S117)), (⟨3, 0, 0, 0, ([] : List Int), 1, 2, 0⟩ : S44)⟩ : S50), (⟨false, (⟨0, ([] : List Int), false, false⟩ : S47), ([] : List (S117)), (⟨1, 0, 0, 0, ([] : List Int), 0, 0, 0⟩ : S44)⟩ : S50)] : List (S50))) (inner := [.bool false, .int .i64 0, .slice none 0 0, .bool false, .bool false, .slice none 0 0, .int .i64 2, .int .i64 0, .int .i64 0, .int .i64 0, .slice none 0 0, .int .i64 1, .int .i64 0, .int .i64 0, .bool false, .int .i64 0, .slice none 0 0, .bool false, .bool false, .slice none 0 0, .int .i64 3, .int .i64 0, .int .i64 0, .int .i64 0, .slice none 0 0, .int .i64 1, .int .i64 2, .int .i64 0, .bool false, .int .i64 0, .slice none 0 0, .bool false, .bool false, .slice none 0 0, .int .i64 1, .int .i64 0, .int .i64 0, .int .i64 0, .slice none 0 0, .int .i64 0, .int .i64 0, .int .i64 0]) (ok := fun _ => True) (okp := fun _ => True) ?hr ?hp (fun _ hk => hk) trivial (Below.refl _ _) (Nat.le_refl _) (by simp) ?_; (case hd => rfl); (case hg => rfl); (case hr => first | (go_simp; done) | (go_simp; rfl)); (case hp => exact (Reps.front (show Kd.M k50 _ _ _ (⟨false, (⟨0, ([] : List Int), false, false⟩ : S47), ([] : List (S117)), (⟨2, 0, 0, 0, ([] : List Int), 1, 0, 0⟩ : S44)⟩ : S50) [.bool false, .int .i64 0, .slice none 0 0, .bool false, .bool false, .slice none 0 0, .int .i64 2, .int .i64 0, .int .i64 0, .int .i64 0, .slice none 0 0, .int .i64 1, .int .i64 0, .int .i64 0] from (k50_mkM _ _ _ (⟨false, (⟨0, ([] : List Int), false, false⟩ : S47), ([] : List (S117)), (⟨2, 0, 0, 0, ([] : List Int), 1, 0, 0⟩ : S44)⟩ : S50) (Kd.R_nil _ _ _ _ _) (Kd.R_nil _ _ _ _ _) (Kd.R_nil _ _ _ _ _))) rfl (Reps.front (show Kd.M k50 _ _ _ (⟨false, (⟨0, ([] : List Int), false, false⟩ : S47), ([] : List (S117)), (⟨3, 0, 0, 0, ([] : List Int), 1, 2, 0⟩ : S44)⟩ : S50) [.bool false, .int .i64 0, .slice none 0 0, .bool false, .bool false, .slice none 0 0, .int .i64 3, .int .i64 0, .int .i64 0, .int .i64 0, .slice none 0 0, .int .i64 1, .int .i64 2, .int .i64 0] from (k50_mkM _ _ _ (⟨false, (⟨0, ([] : List Int), false, false⟩ : S47), ([] : List (S117)), (⟨3, 0, 0, 0, ([] : List Int), 1, 2, 0⟩ : S44)⟩ : S50) (Kd.R_nil _ _ _ _ _) (Kd.R_nil _ _ _ _ _) (Kd.R_nil _ _ _ _ _))) rfl (Reps.front (show Kd.M k50 _ _ _ (⟨false, (⟨0, ([] : List Int), false, false⟩ : S47), ([] : List (S117)), (⟨1, 0, 0, 0, ([] : List Int), 0, 0, 0⟩ : S44)⟩ : S50) [.bool false, .int .i64 0, .slice none 0 0, .bool false, .bool false, .slice none 0 0, .int .i64 1, .int .i64 0, .int .i64 0, .int .i64 0, .slice none 0 0, .int .i64 0, .int .i64 0, .int .i64 0] from (k50_mkM _ _ _ (⟨false, (⟨0, ([] : List Int), false, false⟩ : S47), ([] : List (S117)), (⟨1, 0, 0, 0, ([] : List Int), 0, 0, 0⟩ : S44)⟩ : S50) (Kd.R_nil _ _ _ _ _) (Kd.R_nil _ _ _ _ _) (Kd.R_nil _ _ _ _ _))) rfl (Reps.none _ _) rfl) rfl) rfl)); intro v353 w53 ho54 hb hg_ hnew_; clear hg_ hnew_; (first | rw [← Ny352.out] at ho54 | (simp only [Int.reduceToNat] at ho54; rw [← Ny352.out] at ho54)); have n0_ := Aside0.mk (Kd.R_lower ho54 (below_size (by repeat (first | (with_reducible first | exact HB.out | apply below_alloc | apply pw_below_drewN | apply below_drew1) | exact HB.out)))); have n1_ := Aside0.mk (below_step (by repeat (first | (with_reducible first | exact HB.out | apply below_alloc | apply pw_below_drewN | apply below_drew1) | exact HB.out)) hb); clear HB; have HO354 := n0_; have HB := n1_; clear n0_ n1_; clear hb ho54; obtain ⟨Ao55, co55, eo55⟩ := Kd.R_slice HO354.out; subst eo55) | ((with_reducible refine gate_dst (N := 1) rfl ?_); (try (refine gate_guard (by rfl) ?_; dsimp only)); refine box_event ?hg (N := 1) ?hd (cs := #[.int .i64 0, .int .i64 0, .slice none 0 0]) (t := 24) ?hr ?_; (case hd => rfl); (case hg => rfl); (case hr => first | (go_simp; done) | (go_simp; rfl)); intro gb355 hg w56 hbox hb; have n0_ := Aside0.mk (Kd.R_below (by (with_reducible repeat (first | apply Kd.R_alloc | apply Kd.R_drewN | apply Kd.R_drew)); exact HO354.out) hb); have n1_ := Aside0.mk (below_step (by repeat (first | (with_reducible first | exact HB.out | apply below_alloc | apply pw_below_drewN | apply below_drew1) | exact HB.out)) hb); have n2_ := Aside0.mk (hbox); have n3_ := Aside0.mk ((by rw [hg]; exact (below_size (by repeat (first | (with_reducible first | exact HB.out | apply below_alloc | apply pw_below_drewN | apply below_drew1) | exact HB.out))) : w.heap.size ≤ gb355)); have n4_ := Aside0.mk ((by rw [hg]; exact (below_size (by repeat (first | (with_reducible first | exact HB.out | apply below_alloc | apply pw_below_drewN | apply below_drew1) | exact HB.out))) : w.heap.size ≤ gb355)); clear HO354; clear HB; have HO354 := n0_; have HB := n1_; have BK355 := n2_; have GW355 := n3_; have GE355 := n4_; clear n0_ n1_ n2_ n3_ n4_; clear hb hbox hg; have hcz57_0 : w56.cell? ⟨gb355, 0, none⟩ = some (.int .i64 0) := (blk_cell BK355.out 0).trans rfl; have hcz57_1 : w56.cell? ⟨gb355, 1, none⟩ = some (.int .i64 0) := (blk_cell BK355.out 1).trans rfl; have hcz57_2 : w56.cell? ⟨gb355, 2, none⟩ = some (.slice none 0 0) := (blk_cell BK355.out 2).trans rfl; have hfz57_0 := blk_frozen BK355.out 0; have hfz57_1 := blk_frozen BK355.out 1; have hfz57_2 := blk_frozen BK355.out 2) | ((with_reducible refine gate_callee (f := 23) rfl ?_); refine goesL_ (some 12) rfl rfl Try.func23 (by kernel_rfl) rfl #[.agg #[.int .i64 0, .int .i64 1, .slice Ao55 y352.length co55]] rfl (by (try simp only [List.map_toArray, List.map_cons, List.map_nil]); first | done | rfl | (simp only [List.length_drop, List.length_take]; rfl)) ?_; (with_reducible refine (loop_All.calls k 0 1 _ _ y352 t356 _ ?side1 ?side2 A1.out).mono ?_); (case side1 => refine (Kd.R_reads' (e := 50) (base := w.heap.size) (ok := fun k_ => True) (n := y352.length) (c := co55) ?_).2.2; exact (by (with_reducible repeat (first | apply Kd.R_alloc | apply Kd.R_drewN | apply Kd.R_drew)); exact (Kd.R_mono (Kd.R_far (p := ⟨gb355, 2, none⟩) (Kd.R_far (p := ⟨gb355, 1, none⟩) (Kd.R_far (p := ⟨gb355, 0, none⟩) (Kd.R_types HO354.out BK355.out (by decide)) (fun _ hk => hk.2) (.int .i64 0)) (fun _ hk => hk.2) (.int .i64 1)) (fun _ hk => hk.2) (.slice Ao55 y352.length co55)) (fun _ h_ => h_.1)))); (case side2 => exact (Kd.R_reads' HO354.out).2.1); rintro e w58 ⟨v357, rfl, ho0, hb⟩; refine ⟨_, rfl, ?_⟩; have n0_ := Aside0.mk (Kd.R_below (by (with_reducible repeat (first | apply Kd.R_alloc | apply Kd.R_drewN | apply Kd.R_drew)); exact (Kd.R_mono (Kd.R_far (p := ⟨gb355, 2, none⟩) (Kd.R_far (p := ⟨gb355, 1, none⟩) (Kd.R_far (p := ⟨gb355, 0, none⟩) (Kd.R_types HO354.out BK355.out (by decide)) (fun _ hk => hk.2) (.int .i64 0)) (fun _ hk => hk.2) (.int .i64 1)) (fun _ hk => hk.2) (.slice Ao55 y352.length co55)) (fun _ h_ => h_.1))) hb); have n1_ := Aside0.mk (Kd.S_lower ho0 (below_size (by repeat (first | (with_reducible first | exact HB.out | apply below_alloc | apply pw_below_drewN | apply below_drew1 | refine below_set ?_ GE355.out) | exact HB.out)))); have n2_ := Aside0.mk (blk_below (g := gb355) (o := .cells #[.int .i64 0, .int .i64 1, .slice Ao55 y352.length co55] 24 (0, 0)) (by (with_reducible repeat (first | refine blk_drewN ?_ _ | refine blk_drew ?_ | refine blk_alloc ?_ _)); refine blk_put (cs := #[.int .i64 0, .int .i64 1, .slice none 0 0]) ?_ 2 _ rfl; (with_reducible repeat (first | refine blk_drewN ?_ _ | refine blk_drew ?_ | refine blk_alloc ?_ _)); refine blk_put (cs := #[.int .i64 0, .int .i64 0, .slice none 0 0]) ?_ 1 _ rfl; (with_reducible repeat (first | refine blk_drewN ?_ _ | refine blk_drew ?_ | refine blk_alloc ?_ _)); refine blk_put (cs := #[.int .i64 0, .int .i64 0, .slice none 0 0]) ?_ 0 _ rfl; (with_reducible repeat (first | refine blk_drewN ?_ _ | refine blk_drew ?_ | refine blk_alloc ?_ _)); exact BK355.out) hb); have n3_ := Aside0.mk (below_step (by repeat (first | (with_reducible first | exact HB.out | apply below_alloc | apply pw_below_drewN | apply below_drew1 | refine below_set ?_ GE355.out) | exact HB.out)) hb); clear HO354; clear BK355; clear HB; have HO354 := n0_; have HO358 := n1_; have BK355 := n2_; have HB := n3_; clear n0_ n1_ n2_ n3_; (try clear hb); (try clear hb2); (try clear hk); (try clear hi); (try clear ho0); obtain ⟨Ao59, co59, eo59⟩ := Kd.S_slice HO358.out; subst eo59))
  go_ret
  exact ⟨by first | rfl | (simp [errW_none, errW_some] <;> rfl) | (simp [*, errW_none, errW_some] <;> rfl), by repeat (first | (with_reducible first | exact HB.out | apply below_alloc | apply pw_below_drewN | apply below_drew1 | refine below_set ?_ GE355.out) | exact HB.out)⟩
end
end Go.Proofs.Ytilopoegoddggaa.X
namespace Go.Proofs.Ytilopoegoddggaa.X
open Go.RowKit Go.Proofs.YtilopoegoddggaaW.PrintWords Go.Proofs.YtilopoegoddggaaW.PrintLast Go.Proofs.YtilopoegoddggaaW.PrintMore
attribute [local go_sem] max2_int min2_int max_two min_two max_three min_three max_four min_four
set_option linter.all false
noncomputable section
mutual
def davitref07_Next.j0 : Nat → Int → Bool → Int → Int → List (S50) → Option (List Int)
 | 0, _, _, _, _, _ => none
 | k + 1, x1, x17, x151000, x151001, x151002 => if x17 = true then (some ([] : List Int)) else (if 0 ≤ x1 then (if x1 < (x151002.length : Int) then (if ((rd_T50 x151002 x1).f3.f0) = 2 then (davitref07_Next.j1 k ([] : List Int) true x151000 x151001 x151002 ((rd_T50 x151002 x1).f3.f0) ((rd_T50 x151002 x1).f3.f1) ((rd_T50 x151002 x1).f3.f2) ((rd_T50 x151002 x1).f3.f3) ((rd_T50 x151002 x1).f3.f4) ((rd_T50 x151002 x1).f3.f5) ((rd_T50 x151002 x1).f3.f6) ((rd_T50 x151002 x1).f3.f7)) else (if ((rd_T50 x151002 x1).f3.f0) = 3 then (davitref07_Next.j1 k ([] : List Int) true x151000 x151001 x151002 ((rd_T50 x151002 x1).f3.f0) ((rd_T50 x151002 x1).f3.f1) ((rd_T50 x151002 x1).f3.f2) ((rd_T50 x151002 x1).f3.f3) ((rd_T50 x151002 x1).f3.f4) ((rd_T50 x151002 x1).f3.f5) ((rd_T50 x151002 x1).f3.f6) ((rd_T50 x151002 x1).f3.f7)) else (davitref07_Next.j1 k ([] : List Int) (((rd_T50 x151002 x1).f3.f0) == 4) x151000 x151001 x151002 ((rd_T50 x151002 x1).f3.f0) ((rd_T50 x151002 x1).f3.f1) ((rd_T50 x151002 x1).f3.f2) ((rd_T50 x151002 x1).f3.f3) ((rd_T50 x151002 x1).f3.f4) ((rd_T50 x151002 x1).f3.f5) ((rd_T50 x151002 x1).f3.f6) ((rd_T50 x151002 x1).f3.f7)))) else (none)) else (none))
def davitref07_Next.j1 : Nat → List Int → Bool → Int → Int → List (S50) → Int → Int → Int → Int → List Int → Int → Int → Int → Option (List Int)
 | 0, _, _, _, _, _, _, _, _, _, _, _, _, _ => none
 | k + 1, x6, x36, x151000, x151001, x151002, x153000, x153001, x153002, x153003, x153004, x153005, x153006, x153007 => if x36 = true then (if x6.length < 17592186044416 then (davitref07_Next.j2 k (x6 ++ [x153005]) x151000 x151001 x151002 x153000 x153001 x153002 x153003 x153004 x153005 x153006 x153007) else (none)) else (davitref07_Next.j2 k x6 x151000 x151001 x151002 x153000 x153001 x153002 x153003 x153004 x153005 x153006 x153007)
def davitref07_Next.j2 : Nat → List Int → Int → Int → List (S50) → Int → Int → Int → Int → List Int → Int → Int → Int → Option (List Int)
 | 0, _, _, _, _, _, _, _, _, _, _, _, _ => none
 | k + 1, x6, x151000, x151001, x151002, x153000, x153001, x153002, x153003, x153004, x153005, x153006, x153007 => if x153000 = 3 then (if x6.length < 17592186044416 then (davitref07_Next.j3 k (x6 ++ [x153006]) x151000 x151001 x151002 x153000 x153001 x153002 x153003 x153004 x153005 x153006 x153007) else (none)) else (davitref07_Next.j3 k x6 x151000 x151001 x151002 x153000 x153001 x153002 x153003 x153004 x153005 x153006 x153007)
def davitref07_Next.j3 : Nat → List Int → Int → Int → List (S50) → Int → Int → Int → Int → List Int → Int → Int → Int → Option (List Int)
 | 0, _, _, _, _, _, _, _, _, _, _, _, _ => none
 | k + 1, x6, x151000, x151001, x151002, x153000, x153001, x153002, x153003, x153004, x153005, x153006, x153007 => if x153000 = 4 then (if x6.length < 17592186044416 then (davitref07_Next.j4 k (x6 ++ [x153007]) x151000 x151001 x151002) else (none)) else (davitref07_Next.j4 k x6 x151000 x151001 x151002)
def davitref07_Next.j4 : Nat → List Int → Int → Int → List (S50) → Option (List Int)
 | 0, _, _, _, _ => none
 | k + 1, x6, x151000, x151001, x151002 => davitref07_Next.l0 k x6 ([] : List Int) 0 x151000 x151001 x151002
def davitref07_Next.l0 : Nat → List Int → List Int → Int → Int → Int → List (S50) → Option (List Int)
 | 0, _, _, _, _, _, _ => none
 | k + 1, x6, x7, x8, x151000, x151001, x151002 => if x8 < (x6.length : Int) then (if 0 ≤ x8 then (if (rd x6 x8) ≥ 0 then (if (rd x6 x8) < (x151002.length : Int) then (if x7.length < 17592186044416 then (davitref07_Next.l0 k x6 (x7 ++ [rd x6 x8]) (wrap64 (x8 + 1)) x151000 x151001 x151002) else (none)) else (davitref07_Next.l0 k x6 x7 (wrap64 (x8 + 1)) x151000 x151001 x151002)) else (davitref07_Next.l0 k x6 x7 (wrap64 (x8 + 1)) x151000 x151001 x151002)) else (none)) else (some x7)
end
def davitref07_Next.f (k : Nat) (a0_0 : Int) (a0_1 : Int) (l0_2 : List (S50)) (a1 : Int) : Option (List Int) := if a1 < 0 then (davitref07_Next.j0 k a1 true a0_0 a0_1 l0_2) else (davitref07_Next.j0 k a1 (decide (a1 ≥ (l0_2.length : Int))) a0_0 a0_1 l0_2)
theorem davitref07_Next.mono_l : ∀ k, (∀ y0 y1 y2 y3 y4, LeO (davitref07_Next.j0 k y0 y1 y2 y3 y4) (davitref07_Next.j0 (k + 1) y0 y1 y2 y3 y4)) ∧ (∀ y0 y1 y2 y3 y4 y5 y6 y7 y8 y9 y10 y11 y12, LeO (davitref07_Next.j1 k y0 y1 y2 y3 y4 y5 y6 y7 y8 y9 y10 y11 y12) (davitref07_Next.j1 (k + 1) y0 y1 y2 y3 y4 y5 y6 y7 y8 y9 y10 y11 y12)) ∧ (∀ y0 y1 y2 y3 y4 y5 y6 y7 y8 y9 y10 y11, LeO (davitref07_Next.j2 k y0 y1 y2 y3 y4 y5 y6 y7 y8 y9 y10 y11) (davitref07_Next.j2 (k + 1) y0 y1 y2 y3 y4 y5 y6 y7 y8 y9 y10 y11)) ∧ (∀ y0 y1 y2 y3 y4 y5 y6 y7 y8 y9 y10 y11, LeO (davitref07_Next.j3 k y0 y1 y2 y3 y4 y5 y6 y7 y8 y9 y10 y11) (davitref07_Next.j3 (k + 1) y0 y1 y2 y3 y4 y5 y6 y7 y8 y9 y10 y11)) ∧ (∀ y0 y1 y2 y3, LeO (davitref07_Next.j4 k y0 y1 y2 y3) (davitref07_Next.j4 (k + 1) y0 y1 y2 y3)) ∧ (∀ y0 y1 y2 y3 y4 y5, LeO (davitref07_Next.l0 k y0 y1 y2 y3 y4 y5) (davitref07_Next.l0 (k + 1) y0 y1 y2 y3 y4 y5))
 | 0 => ⟨fun _ _ _ _ _ r h => by simp [davitref07_Next.j0] at h, fun _ _ _ _ _ _ _ _ _ _ _ _ _ r h => by simp [davitref07_Next.j1] at h, fun _ _ _ _ _ _ _ _ _ _ _ _ r h => by simp [davitref07_Next.j2] at h, fun _ _ _ _ _ _ _ _ _ _ _ _ r h => by simp [davitref07_Next.j3] at h, fun _ _ _ _ r h => by simp [davitref07_Next.j4] at h, fun _ _ _ _ _ _ r h => by simp [davitref07_Next.l0] at h⟩
 | k + 1 => by
  obtain ⟨ih0, ih1, ih2, ih3, ih4, ih5⟩ := davitref07_Next.mono_l k
  refine ⟨?_, ?_, ?_, ?_, ?_, ?_⟩
  ·intro y0 y1 y2 y3 y4
   unfold davitref07_Next.j0
   repeat' first
   | (with_reducible exact ih0 _ _ _ _ _)
   | (with_reducible exact ih1 _ _ _ _ _ _ _ _ _ _ _ _ _)
   | (with_reducible exact ih2 _ _ _ _ _ _ _ _ _ _ _ _)
   | (with_reducible exact ih3 _ _ _ _ _ _ _ _ _ _ _ _)
   | (with_reducible exact ih4 _ _ _ _)
   | (with_reducible exact ih5 _ _ _ _ _ _)
   | (with_reducible exact LeO.refl _)
   | (with_reducible exact LeO.none _)
   | (with_reducible refine LeO.ite ?_ ?_)
   | (with_reducible refine LeO.bind ?_ (fun _ => ?_))
   | exact ih0 _ _ _ _ _
   | exact ih1 _ _ _ _ _ _ _ _ _ _ _ _ _
   | exact ih2 _ _ _ _ _ _ _ _ _ _ _ _
   | exact ih3 _ _ _ _ _ _ _ _ _ _ _ _
   | exact ih4 _ _ _ _
   | exact ih5 _ _ _ _ _ _
   | exact LeO.none _
   | refine LeO.ite ?_ ?_
   | refine LeO.bind ?_ (fun _ => ?_)
  ·intro y0 y1 y2 y3 y4 y5 y6 y7 y8 y9 y10 y11 y12
   unfold davitref07_Next.j1
   repeat' first
   | (with_reducible exact ih0 _ _ _ _ _)
   | (with_reducible exact ih1 _ _ _ _ _ _ _ _ _ _ _ _ _)
   | (with_reducible exact ih2 _ _ _ _ _ _ _ _ _ _ _ _)
   | (with_reducible exact ih3 _ _ _ _ _ _ _ _ _ _ _ _)
   | (with_reducible exact ih4 _ _ _ _)
   | (with_reducible exact ih5 _ _ _ _ _ _)
   | (with_reducible exact LeO.refl _)
   | (with_reducible exact LeO.none _)
   | (with_reducible refine LeO.ite ?_ ?_)
   | (with_reducible refine LeO.bind ?_ (fun _ => ?_))
   | exact ih0 _ _ _ _ _
   | exact ih1 _ _ _ _ _ _ _ _ _ _ _ _ _
   | exact ih2 _ _ _ _ _ _ _ _ _ _ _ _
   | exact ih3 _ _ _ _ _ _ _ _ _ _ _ _
   | exact ih4 _ _ _ _
   | exact ih5 _ _ _ _ _ _
   | exact LeO.none _
   | refine LeO.ite ?_ ?_
   | refine LeO.bind ?_ (fun _ => ?_)
  ·intro y0 y1 y2 y3 y4 y5 y6 y7 y8 y9 y10 y11
   unfold davitref07_Next.j2
   repeat' first
   | (with_reducible exact ih0 _ _ _ _ _)
   | (with_reducible exact ih1 _ _ _ _ _ _ _ _ _ _ _ _ _)
   | (with_reducible exact ih2 _ _ _ _ _ _ _ _ _ _ _ _)
   | (with_reducible exact ih3 _ _ _ _ _ _ _ _ _ _ _ _)
   | (with_reducible exact ih4 _ _ _ _)
   | (with_reducible exact ih5 _ _ _ _ _ _)
   | (with_reducible exact LeO.refl _)
   | (with_reducible exact LeO.none _)
   | (with_reducible refine LeO.ite ?_ ?_)
   | (with_reducible refine LeO.bind ?_ (fun _ => ?_))
   | exact ih0 _ _ _ _ _
   | exact ih1 _ _ _ _ _ _ _ _ _ _ _ _ _
   | exact ih2 _ _ _ _ _ _ _ _ _ _ _ _
   | exact ih3 _ _ _ _ _ _ _ _ _ _ _ _
   | exact ih4 _ _ _ _
   | exact ih5 _ _ _ _ _ _
   | exact LeO.none _
   | refine LeO.ite ?_ ?_
   | refine LeO.bind ?_ (fun _ => ?_)
  ·intro y0 y1 y2 y3 y4 y5 y6 y7 y8 y9 y10 y11
   unfold davitref07_Next.j3
   repeat' first
   | (with_reducible exact ih0 _ _ _ _ _)
   | (with_reducible exact ih1 _ _ _ _ _ _ _ _ _ _ _ _ _)
   | (with_reducible exact ih2 _ _ _ _ _ _ _ _ _ _ _ _)
   | (with_reducible exact ih3 _ _ _ _ _ _ _ _ _ _ _ _)
   | (with_reducible exact ih4 _ _ _ _)
   | (with_reducible exact ih5 _ _ _ _ _ _)
   | (with_reducible exact LeO.refl _)
   | (with_reducible exact LeO.none _)
   | (with_reducible refine LeO.ite ?_ ?_)
   | (with_reducible refine LeO.bind ?_ (fun _ => ?_))
   | exact ih0 _ _ _ _ _
   | exact ih1 _ _ _ _ _ _ _ _ _ _ _ _ _
   | exact ih2 _ _ _ _ _ _ _ _ _ _ _ _
   | exact ih3 _ _ _ _ _ _ _ _ _ _ _ _
   | exact ih4 _ _ _ _
   | exact ih5 _ _ _ _ _ _
   | exact LeO.none _
   | refine LeO.ite ?_ ?_
   | refine LeO.bind ?_ (fun _ => ?_)
  ·intro y0 y1 y2 y3
   unfold davitref07_Next.j4
   repeat' first
   | (with_reducible exact ih0 _ _ _ _ _)
   | (with_reducible exact ih1 _ _ _ _ _ _ _ _ _ _ _ _ _)
   | (with_reducible exact ih2 _ _ _ _ _ _ _ _ _ _ _ _)
   | (with_reducible exact ih3 _ _ _ _ _ _ _ _ _ _ _ _)
   | (with_reducible exact ih4 _ _ _ _)
   | (with_reducible exact ih5 _ _ _ _ _ _)
   | (with_reducible exact LeO.refl _)
   | (with_reducible exact LeO.none _)
   | (with_reducible refine LeO.ite ?_ ?_)
   | (with_reducible refine LeO.bind ?_ (fun _ => ?_))
   | exact ih0 _ _ _ _ _
   | exact ih1 _ _ _ _ _ _ _ _ _ _ _ _ _
   | exact ih2 _ _ _ _ _ _ _ _ _ _ _ _
   | exact ih3 _ _ _ _ _ _ _ _ _ _ _ _
   | exact ih4 _ _ _ _
   | exact ih5 _ _ _ _ _ _
   | exact LeO.none _
   | refine LeO.ite ?_ ?_
   | refine LeO.bind ?_ (fun _ => ?_)
  ·intro y0 y1 y2 y3 y4 y5
   unfold davitref07_Next.l0
   repeat' first
   | (with_reducible exact ih0 _ _ _ _ _)
   | (with_reducible exact ih1 _ _ _ _ _ _ _ _ _ _ _ _ _)
   | (with_reducible exact ih2 _ _ _ _ _ _ _ _ _ _ _ _)
   | (with_reducible exact ih3 _ _ _ _ _ _ _ _ _ _ _ _)
   | (with_reducible exact ih4 _ _ _ _)
   | (with_reducible exact ih5 _ _ _ _ _ _)
   | (with_reducible exact LeO.refl _)
   | (with_reducible exact LeO.none _)
   | (with_reducible refine LeO.ite ?_ ?_)
   | (with_reducible refine LeO.bind ?_ (fun _ => ?_))
   | exact ih0 _ _ _ _ _
   | exact ih1 _ _ _ _ _ _ _ _ _ _ _ _ _
   | exact ih2 _ _ _ _ _ _ _ _ _ _ _ _
   | exact ih3 _ _ _ _ _ _ _ _ _ _ _ _
   | exact ih4 _ _ _ _
   | exact ih5 _ _ _ _ _ _
   | exact LeO.none _
   | refine LeO.ite ?_ ?_
   | refine LeO.bind ?_ (fun _ => ?_)
theorem davitref07_Next.mono : ∀ a0 a1 a2 a3 k, LeO (davitref07_Next.f k a0 a1 a2 a3) (davitref07_Next.f (k + 1) a0 a1 a2 a3) := by
 intro a0 a1 a2 a3 k
 obtain ⟨ih0, ih1, ih2, ih3, ih4, ih5⟩ := davitref07_Next.mono_l k
 unfold davitref07_Next.f
 repeat' first
   | (with_reducible exact ih0 _ _ _ _ _)
   | (with_reducible exact ih1 _ _ _ _ _ _ _ _ _ _ _ _ _)
   | (with_reducible exact ih2 _ _ _ _ _ _ _ _ _ _ _ _)
   | (with_reducible exact ih3 _ _ _ _ _ _ _ _ _ _ _ _)
   | (with_reducible exact ih4 _ _ _ _)
   | (with_reducible exact ih5 _ _ _ _ _ _)
   | (with_reducible exact LeO.refl _)
   | (with_reducible exact LeO.none _)
   | (with_reducible refine LeO.ite ?_ ?_)
   | (with_reducible refine LeO.bind ?_ (fun _ => ?_))
   | exact ih0 _ _ _ _ _
   | exact ih1 _ _ _ _ _ _ _ _ _ _ _ _ _
   | exact ih2 _ _ _ _ _ _ _ _ _ _ _ _
   | exact ih3 _ _ _ _ _ _ _ _ _ _ _ _
   | exact ih4 _ _ _ _
   | exact ih5 _ _ _ _ _ _
   | exact LeO.none _
   | refine LeO.ite ?_ ?_
   | refine LeO.bind ?_ (fun _ => ?_)
set_option maxHeartbeats 8000000 in
set_option maxRecDepth 100000 in
theorem davitref07_Next.calls (k : Nat) (a0_0 : Int) (a0_1 : Int) (A0_2 : Option Addr) (c0_2 : Nat) (l0_2 : List (S50)) (a1 : Int) (r : List Int) (w : World) (hr0_2 : Kd.C k50 w A0_2 l0_2.length l0_2) (hc0_2 : l0_2.length ≤ c0_2) (h : davitref07_Next.f k a0_0 a0_1 l0_2 a1 = some r) :
  Calls Try.prog 33 #[.agg #[.int .i64 a0_0, .int .i64 a0_1, .slice A0_2 l0_2.length c0_2], .int .i64 a1] w fun e w' => ∃ v0_ : Value, e = .returned (v0_) ∧ Kd.R (Kd.int .i64) 3 w' w.heap.size (fun _ => True) v0_ r ∧ Below w.heap.size w w' := by
 have hu24 := Try.underlying24
 have hu44 := Try.underlying44
 have HR0_2 := Aside0.mk hr0_2
 have HC0_2 := Aside0.mk hc0_2
 clear hr0_2 hc0_2
 have HB := Aside0.mk (Below.refl w.heap.size w)
 have H : (if a1 < 0 then (davitref07_Next.j0 k a1 true a0_0 a0_1 l0_2) else (davitref07_Next.j0 k a1 (decide (a1 ≥ (l0_2.length : Int))) a0_0 a0_1 l0_2)) = some r := h
 clear h
 have HC3 := Aside0.mk H
 clear H
 go_enter Try.func33, Try.ntmps33
 go_upto_region 1 with (first | ((with_reducible refine gate_dst (N := 2) rfl ?_); (try (refine gate_guard (by rfl) ?_; dsimp only)); refine box_event ?hg (N := 2) ?hd (cs := #[.int .i64 a0_0, .int .i64 a0_1, .slice A0_2 l0_2.length c0_2]) (t := 24) ?hr ?_; (case hd => rfl); (case hg => rfl); (case hr => first | (go_simp; done) | (go_simp; rfl)); intro gb150 hg w4 hbox hb; have n0_ := Aside0.mk (below_step (by repeat (first | (with_reducible first | exact HB.out | apply below_alloc | apply pw_below_drewN | apply below_drew1) | exact HB.out)) hb); have n1_ := Aside0.mk (hbox); have n2_ := Aside0.mk ((by rw [hg]; exact (below_size (by repeat (first | (with_reducible first | exact HB.out | apply below_alloc | apply pw_below_drewN | apply below_drew1) | exact HB.out))) : w.heap.size ≤ gb150)); have n3_ := Aside0.mk ((by rw [hg]; exact (below_size (by repeat (first | (with_reducible first | exact HB.out | apply below_alloc | apply pw_below_drewN | apply below_drew1) | exact HB.out))) : w.heap.size ≤ gb150)); clear HB; have HB := n0_; have BK150 := n1_; have GW150 := n2_; have GE150 := n3_; clear n0_ n1_ n2_ n3_; clear hb hbox hg))
 repeat (go_quiet (first | ((with_reducible refine gate_dst (N := 2) rfl ?_); (try (refine gate_guard (by rfl) ?_; dsimp only)); refine box_event ?hg (N := 2) ?hd (cs := #[.int .i64 a0_0, .int .i64 a0_1, .slice A0_2 l0_2.length c0_2]) (t := 24) ?hr ?_; (case hd => rfl); (case hg => rfl); (case hr => first | (go_simp; done) | (go_simp; rfl)); intro gb150 hg w4 hbox hb; have n0_ := Aside0.mk (below_step (by repeat (first | (with_reducible first | exact HB.out | apply below_alloc | apply pw_below_drewN | apply below_drew1) | exact HB.out)) hb); have n1_ := Aside0.mk (hbox); have n2_ := Aside0.mk ((by rw [hg]; exact (below_size (by repeat (first | (with_reducible first | exact HB.out | apply below_alloc | apply pw_below_drewN | apply below_drew1) | exact HB.out))) : w.heap.size ≤ gb150)); have n3_ := Aside0.mk ((by rw [hg]; exact (below_size (by repeat (first | (with_reducible first | exact HB.out | apply below_alloc | apply pw_below_drewN | apply below_drew1) | exact HB.out))) : w.heap.size ≤ gb150)); clear HB; have HB := n0_; have BK150 := n1_; have GW150 := n2_; have GE150 := n3_; clear n0_ n1_ n2_ n3_; clear hb hbox hg)); go_upto_region 1 with (first | ((with_reducible refine gate_dst (N := 2) rfl ?_); (try (refine gate_guard (by rfl) ?_; dsimp only)); refine box_event ?hg (N := 2) ?hd (cs := #[.int .i64 a0_0, .int .i64 a0_1, .slice A0_2 l0_2.length c0_2]) (t := 24) ?hr ?_; (case hd => rfl); (case hg => rfl); (case hr => first | (go_simp; done) | (go_simp; rfl)); intro gb150 hg w4 hbox hb; have n0_ := Aside0.mk (below_step (by repeat (first | (with_reducible first | exact HB.out | apply below_alloc | apply pw_below_drewN | apply below_drew1) | exact HB.out)) hb); have n1_ := Aside0.mk (hbox); have n2_ := Aside0.mk ((by rw [hg]; exact (below_size (by repeat (first | (with_reducible first | exact HB.out | apply below_alloc | apply pw_below_drewN | apply below_drew1) | exact HB.out))) : w.heap.size ≤ gb150)); have n3_ := Aside0.mk ((by rw [hg]; exact (below_size (by repeat (first | (with_reducible first | exact HB.out | apply below_alloc | apply pw_below_drewN | apply below_drew1) | exact HB.out))) : w.heap.size ≤ gb150)); clear HB; have HB := n0_; have BK150 := n1_; have GW150 := n2_; have GE150 := n3_; clear n0_ n1_ n2_ n3_; clear hb hbox hg)))
 (try simp only [Act.put, List.setIfInBounds_toArray, List.set_cons_zero, List.set_cons_succ])
 go_cut [17] (fun v17 wc => ∃ (kq : Nat) (x17_2 : Bool), v17 = .bool x17_2 ∧ Aside0 (davitref07_Next.j0 kq a1 x17_2 a0_0 a0_1 l0_2 = some r) ∧ Aside0 (kq ≤ k) ∧ Aside0 (wc.heap[gb150]? = some (.cells #[.int .i64 a0_0, .int .i64 a0_1, (.slice A0_2 l0_2.length c0_2)] 24 (0, 0))) ∧ Aside0 (Below w.heap.size w wc))
 case first =>
  have H := HC3.out
  clear HC3
  by_cases c5 : a1 < 0
  ·rw [if_pos c5] at H
   have c5b0 : decide (a1 < 0) = true := decide_eq_true c5
   clear c5
   (first | rw [c5b0] | (simp only [i64_w, i32_w]; rw [c5b0]) | skip)
   have H' := Aside0.mk H
   clear H
   go_wp2
   repeat (go_quiet (fail); try go_wp2)
   go_meet
   case rel => exact ⟨_, (true), (by first | rfl | (simp; done) | (simp [*]; done)), H', ⟨by first | omega | exact Nat.le_refl _⟩, ⟨by (with_reducible repeat (first | refine blk_drewN ?_ _ | refine blk_drew ?_ | refine blk_alloc ?_ _)); exact BK150.out⟩, ⟨by repeat (first | (with_reducible first | exact HB.out | apply below_alloc | apply pw_below_drewN | apply below_drew1 | refine below_set ?_ GE150.out) | exact HB.out)⟩⟩
  ·rw [if_neg c5] at H
   have c5b0 : decide (a1 < 0) = false := decide_eq_false c5
   clear c5
   (first | rw [c5b0] | (simp only [i64_w, i32_w]; rw [c5b0]) | skip)
   have H' := Aside0.mk H
   clear H
   have hcz6_0 : w4.cell? ⟨gb150, 0, none⟩ = some (.int .i64 a0_0) := (blk_cell BK150.out 0).trans rfl
   have hcz6_1 : w4.cell? ⟨gb150, 1, none⟩ = some (.int .i64 a0_1) := (blk_cell BK150.out 1).trans rfl
   have hcz6_2 : w4.cell? ⟨gb150, 2, none⟩ = some (.slice A0_2 l0_2.length c0_2) := (blk_cell BK150.out 2).trans rfl
   have hfz6_0 := blk_frozen BK150.out 0
   have hfz6_1 := blk_frozen BK150.out 1
   have hfz6_2 := blk_frozen BK150.out 2
   go_wp2
   repeat (go_quiet (fail); try go_wp2)
   go_meet
   case rel => exact ⟨_, (decide (a1 ≥ (l0_2.length : Int))), (by first | rfl | (simp; done) | (simp [*]; done)), H', ⟨by first | omega | exact Nat.le_refl _⟩, ⟨by (with_reducible repeat (first | refine blk_drewN ?_ _ | refine blk_drew ?_ | refine blk_alloc ?_ _)); exact BK150.out⟩, ⟨by repeat (first | (with_reducible first | exact HB.out | apply below_alloc | apply pw_below_drewN | apply below_drew1 | refine below_set ?_ GE150.out) | exact HB.out)⟩⟩
 case rest =>
  clear HC3
  try clear p2
  try clear c3
  try clear c5
  try clear c5b0
  try clear hcz6_0
  try clear hcz6_1
  try clear hcz6_2
  try clear hfz6_0
  try clear hfz6_1
  try clear hfz6_2
  obtain ⟨kq, x17_2, rfl, HA, HJ2, BK150, HB⟩ := hcut
  cases kq with
  | zero => exact absurd HA.out (by simp [davitref07_Next.j0])
  | succ kj2 =>
   have H := HA.out
   clear HA
   simp only [davitref07_Next.j0] at H
   by_cases c7 : x17_2 = true
   ·subst c7
    have H1 : (some ([] : List Int)) = some r := by rw [if_pos rfl] at H; exact H
    clear H
    have H := H1
    clear H1
    obtain rfl := Option.some.inj H
    go_wp2
    repeat (go_quiet (fail); try go_wp2)
    go_ret
    exact ⟨_, by first | rfl | (simp [errW_none, errW_some] <;> rfl) | (simp [*, errW_none, errW_some] <;> rfl), by first | exact Kd.R_nil _ _ _ _ _ | exact Kd.N_nil _ _ _ _ _ | exact Kd.V_nil _ _ _ _ _ | exact Kd.Q_nil _ _ _ _ _ | exact Kd.S_nil _ _ _ _ _, by repeat (first | (with_reducible first | exact HB.out | apply below_alloc | apply pw_below_drewN | apply below_drew1 | refine below_set ?_ GE150.out) | exact HB.out)⟩
   ·replace c7 := Bool.eq_false_iff.mpr c7
    subst c7
    have H1 : (if 0 ≤ a1 then (if a1 < (l0_2.length : Int) then (if ((rd_T50 l0_2 a1).f3.f0) = 2 then (davitref07_Next.j1 kj2 ([] : List Int) true a0_0 a0_1 l0_2 ((rd_T50 l0_2 a1).f3.f0) ((rd_T50 l0_2 a1).f3.f1) ((rd_T50 l0_2 a1).f3.f2) ((rd_T50 l0_2 a1).f3.f3) ((rd_T50 l0_2 a1).f3.f4) ((rd_T50 l0_2 a1).f3.f5) ((rd_T50 l0_2 a1).f3.f6) ((rd_T50 l0_2 a1).f3.f7)) else (if ((rd_T50 l0_2 a1).f3.f0) = 3 then (davitref07_Next.j1 kj2 ([] : List Int) true a0_0 a0_1 l0_2 ((rd_T50 l0_2 a1).f3.f0) ((rd_T50 l0_2 a1).f3.f1) ((rd_T50 l0_2 a1).f3.f2) ((rd_T50 l0_2 a1).f3.f3) ((rd_T50 l0_2 a1).f3.f4) ((rd_T50 l0_2 a1).f3.f5) ((rd_T50 l0_2 a1).f3.f6) ((rd_T50 l0_2 a1).f3.f7)) else (davitref07_Next.j1 kj2 ([] : List Int) (((rd_T50 l0_2 a1).f3.f0) == 4) a0_0 a0_1 l0_2 ((rd_T50 l0_2 a1).f3.f0) ((rd_T50 l0_2 a1).f3.f1) ((rd_T50 l0_2 a1).f3.f2) ((rd_T50 l0_2 a1).f3.f3) ((rd_T50 l0_2 a1).f3.f4) ((rd_T50 l0_2 a1).f3.f5) ((rd_T50 l0_2 a1).f3.f6) ((rd_T50 l0_2 a1).f3.f7)))) else (none)) else (none)) = some r := by rw [if_neg (show ¬ (false = true) by decide)] at H; exact H
    clear H
    have H := H1
    clear H1
    by_cases c8 : 0 ≤ a1
    ·rw [if_pos c8] at H
     have c8b0 : decide (0 ≤ a1) = true := decide_eq_true c8
     clear c8
     by_cases c9 : a1 < (l0_2.length : Int)
     ·rw [if_pos c9] at H
      have c9b0 : decide (a1 < (l0_2.length : Int)) = true := decide_eq_true c9
      clear c9
      have HC10 := Aside0.mk H
      clear H
      have hcz11_0 : wc.cell? ⟨gb150, 0, none⟩ = some (.int .i64 a0_0) := (blk_cell BK150.out 0).trans rfl
      have hcz11_1 : wc.cell? ⟨gb150, 1, none⟩ = some (.int .i64 a0_1) := (blk_cell BK150.out 1).trans rfl
      have hcz11_2 : wc.cell? ⟨gb150, 2, none⟩ = some (.slice A0_2 l0_2.length c0_2) := (blk_cell BK150.out 2).trans rfl
      have hfz11_0 := blk_frozen BK150.out 0
      have hfz11_1 := blk_frozen BK150.out 1
      have hfz11_2 := blk_frozen BK150.out 2
      have p151 : 0 ≤ (a1 : Int) := of_decide_eq_true (by first | (with_reducible assumption) | assumption)
      have q151 : a1 < (l0_2.length : Int) := of_decide_eq_true (by first | (with_reducible assumption) | assumption)
      obtain ⟨ad151, A151_2, c151_2, A151_5, c151_5, A151_10, c151_10, e151, hx151_0, hx151_1, hx151_2, hx151_3, hx151_4, hx151_5, hx151_6, hx151_7, hx151_8, hx151_9, hx151_10, hx151_11, hx151_12, hx151_13, hl151_2, hi151_2, hl151_5, hi151_5, hl151_10, hi151_10⟩ := at_T50 HR0_2.out a1 p151 q151
      cases e151
      replace hx151_0 := (HB.out.cell (World.block_lt_of_cell? w _ hx151_0)).trans hx151_0
      replace hx151_1 := (HB.out.cell (World.block_lt_of_cell? w _ hx151_1)).trans hx151_1
      replace hx151_2 := (HB.out.cell (World.block_lt_of_cell? w _ hx151_2)).trans hx151_2
      replace hx151_3 := (HB.out.cell (World.block_lt_of_cell? w _ hx151_3)).trans hx151_3
      replace hx151_4 := (HB.out.cell (World.block_lt_of_cell? w _ hx151_4)).trans hx151_4
      replace hx151_5 := (HB.out.cell (World.block_lt_of_cell? w _ hx151_5)).trans hx151_5
      replace hx151_6 := (HB.out.cell (World.block_lt_of_cell? w _ hx151_6)).trans hx151_6
      replace hx151_7 := (HB.out.cell (World.block_lt_of_cell? w _ hx151_7)).trans hx151_7
      replace hx151_8 := (HB.out.cell (World.block_lt_of_cell? w _ hx151_8)).trans hx151_8
      replace hx151_9 := (HB.out.cell (World.block_lt_of_cell? w _ hx151_9)).trans hx151_9
      replace hx151_10 := (HB.out.cell (World.block_lt_of_cell? w _ hx151_10)).trans hx151_10
      replace hx151_11 := (HB.out.cell (World.block_lt_of_cell? w _ hx151_11)).trans hx151_11
      replace hx151_12 := (HB.out.cell (World.block_lt_of_cell? w _ hx151_12)).trans hx151_12
      replace hx151_13 := (HB.out.cell (World.block_lt_of_cell? w _ hx151_13)).trans hx151_13
      have HR151_2 := Aside0.mk hi151_2
      have HC151_2 := Aside0.mk hl151_2
      clear hi151_2 hl151_2
      have HR151_5 := Aside0.mk hi151_5
      have HC151_5 := Aside0.mk hl151_5
      clear hi151_5 hl151_5
      have HR151_10 := Aside0.mk hi151_10
      have HC151_10 := Aside0.mk hl151_10
      clear hi151_10 hl151_10
      replace p151 := eq_true p151
      replace q151 := eq_true q151
      go_upto_region 5 with (first | ((with_reducible refine gate_dst (N := 5) rfl ?_); (try (refine gate_guard (by rfl) ?_; dsimp only)); refine box_event ?hg (N := 5) ?hd (cs := #[.int .i64 0, .int .i64 0, .int .i64 0, .int .i64 0, .slice none 0 0, .int .i64 0, .int .i64 0, .int .i64 0]) (t := 44) ?hr ?_; (case hd => rfl); (case hg => rfl); (case hr => first | (go_simp; done) | (go_simp; rfl)); intro gb152 hg w12 hbox hb; have n0_ := Aside0.mk (blk_below (g := gb150) (o := .cells #[.int .i64 a0_0, .int .i64 a0_1, .slice (some ad151) l0_2.length c0_2] 24 (0, 0)) (by (with_reducible repeat (first | refine blk_drewN ?_ _ | refine blk_drew ?_ | refine blk_alloc ?_ _)); exact BK150.out) hb); have n1_ := Aside0.mk (below_step (by repeat (first | (with_reducible first | exact HB.out | apply below_alloc | apply pw_below_drewN | apply below_drew1 | refine below_set ?_ GE150.out) | exact HB.out)) hb); have n2_ := Aside0.mk (hbox); have n3_ := Aside0.mk ((by rw [hg]; exact (below_size (by repeat (first | (with_reducible first | exact HB.out | apply below_alloc | apply pw_below_drewN | apply below_drew1 | refine below_set ?_ GE150.out) | exact HB.out))) : w.heap.size ≤ gb152)); have n4_ := Aside0.mk ((by rw [hg]; exact (below_size (by repeat (first | (with_reducible first | exact HB.out | apply below_alloc | apply pw_below_drewN | apply below_drew1 | refine below_set ?_ GE150.out) | exact HB.out))) : w.heap.size ≤ gb152)); have n5_ := Aside0.mk ((by rw [hg]; exact Nat.ne_of_lt (blk_lt (g := gb150) (o := .cells #[.int .i64 a0_0, .int .i64 a0_1, .slice (some ad151) l0_2.length c0_2] 24 (0, 0)) (by (with_reducible repeat (first | refine blk_drewN ?_ _ | refine blk_drew ?_ | refine blk_alloc ?_ _)); exact BK150.out)) : gb150 ≠ gb152)); have n6_ := Aside0.mk ((by rw [hg]; exact Nat.ne_of_gt (blk_lt (g := gb150) (o := .cells #[.int .i64 a0_0, .int .i64 a0_1, .slice (some ad151) l0_2.length c0_2] 24 (0, 0)) (by (with_reducible repeat (first | refine blk_drewN ?_ _ | refine blk_drew ?_ | refine blk_alloc ?_ _)); exact BK150.out)) : gb152 ≠ gb150)); clear BK150; clear HB; have BK150 := n0_; have HB := n1_; have BK152 := n2_; have GW152 := n3_; have GE152 := n4_; have NB150_152 := n5_; have NB152_150 := n6_; clear n0_ n1_ n2_ n3_ n4_ n5_ n6_; clear hb hbox hg; have hnb13 := NB152_150.out; have hnc13 := NB150_152.out; have hcz14_0 : w12.cell? ⟨gb152, 0, none⟩ = some (.int .i64 0) := (blk_cell BK152.out 0).trans rfl; have hcz14_1 : w12.cell? ⟨gb152, 1, none⟩ = some (.int .i64 0) := (blk_cell BK152.out 1).trans rfl; have hcz14_2 : w12.cell? ⟨gb152, 2, none⟩ = some (.int .i64 0) := (blk_cell BK152.out 2).trans rfl; have hcz14_3 : w12.cell? ⟨gb152, 3, none⟩ = some (.int .i64 0) := (blk_cell BK152.out 3).trans rfl; have hcz14_4 : w12.cell? ⟨gb152, 4, none⟩ = some (.slice none 0 0) := (blk_cell BK152.out 4).trans rfl; have hcz14_5 : w12.cell? ⟨gb152, 5, none⟩ = some (.int .i64 0) := (blk_cell BK152.out 5).trans rfl; have hcz14_6 : w12.cell? ⟨gb152, 6, none⟩ = some (.int .i64 0) := (blk_cell BK152.out 6).trans rfl; have hcz14_7 : w12.cell? ⟨gb152, 7, none⟩ = some (.int .i64 0) := (blk_cell BK152.out 7).trans rfl; have hfz14_0 := blk_frozen BK152.out 0; have hfz14_1 := blk_frozen BK152.out 1; have hfz14_2 := blk_frozen BK152.out 2; have hfz14_3 := blk_frozen BK152.out 3; have hfz14_4 := blk_frozen BK152.out 4; have hfz14_5 := blk_frozen BK152.out 5; have hfz14_6 := blk_frozen BK152.out 6; have hfz14_7 := blk_frozen BK152.out 7))
      repeat (go_quiet (first | ((with_reducible refine gate_dst (N := 5) rfl ?_); (try (refine gate_guard (by rfl) ?_; dsimp only)); refine box_event ?hg (N := 5) ?hd (cs := #[.int .i64 0, .int .i64 0, .int .i64 0, .int .i64 0, .slice none 0 0, .int .i64 0, .int .i64 0, .int .i64 0]) (t := 44) ?hr ?_; (case hd => rfl); (case hg => rfl); (case hr => first | (go_simp; done) | (go_simp; rfl)); intro gb152 hg w12 hbox hb; have n0_ := Aside0.mk (blk_below (g := gb150) (o := .cells #[.int .i64 a0_0, .int .i64 a0_1, .slice (some ad151) l0_2.length c0_2] 24 (0, 0)) (by (with_reducible repeat (first | refine blk_drewN ?_ _ | refine blk_drew ?_ | refine blk_alloc ?_ _)); exact BK150.out) hb); have n1_ := Aside0.mk (below_step (by repeat (first | (with_reducible first | exact HB.out | apply below_alloc | apply pw_below_drewN | apply below_drew1 | refine below_set ?_ GE150.out) | exact HB.out)) hb); have n2_ := Aside0.mk (hbox); have n3_ := Aside0.mk ((by rw [hg]; exact (below_size (by repeat (first | (with_reducible first | exact HB.out | apply below_alloc | apply pw_below_drewN | apply below_drew1 | refine below_set ?_ GE150.out) | exact HB.out))) : w.heap.size ≤ gb152)); have n4_ := Aside0.mk ((by rw [hg]; exact (below_size (by repeat (first | (with_reducible first | exact HB.out | apply below_alloc | apply pw_below_drewN | apply below_drew1 | refine below_set ?_ GE150.out) | exact HB.out))) : w.heap.size ≤ gb152)); have n5_ := Aside0.mk ((by rw [hg]; exact Nat.ne_of_lt (blk_lt (g := gb150) (o := .cells #[.int .i64 a0_0, .int .i64 a0_1, .slice (some ad151) l0_2.length c0_2] 24 (0, 0)) (by (with_reducible repeat (first | refine blk_drewN ?_ _ | refine blk_drew ?_ | refine blk_alloc ?_ _)); exact BK150.out)) : gb150 ≠ gb152)); have n6_ := Aside0.mk ((by rw [hg]; exact Nat.ne_of_gt (blk_lt (g := gb150) (o := .cells #[.int .i64 a0_0, .int .i64 a0_1, .slice (some ad151) l0_2.length c0_2] 24 (0, 0)) (by (with_reducible repeat (first | refine blk_drewN ?_ _ | refine blk_drew ?_ | refine blk_alloc ?_ _)); exact BK150.out)) : gb152 ≠ gb150)); clear BK150; clear HB; have BK150 := n0_; have HB := n1_; have BK152 := n2_; have GW152 := n3_; have GE152 := n4_; have NB150_152 := n5_; have NB152_150 := n6_; clear n0_ n1_ n2_ n3_ n4_ n5_ n6_; clear hb hbox hg; have hnb13 := NB152_150.out; have hnc13 := NB150_152.out; have hcz14_0 : w12.cell? ⟨gb152, 0, none⟩ = some (.int .i64 0) := (blk_cell BK152.out 0).trans rfl; have hcz14_1 : w12.cell? ⟨gb152, 1, none⟩ = some (.int .i64 0) := (blk_cell BK152.out 1).trans rfl; have hcz14_2 : w12.cell? ⟨gb152, 2, none⟩ = some (.int .i64 0) := (blk_cell BK152.out 2).trans rfl; have hcz14_3 : w12.cell? ⟨gb152, 3, none⟩ = some (.int .i64 0) := (blk_cell BK152.out 3).trans rfl; have hcz14_4 : w12.cell? ⟨gb152, 4, none⟩ = some (.slice none 0 0) := (blk_cell BK152.out 4).trans rfl; have hcz14_5 : w12.cell? ⟨gb152, 5, none⟩ = some (.int .i64 0) := (blk_cell BK152.out 5).trans rfl; have hcz14_6 : w12.cell? ⟨gb152, 6, none⟩ = some (.int .i64 0) := (blk_cell BK152.out 6).trans rfl; have hcz14_7 : w12.cell? ⟨gb152, 7, none⟩ = some (.int .i64 0) := (blk_cell BK152.out 7).trans rfl; have hfz14_0 := blk_frozen BK152.out 0; have hfz14_1 := blk_frozen BK152.out 1; have hfz14_2 := blk_frozen BK152.out 2; have hfz14_3 := blk_frozen BK152.out 3; have hfz14_4 := blk_frozen BK152.out 4; have hfz14_5 := blk_frozen BK152.out 5; have hfz14_6 := blk_frozen BK152.out 6; have hfz14_7 := blk_frozen BK152.out 7)); go_upto_region 5 with (first | ((with_reducible refine gate_dst (N := 5) rfl ?_); (try (refine gate_guard (by rfl) ?_; dsimp only)); refine box_event ?hg (N := 5) ?hd (cs := #[.int .i64 0, .int .i64 0, .int .i64 0, .int .i64 0, .slice none 0 0, .int .i64 0, .int .i64 0, .int .i64 0]) (t := 44) ?hr ?_; (case hd => rfl); (case hg => rfl); (case hr => first | (go_simp; done) | (go_simp; rfl)); intro gb152 hg w12 hbox hb; have n0_ := Aside0.mk (blk_below (g := gb150) (o := .cells #[.int .i64 a0_0, .int .i64 a0_1, .slice (some ad151) l0_2.length c0_2] 24 (0, 0)) (by (with_reducible repeat (first | refine blk_drewN ?_ _ | refine blk_drew ?_ | refine blk_alloc ?_ _)); exact BK150.out) hb); have n1_ := Aside0.mk (below_step (by repeat (first | (with_reducible first | exact HB.out | apply below_alloc | apply pw_below_drewN | apply below_drew1 | refine below_set ?_ GE150.out) | exact HB.out)) hb); have n2_ := Aside0.mk (hbox); have n3_ := Aside0.mk ((by rw [hg]; exact (below_size (by repeat (first | (with_reducible first | exact HB.out | apply below_alloc | apply pw_below_drewN | apply below_drew1 | refine below_set ?_ GE150.out) | exact HB.out))) : w.heap.size ≤ gb152)); have n4_ := Aside0.mk ((by rw [hg]; exact (below_size (by repeat (first | (with_reducible first | exact HB.out | apply below_alloc | apply pw_below_drewN | apply below_drew1 | refine below_set ?_ GE150.out) | exact HB.out))) : w.heap.size ≤ gb152)); have n5_ := Aside0.mk ((by rw [hg]; exact Nat.ne_of_lt (blk_lt (g := gb150) (o := .cells #[.int .i64 a0_0, .int .i64 a0_1, .slice (some ad151) l0_2.length c0_2] 24 (0, 0)) (by (with_reducible repeat (first | refine blk_drewN ?_ _ | refine blk_drew ?_ | refine blk_alloc ?_ _)); exact BK150.out)) : gb150 ≠ gb152)); have n6_ := Aside0.mk ((by rw [hg]; exact Nat.ne_of_gt (blk_lt (g := gb150) (o := .cells #[.int .i64 a0_0, .int .i64 a0_1, .slice (some ad151) l0_2.length c0_2] 24 (0, 0)) (by (with_reducible repeat (first | refine blk_drewN ?_ _ | refine blk_drew ?_ | refine blk_alloc ?_ _)); exact BK150.out)) : gb152 ≠ gb150)); clear BK150; clear HB; have BK150 := n0_; have HB := n1_; have BK152 := n2_; have GW152 := n3_; have GE152 := n4_; have NB150_152 := n5_; have NB152_150 := n6_; clear n0_ n1_ n2_ n3_ n4_ n5_ n6_; clear hb hbox hg; have hnb13 := NB152_150.out; have hnc13 := NB150_152.out; have hcz14_0 : w12.cell? ⟨gb152, 0, none⟩ = some (.int .i64 0) := (blk_cell BK152.out 0).trans rfl; have hcz14_1 : w12.cell? ⟨gb152, 1, none⟩ = some (.int .i64 0) := (blk_cell BK152.out 1).trans rfl; have hcz14_2 : w12.cell? ⟨gb152, 2, none⟩ = some (.int .i64 0) := (blk_cell BK152.out 2).trans rfl; have hcz14_3 : w12.cell? ⟨gb152, 3, none⟩ = some (.int .i64 0) := (blk_cell BK152.out 3).trans rfl; have hcz14_4 : w12.cell? ⟨gb152, 4, none⟩ = some (.slice none 0 0) := (blk_cell BK152.out 4).trans rfl; have hcz14_5 : w12.cell? ⟨gb152, 5, none⟩ = some (.int .i64 0) := (blk_cell BK152.out 5).trans rfl; have hcz14_6 : w12.cell? ⟨gb152, 6, none⟩ = some (.int .i64 0) := (blk_cell BK152.out 6).trans rfl; have hcz14_7 : w12.cell? ⟨gb152, 7, none⟩ = some (.int .i64 0) := (blk_cell BK152.out 7).trans rfl; have hfz14_0 := blk_frozen BK152.out 0; have hfz14_1 := blk_frozen BK152.out 1; have hfz14_2 := blk_frozen BK152.out 2; have hfz14_3 := blk_frozen BK152.out 3; have hfz14_4 := blk_frozen BK152.out 4; have hfz14_5 := blk_frozen BK152.out 5; have hfz14_6 := blk_frozen BK152.out 6; have hfz14_7 := blk_frozen BK152.out 7)))
      (try simp only [Act.put, List.setIfInBounds_toArray, List.set_cons_zero, List.set_cons_succ])
      go_cut [36] (fun v36 wc => ∃ (kq : Nat) (x36_9 : Bool), v36 = .bool x36_9 ∧ Aside0 (davitref07_Next.j1 kq ([] : List Int) x36_9 a0_0 a0_1 l0_2 ((rd_T50 l0_2 a1).f3.f0) ((rd_T50 l0_2 a1).f3.f1) ((rd_T50 l0_2 a1).f3.f2) ((rd_T50 l0_2 a1).f3.f3) ((rd_T50 l0_2 a1).f3.f4) ((rd_T50 l0_2 a1).f3.f5) ((rd_T50 l0_2 a1).f3.f6) ((rd_T50 l0_2 a1).f3.f7) = some r) ∧ Aside0 (kq ≤ kj2) ∧ Aside0 (Kd.R (Kd.int .i64) 3 wc w.heap.size (fun _ => True) (.slice none 0 0) ([] : List Int)) ∧ Aside0 (wc.heap[gb150]? = some (.cells #[.int .i64 a0_0, .int .i64 a0_1, (.slice (some ad151) l0_2.length c0_2)] 24 (0, 0))) ∧ Aside0 (wc.heap[gb152]? = some (.cells #[.int .i64 ((rd_T50 l0_2 a1).f3.f0), .int .i64 ((rd_T50 l0_2 a1).f3.f1), .int .i64 ((rd_T50 l0_2 a1).f3.f2), .int .i64 ((rd_T50 l0_2 a1).f3.f3), (.slice A151_10 ((rd_T50 l0_2 a1).f3.f4).length c151_10), .int .i64 ((rd_T50 l0_2 a1).f3.f5), .int .i64 ((rd_T50 l0_2 a1).f3.f6), .int .i64 ((rd_T50 l0_2 a1).f3.f7)] 44 (0, 0))) ∧ Aside0 (Below w.heap.size w wc))
      case first =>
       have H := HC10.out
       clear HC10
       by_cases c15 : ((rd_T50 l0_2 a1).f3.f0) = 2
       ·rw [if_pos c15] at H
        have c15b0 : (((rd_T50 l0_2 a1).f3.f0) == 2) = true := beq_iff_eq.mpr c15
        have c15b1 : (((rd_T50 l0_2 a1).f3.f0) != 2) = false := bne_eq_false_iff_eq.mpr c15
        clear c15
        (first | rw [c15b0] | (simp only [i64_w, i32_w]; rw [c15b0]) | skip)
        have H' := Aside0.mk H
        clear H
        have hnb16 := NB152_150.out
        have hnc16 := NB150_152.out
        have hcz17_0 : w12.cell? ⟨gb152, 0, none⟩ = some (.int .i64 0) := (blk_cell BK152.out 0).trans rfl
        have hcz17_1 : w12.cell? ⟨gb152, 1, none⟩ = some (.int .i64 0) := (blk_cell BK152.out 1).trans rfl
        have hcz17_2 : w12.cell? ⟨gb152, 2, none⟩ = some (.int .i64 0) := (blk_cell BK152.out 2).trans rfl
        have hcz17_3 : w12.cell? ⟨gb152, 3, none⟩ = some (.int .i64 0) := (blk_cell BK152.out 3).trans rfl
        have hcz17_4 : w12.cell? ⟨gb152, 4, none⟩ = some (.slice none 0 0) := (blk_cell BK152.out 4).trans rfl
        have hcz17_5 : w12.cell? ⟨gb152, 5, none⟩ = some (.int .i64 0) := (blk_cell BK152.out 5).trans rfl
        have hcz17_6 : w12.cell? ⟨gb152, 6, none⟩ = some (.int .i64 0) := (blk_cell BK152.out 6).trans rfl
        have hcz17_7 : w12.cell? ⟨gb152, 7, none⟩ = some (.int .i64 0) := (blk_cell BK152.out 7).trans rfl
        have hfz17_0 := blk_frozen BK152.out 0
        have hfz17_1 := blk_frozen BK152.out 1
        have hfz17_2 := blk_frozen BK152.out 2
        have hfz17_3 := blk_frozen BK152.out 3
        have hfz17_4 := blk_frozen BK152.out 4
        have hfz17_5 := blk_frozen BK152.out 5
        have hfz17_6 := blk_frozen BK152.out 6
        have hfz17_7 := blk_frozen BK152.out 7
        go_wp2
        repeat (go_quiet (fail); try go_wp2)
        go_meet
        case rel => exact ⟨_, (true), (by first | rfl | (simp; done) | (simp [*]; done)), H', ⟨by have := HJ2.out; first | omega | exact Nat.le_refl _⟩, ⟨by first | exact Kd.R_nil _ _ _ _ _ | exact Kd.N_nil _ _ _ _ _ | exact Kd.V_nil _ _ _ _ _ | exact Kd.Q_nil _ _ _ _ _ | exact Kd.S_nil _ _ _ _ _⟩, ⟨by (with_reducible repeat (first | refine blk_drewN ?_ _ | refine blk_drew ?_ | refine blk_alloc ?_ _)); refine blk_far ?_ NB150_152.out _; (with_reducible repeat (first | refine blk_drewN ?_ _ | refine blk_drew ?_ | refine blk_alloc ?_ _)); refine blk_far ?_ NB150_152.out _; (with_reducible repeat (first | refine blk_drewN ?_ _ | refine blk_drew ?_ | refine blk_alloc ?_ _)); refine blk_far ?_ NB150_152.out _; (with_reducible repeat (first | refine blk_drewN ?_ _ | refine blk_drew ?_ | refine blk_alloc ?_ _)); refine blk_far ?_ NB150_152.out _; (with_reducible repeat (first | refine blk_drewN ?_ _ | refine blk_drew ?_ | refine blk_alloc ?_ _)); refine blk_far ?_ NB150_152.out _; (with_reducible repeat (first | refine blk_drewN ?_ _ | refine blk_drew ?_ | refine blk_alloc ?_ _)); refine blk_far ?_ NB150_152.out _; (with_reducible repeat (first | refine blk_drewN ?_ _ | refine blk_drew ?_ | refine blk_alloc ?_ _)); refine blk_far ?_ NB150_152.out _; (with_reducible repeat (first | refine blk_drewN ?_ _ | refine blk_drew ?_ | refine blk_alloc ?_ _)); refine blk_far ?_ NB150_152.out _; (with_reducible repeat (first | refine blk_drewN ?_ _ | refine blk_drew ?_ | refine blk_alloc ?_ _)); exact BK150.out⟩, ⟨by (with_reducible repeat (first | refine blk_drewN ?_ _ | refine blk_drew ?_ | refine blk_alloc ?_ _)); refine blk_put (cs := #[.int .i64 ((rd_T50 l0_2 a1).f3.f0), .int .i64 ((rd_T50 l0_2 a1).f3.f1), .int .i64 ((rd_T50 l0_2 a1).f3.f2), .int .i64 ((rd_T50 l0_2 a1).f3.f3), .slice A151_10 ((rd_T50 l0_2 a1).f3.f4).length c151_10, .int .i64 ((rd_T50 l0_2 a1).f3.f5), .int .i64 ((rd_T50 l0_2 a1).f3.f6), .int .i64 0]) ?_ 7 _ rfl; (with_reducible repeat (first | refine blk_drewN ?_ _ | refine blk_drew ?_ | refine blk_alloc ?_ _)); refine blk_put (cs := #[.int .i64 ((rd_T50 l0_2 a1).f3.f0), .int .i64 ((rd_T50 l0_2 a1).f3.f1), .int .i64 ((rd_T50 l0_2 a1).f3.f2), .int .i64 ((rd_T50 l0_2 a1).f3.f3), .slice A151_10 ((rd_T50 l0_2 a1).f3.f4).length c151_10, .int .i64 ((rd_T50 l0_2 a1).f3.f5), .int .i64 0, .int .i64 0]) ?_ 6 _ rfl; (with_reducible repeat (first | refine blk_drewN ?_ _ | refine blk_drew ?_ | refine blk_alloc ?_ _)); refine blk_put (cs := #[.int .i64 ((rd_T50 l0_2 a1).f3.f0), .int .i64 ((rd_T50 l0_2 a1).f3.f1), .int .i64 ((rd_T50 l0_2 a1).f3.f2), .int .i64 ((rd_T50 l0_2 a1).f3.f3), .slice A151_10 ((rd_T50 l0_2 a1).f3.f4).length c151_10, .int .i64 0, .int .i64 0, .int .i64 0]) ?_ 5 _ rfl; (with_reducible repeat (first | refine blk_drewN ?_ _ | refine blk_drew ?_ | refine blk_alloc ?_ _)); refine blk_put (cs := #[.int .i64 ((rd_T50 l0_2 a1).f3.f0), .int .i64 ((rd_T50 l0_2 a1).f3.f1), .int .i64 ((rd_T50 l0_2 a1).f3.f2), .int .i64 ((rd_T50 l0_2 a1).f3.f3), .slice none 0 0, .int .i64 0, .int .i64 0, .int .i64 0]) ?_ 4 _ rfl; (with_reducible repeat (first | refine blk_drewN ?_ _ | refine blk_drew ?_ | refine blk_alloc ?_ _)); refine blk_put (cs := #[.int .i64 ((rd_T50 l0_2 a1).f3.f0), .int .i64 ((rd_T50 l0_2 a1).f3.f1), .int .i64 ((rd_T50 l0_2 a1).f3.f2), .int .i64 0, .slice none 0 0, .int .i64 0, .int .i64 0, .int .i64 0]) ?_ 3 _ rfl; (with_reducible repeat (first | refine blk_drewN ?_ _ | refine blk_drew ?_ | refine blk_alloc ?_ _)); refine blk_put (cs := #[.int .i64 ((rd_T50 l0_2 a1).f3.f0), .int .i64 ((rd_T50 l0_2 a1).f3.f1), .int .i64 0, .int .i64 0, .slice none 0 0, .int .i64 0, .int .i64 0, .int .i64 0]) ?_ 2 _ rfl; (with_reducible repeat (first | refine blk_drewN ?_ _ | refine blk_drew ?_ | refine blk_alloc ?_ _)); refine blk_put (cs := #[.int .i64 ((rd_T50 l0_2 a1).f3.f0), .int .i64 0, .int .i64 0, .int .i64 0, .slice none 0 0, .int .i64 0, .int .i64 0, .int .i64 0]) ?_ 1 _ rfl; (with_reducible repeat (first | refine blk_drewN ?_ _ | refine blk_drew ?_ | refine blk_alloc ?_ _)); refine blk_put (cs := #[.int .i64 0, .int .i64 0, .int .i64 0, .int .i64 0, .slice none 0 0, .int .i64 0, .int .i64 0, .int .i64 0]) ?_ 0 _ rfl; (with_reducible repeat (first | refine blk_drewN ?_ _ | refine blk_drew ?_ | refine blk_alloc ?_ _)); exact BK152.out⟩, ⟨by repeat (first | (with_reducible first | exact HB.out | apply below_alloc | apply pw_below_drewN | apply below_drew1 | refine below_set ?_ GE150.out | refine below_set ?_ GE152.out) | exact HB.out)⟩⟩
       ·rw [if_neg c15] at H
        have c15b0 : (((rd_T50 l0_2 a1).f3.f0) == 2) = false := beq_eq_false_iff_ne.mpr c15
        have c15b1 : (((rd_T50 l0_2 a1).f3.f0) != 2) = true := bne_iff_ne.mpr c15
        (first | rw [c15b0] | (simp only [i64_w, i32_w]; rw [c15b0]) | skip)
        by_cases c18 : ((rd_T50 l0_2 a1).f3.f0) = 3
        ·rw [if_pos c18] at H
         have c18b0 : (((rd_T50 l0_2 a1).f3.f0) == 3) = true := beq_iff_eq.mpr c18
         have c18b1 : (((rd_T50 l0_2 a1).f3.f0) != 3) = false := bne_eq_false_iff_eq.mpr c18
         clear c18
         have H' := Aside0.mk H
         clear H
         have hnb19 := NB152_150.out
         have hnc19 := NB150_152.out
         have hcz20_0 : w12.cell? ⟨gb152, 0, none⟩ = some (.int .i64 0) := (blk_cell BK152.out 0).trans rfl
         have hcz20_1 : w12.cell? ⟨gb152, 1, none⟩ = some (.int .i64 0) := (blk_cell BK152.out 1).trans rfl
         have hcz20_2 : w12.cell? ⟨gb152, 2, none⟩ = some (.int .i64 0) := (blk_cell BK152.out 2).trans rfl
         have hcz20_3 : w12.cell? ⟨gb152, 3, none⟩ = some (.int .i64 0) := (blk_cell BK152.out 3).trans rfl
         have hcz20_4 : w12.cell? ⟨gb152, 4, none⟩ = some (.slice none 0 0) := (blk_cell BK152.out 4).trans rfl
         have hcz20_5 : w12.cell? ⟨gb152, 5, none⟩ = some (.int .i64 0) := (blk_cell BK152.out 5).trans rfl
         have hcz20_6 : w12.cell? ⟨gb152, 6, none⟩ = some (.int .i64 0) := (blk_cell BK152.out 6).trans rfl
         have hcz20_7 : w12.cell? ⟨gb152, 7, none⟩ = some (.int .i64 0) := (blk_cell BK152.out 7).trans rfl
         have hfz20_0 := blk_frozen BK152.out 0
         have hfz20_1 := blk_frozen BK152.out 1
         have hfz20_2 := blk_frozen BK152.out 2
         have hfz20_3 := blk_frozen BK152.out 3
         have hfz20_4 := blk_frozen BK152.out 4
         have hfz20_5 := blk_frozen BK152.out 5
         have hfz20_6 := blk_frozen BK152.out 6
         have hfz20_7 := blk_frozen BK152.out 7
         go_wp2
         repeat (go_quiet (fail); try go_wp2)
         go_meet
         case rel => exact ⟨_, (true), (by first | rfl | (simp; done) | (simp [*]; done)), H', ⟨by have := HJ2.out; first | omega | exact Nat.le_refl _⟩, ⟨by first | exact Kd.R_nil _ _ _ _ _ | exact Kd.N_nil _ _ _ _ _ | exact Kd.V_nil _ _ _ _ _ | exact Kd.Q_nil _ _ _ _ _ | exact Kd.S_nil _ _ _ _ _⟩, ⟨by (with_reducible repeat (first | refine blk_drewN ?_ _ | refine blk_drew ?_ | refine blk_alloc ?_ _)); refine blk_far ?_ NB150_152.out _; (with_reducible repeat (first | refine blk_drewN ?_ _ | refine blk_drew ?_ | refine blk_alloc ?_ _)); refine blk_far ?_ NB150_152.out _; (with_reducible repeat (first | refine blk_drewN ?_ _ | refine blk_drew ?_ | refine blk_alloc ?_ _)); refine blk_far ?_ NB150_152.out _; (with_reducible repeat (first | refine blk_drewN ?_ _ | refine blk_drew ?_ | refine blk_alloc ?_ _)); refine blk_far ?_ NB150_152.out _; (with_reducible repeat (first | refine blk_drewN ?_ _ | refine blk_drew ?_ | refine blk_alloc ?_ _)); refine blk_far ?_ NB150_152.out _; (with_reducible repeat (first | refine blk_drewN ?_ _ | refine blk_drew ?_ | refine blk_alloc ?_ _)); refine blk_far ?_ NB150_152.out _; (with_reducible repeat (first | refine blk_drewN ?_ _ | refine blk_drew ?_ | refine blk_alloc ?_ _)); refine blk_far ?_ NB150_152.out _; (with_reducible repeat (first | refine blk_drewN ?_ _ | refine blk_drew ?_ | refine blk_alloc ?_ _)); refine blk_far ?_ NB150_152.out _; (with_reducible repeat (first | refine blk_drewN ?_ _ | refine blk_drew ?_ | refine blk_alloc ?_ _)); exact BK150.out⟩, ⟨by (with_reducible repeat (first | refine blk_drewN ?_ _ | refine blk_drew ?_ | refine blk_alloc ?_ _)); refine blk_put (cs := #[.int .i64 ((rd_T50 l0_2 a1).f3.f0), .int .i64 ((rd_T50 l0_2 a1).f3.f1), .int .i64 ((rd_T50 l0_2 a1).f3.f2), .int .i64 ((rd_T50 l0_2 a1).f3.f3), .slice A151_10 ((rd_T50 l0_2 a1).f3.f4).length c151_10, .int .i64 ((rd_T50 l0_2 a1).f3.f5), .int .i64 ((rd_T50 l0_2 a1).f3.f6), .int .i64 0]) ?_ 7 _ rfl; (with_reducible repeat (first | refine blk_drewN ?_ _ | refine blk_drew ?_ | refine blk_alloc ?_ _)); refine blk_put (cs := #[.int .i64 ((rd_T50 l0_2 a1).f3.f0), .int .i64 ((rd_T50 l0_2 a1).f3.f1), .int .i64 ((rd_T50 l0_2 a1).f3.f2), .int .i64 ((rd_T50 l0_2 a1).f3.f3), .slice A151_10 ((rd_T50 l0_2 a1).f3.f4).length c151_10, .int .i64 ((rd_T50 l0_2 a1).f3.f5), .int .i64 0, .int .i64 0]) ?_ 6 _ rfl; (with_reducible repeat (first | refine blk_drewN ?_ _ | refine blk_drew ?_ | refine blk_alloc ?_ _)); refine blk_put (cs := #[.int .i64 ((rd_T50 l0_2 a1).f3.f0), .int .i64 ((rd_T50 l0_2 a1).f3.f1), .int .i64 ((rd_T50 l0_2 a1).f3.f2), .int .i64 ((rd_T50 l0_2 a1).f3.f3), .slice A151_10 ((rd_T50 l0_2 a1).f3.f4).length c151_10, .int .i64 0, .int .i64 0, .int .i64 0]) ?_ 5 _ rfl; (with_reducible repeat (first | refine blk_drewN ?_ _ | refine blk_drew ?_ | refine blk_alloc ?_ _)); refine blk_put (cs := #[.int .i64 ((rd_T50 l0_2 a1).f3.f0), .int .i64 ((rd_T50 l0_2 a1).f3.f1), .int .i64 ((rd_T50 l0_2 a1).f3.f2), .int .i64 ((rd_T50 l0_2 a1).f3.f3), .slice none 0 0, .int .i64 0, .int .i64 0, .int .i64 0]) ?_ 4 _ rfl; (with_reducible repeat (first | refine blk_drewN ?_ _ | refine blk_drew ?_ | refine blk_alloc ?_ _)); refine blk_put (cs := #[.int .i64 ((rd_T50 l0_2 a1).f3.f0), .int .i64 ((rd_T50 l0_2 a1).f3.f1), .int .i64 ((rd_T50 l0_2 a1).f3.f2), .int .i64 0, .slice none 0 0, .int .i64 0, .int .i64 0, .int .i64 0]) ?_ 3 _ rfl; (with_reducible repeat (first | refine blk_drewN ?_ _ | refine blk_drew ?_ | refine blk_alloc ?_ _)); refine blk_put (cs := #[.int .i64 ((rd_T50 l0_2 a1).f3.f0), .int .i64 ((rd_T50 l0_2 a1).f3.f1), .int .i64 0, .int .i64 0, .slice none 0 0, .int .i64 0, .int .i64 0, .int .i64 0]) ?_ 2 _ rfl; (with_reducible repeat (first | refine blk_drewN ?_ _ | refine blk_drew ?_ | refine blk_alloc ?_ _)); refine blk_put (cs := #[.int .i64 ((rd_T50 l0_2 a1).f3.f0), .int .i64 0, .int .i64 0, .int .i64 0, .slice none 0 0, .int .i64 0, .int .i64 0, .int .i64 0]) ?_ 1 _ rfl; (with_reducible repeat (first | refine blk_drewN ?_ _ | refine blk_drew ?_ | refine blk_alloc ?_ _)); refine blk_put (cs := #[.int .i64 0, .int .i64 0, .int .i64 0, .int .i64 0, .slice none 0 0, .int .i64 0, .int .i64 0, .int .i64 0]) ?_ 0 _ rfl; (with_reducible repeat (first | refine blk_drewN ?_ _ | refine blk_drew ?_ | refine blk_alloc ?_ _)); exact BK152.out⟩, ⟨by repeat (first | (with_reducible first | exact HB.out | apply below_alloc | apply pw_below_drewN | apply below_drew1 | refine below_set ?_ GE150.out | refine below_set ?_ GE152.out) | exact HB.out)⟩⟩
        ·rw [if_neg c18] at H
         have c18b0 : (((rd_T50 l0_2 a1).f3.f0) == 3) = false := beq_eq_false_iff_ne.mpr c18
         have c18b1 : (((rd_T50 l0_2 a1).f3.f0) != 3) = true := bne_iff_ne.mpr c18
         have H' := Aside0.mk H
         clear H
         have hnb21 := NB152_150.out
         have hnc21 := NB150_152.out
         have hcz22_0 : w12.cell? ⟨gb152, 0, none⟩ = some (.int .i64 0) := (blk_cell BK152.out 0).trans rfl
         have hcz22_1 : w12.cell? ⟨gb152, 1, none⟩ = some (.int .i64 0) := (blk_cell BK152.out 1).trans rfl
         have hcz22_2 : w12.cell? ⟨gb152, 2, none⟩ = some (.int .i64 0) := (blk_cell BK152.out 2).trans rfl
         have hcz22_3 : w12.cell? ⟨gb152, 3, none⟩ = some (.int .i64 0) := (blk_cell BK152.out 3).trans rfl
         have hcz22_4 : w12.cell? ⟨gb152, 4, none⟩ = some (.slice none 0 0) := (blk_cell BK152.out 4).trans rfl
         have hcz22_5 : w12.cell? ⟨gb152, 5, none⟩ = some (.int .i64 0) := (blk_cell BK152.out 5).trans rfl
         have hcz22_6 : w12.cell? ⟨gb152, 6, none⟩ = some (.int .i64 0) := (blk_cell BK152.out 6).trans rfl
         have hcz22_7 : w12.cell? ⟨gb152, 7, none⟩ = some (.int .i64 0) := (blk_cell BK152.out 7).trans rfl
         have hfz22_0 := blk_frozen BK152.out 0
         have hfz22_1 := blk_frozen BK152.out 1
         have hfz22_2 := blk_frozen BK152.out 2
         have hfz22_3 := blk_frozen BK152.out 3
         have hfz22_4 := blk_frozen BK152.out 4
         have hfz22_5 := blk_frozen BK152.out 5
         have hfz22_6 := blk_frozen BK152.out 6
         have hfz22_7 := blk_frozen BK152.out 7
         go_wp2
         repeat (go_quiet (fail); try go_wp2)
         go_meet
         case rel => exact ⟨_, ((((rd_T50 l0_2 a1).f3.f0) == 4)), (by first | rfl | (simp; done) | (simp [*]; done)), H', ⟨by have := HJ2.out; first | omega | exact Nat.le_refl _⟩, ⟨by first | exact Kd.R_nil _ _ _ _ _ | exact Kd.N_nil _ _ _ _ _ | exact Kd.V_nil _ _ _ _ _ | exact Kd.Q_nil _ _ _ _ _ | exact Kd.S_nil _ _ _ _ _⟩, ⟨by (with_reducible repeat (first | refine blk_drewN ?_ _ | refine blk_drew ?_ | refine blk_alloc ?_ _)); refine blk_far ?_ NB150_152.out _; (with_reducible repeat (first | refine blk_drewN ?_ _ | refine blk_drew ?_ | refine blk_alloc ?_ _)); refine blk_far ?_ NB150_152.out _; (with_reducible repeat (first | refine blk_drewN ?_ _ | refine blk_drew ?_ | refine blk_alloc ?_ _)); refine blk_far ?_ NB150_152.out _; (with_reducible repeat (first | refine blk_drewN ?_ _ | refine blk_drew ?_ | refine blk_alloc ?_ _)); refine blk_far ?_ NB150_152.out _; (with_reducible repeat (first | refine blk_drewN ?_ _ | refine blk_drew ?_ | refine blk_alloc ?_ _)); refine blk_far ?_ NB150_152.out _; (with_reducible repeat (first | refine blk_drewN ?_ _ | refine blk_drew ?_ | refine blk_alloc ?_ _)); refine blk_far ?_ NB150_152.out _; (with_reducible repeat (first | refine blk_drewN ?_ _ | refine blk_drew ?_ | refine blk_alloc ?_ _)); refine blk_far ?_ NB150_152.out _; (with_reducible repeat (first | refine blk_drewN ?_ _ | refine blk_drew ?_ | refine blk_alloc ?_ _)); refine blk_far ?_ NB150_152.out _; (with_reducible repeat (first | refine blk_drewN ?_ _ | refine blk_drew ?_ | refine blk_alloc ?_ _)); exact BK150.out⟩, ⟨by (with_reducible repeat (first | refine blk_drewN ?_ _ | refine blk_drew ?_ | refine blk_alloc ?_ _)); refine blk_put (cs := #[.int .i64 ((rd_T50 l0_2 a1).f3.f0), .int .i64 ((rd_T50 l0_2 a1).f3.f1), .int .i64 ((rd_T50 l0_2 a1).f3.f2), .int .i64 ((rd_T50 l0_2 a1).f3.f3), .slice A151_10 ((rd_T50 l0_2 a1).f3.f4).length c151_10, .int .i64 ((rd_T50 l0_2 a1).f3.f5), .int .i64 ((rd_T50 l0_2 a1).f3.f6), .int .i64 0]) ?_ 7 _ rfl; (with_reducible repeat (first | refine blk_drewN ?_ _ | refine blk_drew ?_ | refine blk_alloc ?_ _)); refine blk_put (cs := #[.int .i64 ((rd_T50 l0_2 a1).f3.f0), .int .i64 ((rd_T50 l0_2 a1).f3.f1), .int .i64 ((rd_T50 l0_2 a1).f3.f2), .int .i64 ((rd_T50 l0_2 a1).f3.f3), .slice A151_10 ((rd_T50 l0_2 a1).f3.f4).length c151_10, .int .i64 ((rd_T50 l0_2 a1).f3.f5), .int .i64 0, .int .i64 0]) ?_ 6 _ rfl; (with_reducible repeat (first | refine blk_drewN ?_ _ | refine blk_drew ?_ | refine blk_alloc ?_ _)); refine blk_put (cs := #[.int .i64 ((rd_T50 l0_2 a1).f3.f0), .int .i64 ((rd_T50 l0_2 a1).f3.f1), .int .i64 ((rd_T50 l0_2 a1).f3.f2), .int .i64 ((rd_T50 l0_2 a1).f3.f3), .slice A151_10 ((rd_T50 l0_2 a1).f3.f4).length c151_10, .int .i64 0, .int .i64 0, .int .i64 0]) ?_ 5 _ rfl; (with_reducible repeat (first | refine blk_drewN ?_ _ | refine blk_drew ?_ | refine blk_alloc ?_ _)); refine blk_put (cs := #[.int .i64 ((rd_T50 l0_2 a1).f3.f0), .int .i64 ((rd_T50 l0_2 a1).f3.f1), .int .i64 ((rd_T50 l0_2 a1).f3.f2), .int .i64 ((rd_T50 l0_2 a1).f3.f3), .slice none 0 0, .int .i64 0, .int .i64 0, .int .i64 0]) ?_ 4 _ rfl; (with_reducible repeat (first | refine blk_drewN ?_ _ | refine blk_drew ?_ | refine blk_alloc ?_ _)); refine blk_put (cs := #[.int .i64 ((rd_T50 l0_2 a1).f3.f0), .int .i64 ((rd_T50 l0_2 a1).f3.f1), .int .i64 ((rd_T50 l0_2 a1).f3.f2), .int .i64 0, .slice none 0 0, .int .i64 0, .int .i64 0, .int .i64 0]) ?_ 3 _ rfl; (with_reducible repeat (first | refine blk_drewN ?_ _ | refine blk_drew ?_ | refine blk_alloc ?_ _)); refine blk_put (cs := #[.int .i64 ((rd_T50 l0_2 a1).f3.f0), .int .i64 ((rd_T50 l0_2 a1).f3.f1), .int .i64 0, .int .i64 0, .slice none 0 0, .int .i64 0, .int .i64 0, .int .i64 0]) ?_ 2 _ rfl; (with_reducible repeat (first | refine blk_drewN ?_ _ | refine blk_drew ?_ | refine blk_alloc ?_ _)); refine blk_put (cs := #[.int .i64 ((rd_T50 l0_2 a1).f3.f0), .int .i64 0, .int .i64 0, .int .i64 0, .slice none 0 0, .int .i64 0, .int .i64 0, .int .i64 0]) ?_ 1 _ rfl; (with_reducible repeat (first | refine blk_drewN ?_ _ | refine blk_drew ?_ | refine blk_alloc ?_ _)); refine blk_put (cs := #[.int .i64 0, .int .i64 0, .int .i64 0, .int .i64 0, .slice none 0 0, .int .i64 0, .int .i64 0, .int .i64 0]) ?_ 0 _ rfl; (with_reducible repeat (first | refine blk_drewN ?_ _ | refine blk_drew ?_ | refine blk_alloc ?_ _)); exact BK152.out⟩, ⟨by repeat (first | (with_reducible first | exact HB.out | apply below_alloc | apply pw_below_drewN | apply below_drew1 | refine below_set ?_ GE150.out | refine below_set ?_ GE152.out) | exact HB.out)⟩⟩
      case rest =>
       clear HC10
       try clear c1
       try clear p1
       try clear q1
       try clear hx1
       try clear c2
       try clear p2
       try clear c3
       try clear c5
       try clear c5b0
       try clear c7
       try clear c8
       try clear c8b0
       try clear c9
       try clear c9b0
       try clear c13
       try clear c15
       try clear c15b0
       try clear c15b1
       try clear p15
       try clear q15
       try clear hx15
       try clear c16
       try clear c18
       try clear c18b0
       try clear c18b1
       try clear c19
       try clear c21
       try clear hcz11_0
       try clear hcz11_1
       try clear hcz11_2
       try clear hcz14_0
       try clear hcz14_1
       try clear hcz14_2
       try clear hcz14_3
       try clear hcz14_4
       try clear hcz14_5
       try clear hcz14_6
       try clear hcz14_7
       try clear hcz17_0
       try clear hcz17_1
       try clear hcz17_2
       try clear hcz17_3
       try clear hcz17_4
       try clear hcz17_5
       try clear hcz17_6
       try clear hcz17_7
       try clear hcz20_0
       try clear hcz20_1
       try clear hcz20_2
       try clear hcz20_3
       try clear hcz20_4
       try clear hcz20_5
       try clear hcz20_6
       try clear hcz20_7
       try clear hcz22_0
       try clear hcz22_1
       try clear hcz22_2
       try clear hcz22_3
       try clear hcz22_4
       try clear hcz22_5
       try clear hcz22_6
       try clear hcz22_7
       try clear hcz6_0
       try clear hcz6_1
       try clear hcz6_2
       try clear hfz11_0
       try clear hfz11_1
       try clear hfz11_2
       try clear hfz14_0
       try clear hfz14_1
       try clear hfz14_2
       try clear hfz14_3
       try clear hfz14_4
       try clear hfz14_5
       try clear hfz14_6
       try clear hfz14_7
       try clear hfz17_0
       try clear hfz17_1
       try clear hfz17_2
       try clear hfz17_3
       try clear hfz17_4
       try clear hfz17_5
       try clear hfz17_6
       try clear hfz17_7
       try clear hfz20_0
       try clear hfz20_1
       try clear hfz20_2
       try clear hfz20_3
       try clear hfz20_4
       try clear hfz20_5
       try clear hfz20_6
       try clear hfz20_7
       try clear hfz22_0
       try clear hfz22_1
       try clear hfz22_2
       try clear hfz22_3
       try clear hfz22_4
       try clear hfz22_5
       try clear hfz22_6
       try clear hfz22_7
       try clear hfz6_0
       try clear hfz6_1
       try clear hfz6_2
       try clear hx151_0
       try clear hx151_1
       try clear hx151_10
       try clear hx151_11
       try clear hx151_12
       try clear hx151_13
       try clear hx151_2
       try clear hx151_3
       try clear hx151_4
       try clear hx151_5
       try clear hx151_6
       try clear hx151_7
       try clear hx151_8
       try clear hx151_9
       try clear p151
       try clear p2
       try clear q151
       obtain ⟨kq, x36_9, rfl, HA, HJ9, HO_6, BK150, BK152, HB⟩ := hcut
       cases kq with
       | zero => exact absurd HA.out (by simp [davitref07_Next.j1])
       | succ kj9 =>
        have H := HA.out
        clear HA
        simp only [davitref07_Next.j1] at H
        have HC23 := Aside0.mk H
        clear H
        go_upto_if 36 with (fail)
        repeat (go_quiet (fail); go_upto_if 36 with (fail))
        go_cut [6] (fun v6 wc => ∃ (kq : Nat) (x6_22 : List Int), Aside0 (davitref07_Next.j2 kq x6_22 a0_0 a0_1 l0_2 ((rd_T50 l0_2 a1).f3.f0) ((rd_T50 l0_2 a1).f3.f1) ((rd_T50 l0_2 a1).f3.f2) ((rd_T50 l0_2 a1).f3.f3) ((rd_T50 l0_2 a1).f3.f4) ((rd_T50 l0_2 a1).f3.f5) ((rd_T50 l0_2 a1).f3.f6) ((rd_T50 l0_2 a1).f3.f7) = some r) ∧ Aside0 (kq ≤ kj9) ∧ Aside0 (Kd.R (Kd.int .i64) 3 wc w.heap.size (fun _ => True) v6 x6_22) ∧ Aside0 (wc.heap[gb150]? = some (.cells #[.int .i64 a0_0, .int .i64 a0_1, (.slice (some ad151) l0_2.length c0_2)] 24 (0, 0))) ∧ Aside0 (wc.heap[gb152]? = some (.cells #[.int .i64 ((rd_T50 l0_2 a1).f3.f0), .int .i64 ((rd_T50 l0_2 a1).f3.f1), .int .i64 ((rd_T50 l0_2 a1).f3.f2), .int .i64 ((rd_T50 l0_2 a1).f3.f3), (.slice A151_10 ((rd_T50 l0_2 a1).f3.f4).length c151_10), .int .i64 ((rd_T50 l0_2 a1).f3.f5), .int .i64 ((rd_T50 l0_2 a1).f3.f6), .int .i64 ((rd_T50 l0_2 a1).f3.f7)] 44 (0, 0))) ∧ Aside0 (Below w.heap.size w wc))
        case first =>
         have H := HC23.out
         clear HC23
         by_cases c24 : x36_9 = true
         ·subst c24
          have H1 : (if ([] : List Int).length < 17592186044416 then (davitref07_Next.j2 kj9 (([] : List Int) ++ [((rd_T50 l0_2 a1).f3.f5)]) a0_0 a0_1 l0_2 ((rd_T50 l0_2 a1).f3.f0) ((rd_T50 l0_2 a1).f3.f1) ((rd_T50 l0_2 a1).f3.f2) ((rd_T50 l0_2 a1).f3.f3) ((rd_T50 l0_2 a1).f3.f4) ((rd_T50 l0_2 a1).f3.f5) ((rd_T50 l0_2 a1).f3.f6) ((rd_T50 l0_2 a1).f3.f7)) else (none)) = some r := by rw [if_pos rfl] at H; exact H
          clear H
          have H := H1
          clear H1
          by_cases c25 : ([] : List Int).length < 17592186044416
          ·rw [if_pos c25] at H
           have LMc25 := Aside0.mk c25
           clear c25
           obtain ⟨y153, hy153⟩ : ∃ y_ : List Int, y_ = (([] : List Int) ++ [((rd_T50 l0_2 a1).f3.f5)]) := ⟨_, rfl⟩
           replace H : (davitref07_Next.j2 kj9 y153 a0_0 a0_1 l0_2 ((rd_T50 l0_2 a1).f3.f0) ((rd_T50 l0_2 a1).f3.f1) ((rd_T50 l0_2 a1).f3.f2) ((rd_T50 l0_2 a1).f3.f3) ((rd_T50 l0_2 a1).f3.f4) ((rd_T50 l0_2 a1).f3.f5) ((rd_T50 l0_2 a1).f3.f6) ((rd_T50 l0_2 a1).f3.f7)) = some r := by first | (rw [hy153]; with_reducible exact H) | (have H2_ := (Option.bind_some _ _).symm.trans H; rw [hy153]; with_reducible exact H2_) | (have H2_ := (Option.bind_some _ _).symm.trans H; with_reducible exact H2_) | with_reducible exact H | (rw [hy153]; exact H) | exact H
           have Ny153 := Aside0.mk hy153
           clear hy153
           have H' := Aside0.mk H
           clear H
           have hnb26 := NB152_150.out
           have hnc26 := NB150_152.out
           have hcz27_0 : wc.cell? ⟨gb152, 0, none⟩ = some (.int .i64 ((rd_T50 l0_2 a1).f3.f0)) := (blk_cell BK152.out 0).trans rfl
           have hcz27_1 : wc.cell? ⟨gb152, 1, none⟩ = some (.int .i64 ((rd_T50 l0_2 a1).f3.f1)) := (blk_cell BK152.out 1).trans rfl
           have hcz27_2 : wc.cell? ⟨gb152, 2, none⟩ = some (.int .i64 ((rd_T50 l0_2 a1).f3.f2)) := (blk_cell BK152.out 2).trans rfl
           have hcz27_3 : wc.cell? ⟨gb152, 3, none⟩ = some (.int .i64 ((rd_T50 l0_2 a1).f3.f3)) := (blk_cell BK152.out 3).trans rfl
           have hcz27_4 : wc.cell? ⟨gb152, 4, none⟩ = some (.slice A151_10 ((rd_T50 l0_2 a1).f3.f4).length c151_10) := (blk_cell BK152.out 4).trans rfl
           have hcz27_5 : wc.cell? ⟨gb152, 5, none⟩ = some (.int .i64 ((rd_T50 l0_2 a1).f3.f5)) := (blk_cell BK152.out 5).trans rfl
           have hcz27_6 : wc.cell? ⟨gb152, 6, none⟩ = some (.int .i64 ((rd_T50 l0_2 a1).f3.f6)) := (blk_cell BK152.out 6).trans rfl
           have hcz27_7 : wc.cell? ⟨gb152, 7, none⟩ = some (.int .i64 ((rd_T50 l0_2 a1).f3.f7)) := (blk_cell BK152.out 7).trans rfl
           have hfz27_0 := blk_frozen BK152.out 0
           have hfz27_1 := blk_frozen BK152.out 1
           have hfz27_2 := blk_frozen BK152.out 2
           have hfz27_3 := blk_frozen BK152.out 3
           have hfz27_4 := blk_frozen BK152.out 4
           have hfz27_5 := blk_frozen BK152.out 5
           have hfz27_6 := blk_frozen BK152.out 6
           have hfz27_7 := blk_frozen BK152.out 7
           go_wp2_with (first | ((with_reducible refine gate_builtin (b := .append) (xs := #[.tmp 37, .tmp 40]) rfl ?_); (try (refine gate_guard (by rfl) ?_; dsimp only)); at_builtin; refine Kd.R_append (Kd.int .i64) (w0 := w) w.heap.size rfl (.tmp 37) (.tmp 40) 27 3 (.int .i64 0) 8 rfl Try.underlying27 info3 rfl (by decide) (by omega) (.slice none 0 0) ([] : List Int) ((rd_T50 l0_2 a1).f3.f5) [.int .i64 ((rd_T50 l0_2 a1).f3.f5)] (fun _ => True) (fun _ => False) rfl rfl ?aP (fun _ hk => hk.elim) ?aF ?aO ?aB ?aS ?aL ?_; (case aP => exact rfl); (case aB => exact (by repeat (first | (with_reducible first | exact HB.out | apply below_alloc | apply pw_below_drewN | apply below_drew1 | refine below_set ?_ GE150.out | refine below_set ?_ GE152.out) | exact HB.out))); (case aF => exact (fun _ _ => trivial)); (case aO => exact (by (with_reducible repeat (first | apply Kd.R_alloc | apply Kd.R_drewN | apply Kd.R_drew)); exact HO_6.out)); (case aS => exact (below_size (by repeat (first | (with_reducible first | exact HB.out | apply below_alloc | apply pw_below_drewN | apply below_drew1 | refine below_set ?_ GE150.out | refine below_set ?_ GE152.out) | exact HB.out)))); (case aL => have := LMc25.out; omega); intro v154 w28 ho hb hg hat; rw [← Ny153.out] at ho; have n0_ := Aside0.mk (blk_grown (g := gb150) (o := .cells #[.int .i64 a0_0, .int .i64 a0_1, .slice (some ad151) l0_2.length c0_2] 24 (0, 0)) (by (with_reducible repeat (first | refine blk_drewN ?_ _ | refine blk_drew ?_ | refine blk_alloc ?_ _)); exact BK150.out) hg (Kd.R_ne HO_6.out BK150.out (by decide))); have n1_ := Aside0.mk (blk_grown (g := gb152) (o := .cells #[.int .i64 ((rd_T50 l0_2 a1).f3.f0), .int .i64 ((rd_T50 l0_2 a1).f3.f1), .int .i64 ((rd_T50 l0_2 a1).f3.f2), .int .i64 ((rd_T50 l0_2 a1).f3.f3), .slice A151_10 ((rd_T50 l0_2 a1).f3.f4).length c151_10, .int .i64 ((rd_T50 l0_2 a1).f3.f5), .int .i64 ((rd_T50 l0_2 a1).f3.f6), .int .i64 ((rd_T50 l0_2 a1).f3.f7)] 44 (0, 0)) (by (with_reducible repeat (first | refine blk_drewN ?_ _ | refine blk_drew ?_ | refine blk_alloc ?_ _)); exact BK152.out) hg (Kd.R_ne HO_6.out BK152.out (by decide))); have n2_ := Aside0.mk (hb); have n3_ := Aside0.mk (ho); clear BK150; clear BK152; clear HB; clear HO_6; have BK150 := n0_; have BK152 := n1_; have HB := n2_; have HO155 := n3_; clear n0_ n1_ n2_ n3_; clear ho hb hg hat))
           repeat (go_quiet (first | ((with_reducible refine gate_builtin (b := .append) (xs := #[.tmp 37, .tmp 40]) rfl ?_); (try (refine gate_guard (by rfl) ?_; dsimp only)); at_builtin; refine Kd.R_append (Kd.int .i64) (w0 := w) w.heap.size rfl (.tmp 37) (.tmp 40) 27 3 (.int .i64 0) 8 rfl Try.underlying27 info3 rfl (by decide) (by omega) (.slice none 0 0) ([] : List Int) ((rd_T50 l0_2 a1).f3.f5) [.int .i64 ((rd_T50 l0_2 a1).f3.f5)] (fun _ => True) (fun _ => False) rfl rfl ?aP (fun _ hk => hk.elim) ?aF ?aO ?aB ?aS ?aL ?_; (case aP => exact rfl); (case aB => exact (by repeat (first | (with_reducible first | exact HB.out | apply below_alloc | apply pw_below_drewN | apply below_drew1 | refine below_set ?_ GE150.out | refine below_set ?_ GE152.out) | exact HB.out))); (case aF => exact (fun _ _ => trivial)); (case aO => exact (by (with_reducible repeat (first | apply Kd.R_alloc | apply Kd.R_drewN | apply Kd.R_drew)); exact HO_6.out)); (case aS => exact (below_size (by repeat (first | (with_reducible first | exact HB.out | apply below_alloc | apply pw_below_drewN | apply below_drew1 | refine below_set ?_ GE150.out | refine below_set ?_ GE152.out) | exact HB.out)))); (case aL => have := LMc25.out; omega); intro v154 w28 ho hb hg hat; rw [← Ny153.out] at ho; have n0_ := Aside0.mk (blk_grown (g := gb150) (o := .cells #[.int .i64 a0_0, .int .i64 a0_1, .slice (some ad151) l0_2.length c0_2] 24 (0, 0)) (by (with_reducible repeat (first | refine blk_drewN ?_ _ | refine blk_drew ?_ | refine blk_alloc ?_ _)); exact BK150.out) hg (Kd.R_ne HO_6.out BK150.out (by decide))); have n1_ := Aside0.mk (blk_grown (g := gb152) (o := .cells #[.int .i64 ((rd_T50 l0_2 a1).f3.f0), .int .i64 ((rd_T50 l0_2 a1).f3.f1), .int .i64 ((rd_T50 l0_2 a1).f3.f2), .int .i64 ((rd_T50 l0_2 a1).f3.f3), .slice A151_10 ((rd_T50 l0_2 a1).f3.f4).length c151_10, .int .i64 ((rd_T50 l0_2 a1).f3.f5), .int .i64 ((rd_T50 l0_2 a1).f3.f6), .int .i64 ((rd_T50 l0_2 a1).f3.f7)] 44 (0, 0)) (by (with_reducible repeat (first | refine blk_drewN ?_ _ | refine blk_drew ?_ | refine blk_alloc ?_ _)); exact BK152.out) hg (Kd.R_ne HO_6.out BK152.out (by decide))); have n2_ := Aside0.mk (hb); have n3_ := Aside0.mk (ho); clear BK150; clear BK152; clear HB; clear HO_6; have BK150 := n0_; have BK152 := n1_; have HB := n2_; have HO155 := n3_; clear n0_ n1_ n2_ n3_; clear ho hb hg hat)); try go_wp2_with (first | ((with_reducible refine gate_builtin (b := .append) (xs := #[.tmp 37, .tmp 40]) rfl ?_); (try (refine gate_guard (by rfl) ?_; dsimp only)); at_builtin; refine Kd.R_append (Kd.int .i64) (w0 := w) w.heap.size rfl (.tmp 37) (.tmp 40) 27 3 (.int .i64 0) 8 rfl Try.underlying27 info3 rfl (by decide) (by omega) (.slice none 0 0) ([] : List Int) ((rd_T50 l0_2 a1).f3.f5) [.int .i64 ((rd_T50 l0_2 a1).f3.f5)] (fun _ => True) (fun _ => False) rfl rfl ?aP (fun _ hk => hk.elim) ?aF ?aO ?aB ?aS ?aL ?_; (case aP => exact rfl); (case aB => exact (by repeat (first | (with_reducible first | exact HB.out | apply below_alloc | apply pw_below_drewN | apply below_drew1 | refine below_set ?_ GE150.out | refine below_set ?_ GE152.out) | exact HB.out))); (case aF => exact (fun _ _ => trivial)); (case aO => exact (by (with_reducible repeat (first | apply Kd.R_alloc | apply Kd.R_drewN | apply Kd.R_drew)); exact HO_6.out)); (case aS => exact (below_size (by repeat (first | (with_reducible first | exact HB.out | apply below_alloc | apply pw_below_drewN | apply below_drew1 | refine below_set ?_ GE150.out | refine below_set ?_ GE152.out) | exact HB.out)))); (case aL => have := LMc25.out; omega); intro v154 w28 ho hb hg hat; rw [← Ny153.out] at ho; have n0_ := Aside0.mk (blk_grown (g := gb150) (o := .cells #[.int .i64 a0_0, .int .i64 a0_1, .slice (some ad151) l0_2.length c0_2] 24 (0, 0)) (by (with_reducible repeat (first | refine blk_drewN ?_ _ | refine blk_drew ?_ | refine blk_alloc ?_ _)); exact BK150.out) hg (Kd.R_ne HO_6.out BK150.out (by decide))); have n1_ := Aside0.mk (blk_grown (g := gb152) (o := .cells #[.int .i64 ((rd_T50 l0_2 a1).f3.f0), .int .i64 ((rd_T50 l0_2 a1).f3.f1), .int .i64 ((rd_T50 l0_2 a1).f3.f2), .int .i64 ((rd_T50 l0_2 a1).f3.f3), .slice A151_10 ((rd_T50 l0_2 a1).f3.f4).length c151_10, .int .i64 ((rd_T50 l0_2 a1).f3.f5), .int .i64 ((rd_T50 l0_2 a1).f3.f6), .int .i64 ((rd_T50 l0_2 a1).f3.f7)] 44 (0, 0)) (by (with_reducible repeat (first | refine blk_drewN ?_ _ | refine blk_drew ?_ | refine blk_alloc ?_ _)); exact BK152.out) hg (Kd.R_ne HO_6.out BK152.out (by decide))); have n2_ := Aside0.mk (hb); have n3_ := Aside0.mk (ho); clear BK150; clear BK152; clear HB; clear HO_6; have BK150 := n0_; have BK152 := n1_; have HB := n2_; have HO155 := n3_; clear n0_ n1_ n2_ n3_; clear ho hb hg hat)))
           go_meet
           case rel => exact ⟨_, (y153), H', ⟨by have := HJ2.out; have := HJ9.out; first | omega | exact Nat.le_refl _⟩, ⟨by (with_reducible repeat (first | apply Kd.R_alloc | apply Kd.R_drewN | apply Kd.R_drew)); exact HO155.out⟩, ⟨by (with_reducible repeat (first | refine blk_drewN ?_ _ | refine blk_drew ?_ | refine blk_alloc ?_ _)); exact BK150.out⟩, ⟨by (with_reducible repeat (first | refine blk_drewN ?_ _ | refine blk_drew ?_ | refine blk_alloc ?_ _)); exact BK152.out⟩, ⟨by repeat (first | (with_reducible first | exact HB.out | apply below_alloc | apply pw_below_drewN | apply below_drew1 | refine below_set ?_ GE150.out | refine below_set ?_ GE152.out) | exact HB.out)⟩⟩
          ·rw [if_neg c25] at H
           exact absurd H (by simp)
         ·replace c24 := Bool.eq_false_iff.mpr c24
          subst c24
          have H1 : (davitref07_Next.j2 kj9 ([] : List Int) a0_0 a0_1 l0_2 ((rd_T50 l0_2 a1).f3.f0) ((rd_T50 l0_2 a1).f3.f1) ((rd_T50 l0_2 a1).f3.f2) ((rd_T50 l0_2 a1).f3.f3) ((rd_T50 l0_2 a1).f3.f4) ((rd_T50 l0_2 a1).f3.f5) ((rd_T50 l0_2 a1).f3.f6) ((rd_T50 l0_2 a1).f3.f7)) = some r := by rw [if_neg (show ¬ (false = true) by decide)] at H; exact H
          clear H
          have H := H1
          clear H1
          have H' := Aside0.mk H
          clear H
          go_wp2
          repeat (go_quiet (fail); try go_wp2)
          go_meet
          case rel => exact ⟨_, (([] : List Int)), H', ⟨by have := HJ2.out; have := HJ9.out; first | omega | exact Nat.le_refl _⟩, ⟨by (with_reducible repeat (first | apply Kd.R_alloc | apply Kd.R_drewN | apply Kd.R_drew)); exact HO_6.out⟩, ⟨by (with_reducible repeat (first | refine blk_drewN ?_ _ | refine blk_drew ?_ | refine blk_alloc ?_ _)); exact BK150.out⟩, ⟨by (with_reducible repeat (first | refine blk_drewN ?_ _ | refine blk_drew ?_ | refine blk_alloc ?_ _)); exact BK152.out⟩, ⟨by repeat (first | (with_reducible first | exact HB.out | apply below_alloc | apply pw_below_drewN | apply below_drew1 | refine below_set ?_ GE150.out | refine below_set ?_ GE152.out) | exact HB.out)⟩⟩
        case rest =>
         clear HC23
         try clear c1
         try clear p1
         try clear q1
         try clear hx1
         try clear c2
         try clear p2
         try clear c3
         try clear c5
         try clear c5b0
         try clear c7
         try clear c8
         try clear c8b0
         try clear c9
         try clear c9b0
         try clear c13
         try clear c15
         try clear c15b0
         try clear c15b1
         try clear p15
         try clear q15
         try clear hx15
         try clear c16
         try clear c18
         try clear c18b0
         try clear c18b1
         try clear c19
         try clear c21
         try clear c24
         try clear c25
         try clear c26
         try clear hcz11_0
         try clear hcz11_1
         try clear hcz11_2
         try clear hcz14_0
         try clear hcz14_1
         try clear hcz14_2
         try clear hcz14_3
         try clear hcz14_4
         try clear hcz14_5
         try clear hcz14_6
         try clear hcz14_7
         try clear hcz17_0
         try clear hcz17_1
         try clear hcz17_2
         try clear hcz17_3
         try clear hcz17_4
         try clear hcz17_5
         try clear hcz17_6
         try clear hcz17_7
         try clear hcz20_0
         try clear hcz20_1
         try clear hcz20_2
         try clear hcz20_3
         try clear hcz20_4
         try clear hcz20_5
         try clear hcz20_6
         try clear hcz20_7
         try clear hcz22_0
         try clear hcz22_1
         try clear hcz22_2
         try clear hcz22_3
         try clear hcz22_4
         try clear hcz22_5
         try clear hcz22_6
         try clear hcz22_7
         try clear hcz27_0
         try clear hcz27_1
         try clear hcz27_2
         try clear hcz27_3
         try clear hcz27_4
         try clear hcz27_5
         try clear hcz27_6
         try clear hcz27_7
         try clear hcz6_0
         try clear hcz6_1
         try clear hcz6_2
         try clear hfz11_0
         try clear hfz11_1
         try clear hfz11_2
         try clear hfz14_0
         try clear hfz14_1
         try clear hfz14_2
         try clear hfz14_3
         try clear hfz14_4
         try clear hfz14_5
         try clear hfz14_6
         try clear hfz14_7
         try clear hfz17_0
         try clear hfz17_1
         try clear hfz17_2
         try clear hfz17_3
         try clear hfz17_4
         try clear hfz17_5
         try clear hfz17_6
         try clear hfz17_7
         try clear hfz20_0
         try clear hfz20_1
         try clear hfz20_2
         try clear hfz20_3
         try clear hfz20_4
         try clear hfz20_5
         try clear hfz20_6
         try clear hfz20_7
         try clear hfz22_0
         try clear hfz22_1
         try clear hfz22_2
         try clear hfz22_3
         try clear hfz22_4
         try clear hfz22_5
         try clear hfz22_6
         try clear hfz22_7
         try clear hfz27_0
         try clear hfz27_1
         try clear hfz27_2
         try clear hfz27_3
         try clear hfz27_4
         try clear hfz27_5
         try clear hfz27_6
         try clear hfz27_7
         try clear hfz6_0
         try clear hfz6_1
         try clear hfz6_2
         try clear hx151_0
         try clear hx151_1
         try clear hx151_10
         try clear hx151_11
         try clear hx151_12
         try clear hx151_13
         try clear hx151_2
         try clear hx151_3
         try clear hx151_4
         try clear hx151_5
         try clear hx151_6
         try clear hx151_7
         try clear hx151_8
         try clear hx151_9
         try clear p1
         try clear p15
         try clear p151
         try clear p2
         try clear q1
         try clear q15
         try clear q151
         obtain ⟨kq, x6_22, HA, HJ22, HO_6, BK150, BK152, HB⟩ := hcut
         cases kq with
         | zero => exact absurd HA.out (by simp [davitref07_Next.j2])
         | succ kj22 =>
          have H := HA.out
          clear HA
          simp only [davitref07_Next.j2] at H
          have HC29 := Aside0.mk H
          clear H
          have hnb30 := NB152_150.out
          have hnc30 := NB150_152.out
          have hcz31_0 : wc.cell? ⟨gb152, 0, none⟩ = some (.int .i64 ((rd_T50 l0_2 a1).f3.f0)) := (blk_cell BK152.out 0).trans rfl
          have hcz31_1 : wc.cell? ⟨gb152, 1, none⟩ = some (.int .i64 ((rd_T50 l0_2 a1).f3.f1)) := (blk_cell BK152.out 1).trans rfl
          have hcz31_2 : wc.cell? ⟨gb152, 2, none⟩ = some (.int .i64 ((rd_T50 l0_2 a1).f3.f2)) := (blk_cell BK152.out 2).trans rfl
          have hcz31_3 : wc.cell? ⟨gb152, 3, none⟩ = some (.int .i64 ((rd_T50 l0_2 a1).f3.f3)) := (blk_cell BK152.out 3).trans rfl
          have hcz31_4 : wc.cell? ⟨gb152, 4, none⟩ = some (.slice A151_10 ((rd_T50 l0_2 a1).f3.f4).length c151_10) := (blk_cell BK152.out 4).trans rfl
          have hcz31_5 : wc.cell? ⟨gb152, 5, none⟩ = some (.int .i64 ((rd_T50 l0_2 a1).f3.f5)) := (blk_cell BK152.out 5).trans rfl
          have hcz31_6 : wc.cell? ⟨gb152, 6, none⟩ = some (.int .i64 ((rd_T50 l0_2 a1).f3.f6)) := (blk_cell BK152.out 6).trans rfl
          have hcz31_7 : wc.cell? ⟨gb152, 7, none⟩ = some (.int .i64 ((rd_T50 l0_2 a1).f3.f7)) := (blk_cell BK152.out 7).trans rfl
          have hfz31_0 := blk_frozen BK152.out 0
          have hfz31_1 := blk_frozen BK152.out 1
          have hfz31_2 := blk_frozen BK152.out 2
          have hfz31_3 := blk_frozen BK152.out 3
          have hfz31_4 := blk_frozen BK152.out 4
          have hfz31_5 := blk_frozen BK152.out 5
          have hfz31_6 := blk_frozen BK152.out 6
          have hfz31_7 := blk_frozen BK152.out 7
          go_upto_if 44 with (fail)
          repeat (go_quiet (fail); go_upto_if 44 with (fail))
          go_cut [6] (fun v6 wc => ∃ (kq : Nat) (x6_28 : List Int), Aside0 (davitref07_Next.j3 kq x6_28 a0_0 a0_1 l0_2 ((rd_T50 l0_2 a1).f3.f0) ((rd_T50 l0_2 a1).f3.f1) ((rd_T50 l0_2 a1).f3.f2) ((rd_T50 l0_2 a1).f3.f3) ((rd_T50 l0_2 a1).f3.f4) ((rd_T50 l0_2 a1).f3.f5) ((rd_T50 l0_2 a1).f3.f6) ((rd_T50 l0_2 a1).f3.f7) = some r) ∧ Aside0 (kq ≤ kj22) ∧ Aside0 (Kd.R (Kd.int .i64) 3 wc w.heap.size (fun _ => True) v6 x6_28) ∧ Aside0 (wc.heap[gb150]? = some (.cells #[.int .i64 a0_0, .int .i64 a0_1, (.slice (some ad151) l0_2.length c0_2)] 24 (0, 0))) ∧ Aside0 (wc.heap[gb152]? = some (.cells #[.int .i64 ((rd_T50 l0_2 a1).f3.f0), .int .i64 ((rd_T50 l0_2 a1).f3.f1), .int .i64 ((rd_T50 l0_2 a1).f3.f2), .int .i64 ((rd_T50 l0_2 a1).f3.f3), (.slice A151_10 ((rd_T50 l0_2 a1).f3.f4).length c151_10), .int .i64 ((rd_T50 l0_2 a1).f3.f5), .int .i64 ((rd_T50 l0_2 a1).f3.f6), .int .i64 ((rd_T50 l0_2 a1).f3.f7)] 44 (0, 0))) ∧ Aside0 (Below w.heap.size w wc))
          case first =>
           have H := HC29.out
           clear HC29
           by_cases c32 : ((rd_T50 l0_2 a1).f3.f0) = 3
           ·rw [if_pos c32] at H
            have c32b0 : (((rd_T50 l0_2 a1).f3.f0) == 3) = true := beq_iff_eq.mpr c32
            have c32b1 : (((rd_T50 l0_2 a1).f3.f0) != 3) = false := bne_eq_false_iff_eq.mpr c32
            clear c32
            (first | rw [c32b0] | (simp only [i64_w, i32_w]; rw [c32b0]) | skip)
            by_cases c33 : x6_22.length < 17592186044416
            ·rw [if_pos c33] at H
             have LMc33 := Aside0.mk c33
             clear c33
             obtain ⟨y156, hy156⟩ : ∃ y_ : List Int, y_ = (x6_22 ++ [((rd_T50 l0_2 a1).f3.f6)]) := ⟨_, rfl⟩
             replace H : (davitref07_Next.j3 kj22 y156 a0_0 a0_1 l0_2 ((rd_T50 l0_2 a1).f3.f0) ((rd_T50 l0_2 a1).f3.f1) ((rd_T50 l0_2 a1).f3.f2) ((rd_T50 l0_2 a1).f3.f3) ((rd_T50 l0_2 a1).f3.f4) ((rd_T50 l0_2 a1).f3.f5) ((rd_T50 l0_2 a1).f3.f6) ((rd_T50 l0_2 a1).f3.f7)) = some r := by first | (rw [hy156]; with_reducible exact H) | (have H2_ := (Option.bind_some _ _).symm.trans H; rw [hy156]; with_reducible exact H2_) | (have H2_ := (Option.bind_some _ _).symm.trans H; with_reducible exact H2_) | with_reducible exact H | (rw [hy156]; exact H) | exact H
             have Ny156 := Aside0.mk hy156
             clear hy156
             have H' := Aside0.mk H
             clear H
             have hnb34 := NB152_150.out
             have hnc34 := NB150_152.out
             have hcz35_0 : wc.cell? ⟨gb152, 0, none⟩ = some (.int .i64 ((rd_T50 l0_2 a1).f3.f0)) := (blk_cell BK152.out 0).trans rfl
             have hcz35_1 : wc.cell? ⟨gb152, 1, none⟩ = some (.int .i64 ((rd_T50 l0_2 a1).f3.f1)) := (blk_cell BK152.out 1).trans rfl
             have hcz35_2 : wc.cell? ⟨gb152, 2, none⟩ = some (.int .i64 ((rd_T50 l0_2 a1).f3.f2)) := (blk_cell BK152.out 2).trans rfl
             have hcz35_3 : wc.cell? ⟨gb152, 3, none⟩ = some (.int .i64 ((rd_T50 l0_2 a1).f3.f3)) := (blk_cell BK152.out 3).trans rfl
             have hcz35_4 : wc.cell? ⟨gb152, 4, none⟩ = some (.slice A151_10 ((rd_T50 l0_2 a1).f3.f4).length c151_10) := (blk_cell BK152.out 4).trans rfl
             have hcz35_5 : wc.cell? ⟨gb152, 5, none⟩ = some (.int .i64 ((rd_T50 l0_2 a1).f3.f5)) := (blk_cell BK152.out 5).trans rfl
             have hcz35_6 : wc.cell? ⟨gb152, 6, none⟩ = some (.int .i64 ((rd_T50 l0_2 a1).f3.f6)) := (blk_cell BK152.out 6).trans rfl
             have hcz35_7 : wc.cell? ⟨gb152, 7, none⟩ = some (.int .i64 ((rd_T50 l0_2 a1).f3.f7)) := (blk_cell BK152.out 7).trans rfl
             have hfz35_0 := blk_frozen BK152.out 0
             have hfz35_1 := blk_frozen BK152.out 1
             have hfz35_2 := blk_frozen BK152.out 2
             have hfz35_3 := blk_frozen BK152.out 3
             have hfz35_4 := blk_frozen BK152.out 4
             have hfz35_5 := blk_frozen BK152.out 5
             have hfz35_6 := blk_frozen BK152.out 6
             have hfz35_7 := blk_frozen BK152.out 7
             go_wp2_with (first | ((with_reducible refine gate_builtin (b := .append) (xs := #[.tmp 45, .tmp 48]) rfl ?_); (try (refine gate_guard (by rfl) ?_; dsimp only)); at_builtin; refine Kd.R_append (Kd.int .i64) (w0 := w) w.heap.size rfl (.tmp 45) (.tmp 48) 27 3 (.int .i64 0) 8 rfl Try.underlying27 info3 rfl (by decide) (by omega) u6 x6_22 ((rd_T50 l0_2 a1).f3.f6) [.int .i64 ((rd_T50 l0_2 a1).f3.f6)] (fun _ => True) (fun _ => False) rfl rfl ?aP (fun _ hk => hk.elim) ?aF ?aO ?aB ?aS ?aL ?_; (case aP => exact rfl); (case aB => exact (by repeat (first | (with_reducible first | exact HB.out | apply below_alloc | apply pw_below_drewN | apply below_drew1 | refine below_set ?_ GE150.out | refine below_set ?_ GE152.out) | exact HB.out))); (case aF => exact (fun _ _ => trivial)); (case aO => exact (by (with_reducible repeat (first | apply Kd.R_alloc | apply Kd.R_drewN | apply Kd.R_drew)); exact HO_6.out)); (case aS => exact (below_size (by repeat (first | (with_reducible first | exact HB.out | apply below_alloc | apply pw_below_drewN | apply below_drew1 | refine below_set ?_ GE150.out | refine below_set ?_ GE152.out) | exact HB.out)))); (case aL => have := LMc33.out; omega); intro v157 w36 ho hb hg hat; rw [← Ny156.out] at ho; have n0_ := Aside0.mk (blk_grown (g := gb150) (o := .cells #[.int .i64 a0_0, .int .i64 a0_1, .slice (some ad151) l0_2.length c0_2] 24 (0, 0)) (by (with_reducible repeat (first | refine blk_drewN ?_ _ | refine blk_drew ?_ | refine blk_alloc ?_ _)); exact BK150.out) hg (Kd.R_ne HO_6.out BK150.out (by decide))); have n1_ := Aside0.mk (blk_grown (g := gb152) (o := .cells #[.int .i64 ((rd_T50 l0_2 a1).f3.f0), .int .i64 ((rd_T50 l0_2 a1).f3.f1), .int .i64 ((rd_T50 l0_2 a1).f3.f2), .int .i64 ((rd_T50 l0_2 a1).f3.f3), .slice A151_10 ((rd_T50 l0_2 a1).f3.f4).length c151_10, .int .i64 ((rd_T50 l0_2 a1).f3.f5), .int .i64 ((rd_T50 l0_2 a1).f3.f6), .int .i64 ((rd_T50 l0_2 a1).f3.f7)] 44 (0, 0)) (by (with_reducible repeat (first | refine blk_drewN ?_ _ | refine blk_drew ?_ | refine blk_alloc ?_ _)); exact BK152.out) hg (Kd.R_ne HO_6.out BK152.out (by decide))); have n2_ := Aside0.mk (hb); have n3_ := Aside0.mk (ho); clear BK150; clear BK152; clear HB; clear HO_6; have BK150 := n0_; have BK152 := n1_; have HB := n2_; have HO158 := n3_; clear n0_ n1_ n2_ n3_; clear ho hb hg hat))
             repeat (go_quiet (first | ((with_reducible refine gate_builtin (b := .append) (xs := #[.tmp 45, .tmp 48]) rfl ?_); (try (refine gate_guard (by rfl) ?_; dsimp only)); at_builtin; refine Kd.R_append (Kd.int .i64) (w0 := w) w.heap.size rfl (.tmp 45) (.tmp 48) 27 3 (.int .i64 0) 8 rfl Try.underlying27 info3 rfl (by decide) (by omega) u6 x6_22 ((rd_T50 l0_2 a1).f3.f6) [.int .i64 ((rd_T50 l0_2 a1).f3.f6)] (fun _ => True) (fun _ => False) rfl rfl ?aP (fun _ hk => hk.elim) ?aF ?aO ?aB ?aS ?aL ?_; (case aP => exact rfl); (case aB => exact (by repeat (first | (with_reducible first | exact HB.out | apply below_alloc | apply pw_below_drewN | apply below_drew1 | refine below_set ?_ GE150.out | refine below_set ?_ GE152.out) | exact HB.out))); (case aF => exact (fun _ _ => trivial)); (case aO => exact (by (with_reducible repeat (first | apply Kd.R_alloc | apply Kd.R_drewN | apply Kd.R_drew)); exact HO_6.out)); (case aS => exact (below_size (by repeat (first | (with_reducible first | exact HB.out | apply below_alloc | apply pw_below_drewN | apply below_drew1 | refine below_set ?_ GE150.out | refine below_set ?_ GE152.out) | exact HB.out)))); (case aL => have := LMc33.out; omega); intro v157 w36 ho hb hg hat; rw [← Ny156.out] at ho; have n0_ := Aside0.mk (blk_grown (g := gb150) (o := .cells #[.int .i64 a0_0, .int .i64 a0_1, .slice (some ad151) l0_2.length c0_2] 24 (0, 0)) (by (with_reducible repeat (first | refine blk_drewN ?_ _ | refine blk_drew ?_ | refine blk_alloc ?_ _)); exact BK150.out) hg (Kd.R_ne HO_6.out BK150.out (by decide))); have n1_ := Aside0.mk (blk_grown (g := gb152) (o := .cells #[.int .i64 ((rd_T50 l0_2 a1).f3.f0), .int .i64 ((rd_T50 l0_2 a1).f3.f1), .int .i64 ((rd_T50 l0_2 a1).f3.f2), .int .i64 ((rd_T50 l0_2 a1).f3.f3), .slice A151_10 ((rd_T50 l0_2 a1).f3.f4).length c151_10, .int .i64 ((rd_T50 l0_2 a1).f3.f5), .int .i64 ((rd_T50 l0_2 a1).f3.f6), .int .i64 ((rd_T50 l0_2 a1).f3.f7)] 44 (0, 0)) (by (with_reducible repeat (first | refine blk_drewN ?_ _ | refine blk_drew ?_ | refine blk_alloc ?_ _)); exact BK152.out) hg (Kd.R_ne HO_6.out BK152.out (by decide))); have n2_ := Aside0.mk (hb); have n3_ := Aside0.mk (ho); clear BK150; clear BK152; clear HB; clear HO_6; have BK150 := n0_; have BK152 := n1_; have HB := n2_; have HO158 := n3_; clear n0_ n1_ n2_ n3_; clear ho hb hg hat)); try go_wp2_with (first | ((with_reducible refine gate_builtin (b := .append) (xs := #[.tmp 45, .tmp 48]) rfl ?_); (try (refine gate_guard (by rfl) ?_; dsimp only)); at_builtin; refine Kd.R_append (Kd.int .i64) (w0 := w) w.heap.size rfl (.tmp 45) (.tmp 48) 27 3 (.int .i64 0) 8 rfl Try.underlying27 info3 rfl (by decide) (by omega) u6 x6_22 ((rd_T50 l0_2 a1).f3.f6) [.int .i64 ((rd_T50 l0_2 a1).f3.f6)] (fun _ => True) (fun _ => False) rfl rfl ?aP (fun _ hk => hk.elim) ?aF ?aO ?aB ?aS ?aL ?_; (case aP => exact rfl); (case aB => exact (by repeat (first | (with_reducible first | exact HB.out | apply below_alloc | apply pw_below_drewN | apply below_drew1 | refine below_set ?_ GE150.out | refine below_set ?_ GE152.out) | exact HB.out))); (case aF => exact (fun _ _ => trivial)); (case aO => exact (by (with_reducible repeat (first | apply Kd.R_alloc | apply Kd.R_drewN | apply Kd.R_drew)); exact HO_6.out)); (case aS => exact (below_size (by repeat (first | (with_reducible first | exact HB.out | apply below_alloc | apply pw_below_drewN | apply below_drew1 | refine below_set ?_ GE150.out | refine below_set ?_ GE152.out) | exact HB.out)))); (case aL => have := LMc33.out; omega); intro v157 w36 ho hb hg hat; rw [← Ny156.out] at ho; have n0_ := Aside0.mk (blk_grown (g := gb150) (o := .cells #[.int .i64 a0_0, .int .i64 a0_1, .slice (some ad151) l0_2.length c0_2] 24 (0, 0)) (by (with_reducible repeat (first | refine blk_drewN ?_ _ | refine blk_drew ?_ | refine blk_alloc ?_ _)); exact BK150.out) hg (Kd.R_ne HO_6.out BK150.out (by decide))); have n1_ := Aside0.mk (blk_grown (g := gb152) (o := .cells #[.int .i64 ((rd_T50 l0_2 a1).f3.f0), .int .i64 ((rd_T50 l0_2 a1).f3.f1), .int .i64 ((rd_T50 l0_2 a1).f3.f2), .int .i64 ((rd_T50 l0_2 a1).f3.f3), .slice A151_10 ((rd_T50 l0_2 a1).f3.f4).length c151_10, .int .i64 ((rd_T50 l0_2 a1).f3.f5), .int .i64 ((rd_T50 l0_2 a1).f3.f6), .int .i64 ((rd_T50 l0_2 a1).f3.f7)] 44 (0, 0)) (by (with_reducible repeat (first | refine blk_drewN ?_ _ | refine blk_drew ?_ | refine blk_alloc ?_ _)); exact BK152.out) hg (Kd.R_ne HO_6.out BK152.out (by decide))); have n2_ := Aside0.mk (hb); have n3_ := Aside0.mk (ho); clear BK150; clear BK152; clear HB; clear HO_6; have BK150 := n0_; have BK152 := n1_; have HB := n2_; have HO158 := n3_; clear n0_ n1_ n2_ n3_; clear ho hb hg hat)))
             go_meet
             case rel => exact ⟨_, (y156), H', ⟨by have := HJ2.out; have := HJ9.out; have := HJ22.out; first | omega | exact Nat.le_refl _⟩, ⟨by (with_reducible repeat (first | apply Kd.R_alloc | apply Kd.R_drewN | apply Kd.R_drew)); exact HO158.out⟩, ⟨by (with_reducible repeat (first | refine blk_drewN ?_ _ | refine blk_drew ?_ | refine blk_alloc ?_ _)); exact BK150.out⟩, ⟨by (with_reducible repeat (first | refine blk_drewN ?_ _ | refine blk_drew ?_ | refine blk_alloc ?_ _)); exact BK152.out⟩, ⟨by repeat (first | (with_reducible first | exact HB.out | apply below_alloc | apply pw_below_drewN | apply below_drew1 | refine below_set ?_ GE150.out | refine below_set ?_ GE152.out) | exact HB.out)⟩⟩
            ·rw [if_neg c33] at H
             exact absurd H (by simp)
           ·rw [if_neg c32] at H
            have c32b0 : (((rd_T50 l0_2 a1).f3.f0) == 3) = false := beq_eq_false_iff_ne.mpr c32
            have c32b1 : (((rd_T50 l0_2 a1).f3.f0) != 3) = true := bne_iff_ne.mpr c32
            (first | rw [c32b0] | (simp only [i64_w, i32_w]; rw [c32b0]) | skip)
            have H' := Aside0.mk H
            clear H
            go_wp2
            repeat (go_quiet (fail); try go_wp2)
            go_meet
            case rel => exact ⟨_, (x6_22), H', ⟨by have := HJ2.out; have := HJ9.out; have := HJ22.out; first | omega | exact Nat.le_refl _⟩, ⟨by (with_reducible repeat (first | apply Kd.R_alloc | apply Kd.R_drewN | apply Kd.R_drew)); exact HO_6.out⟩, ⟨by (with_reducible repeat (first | refine blk_drewN ?_ _ | refine blk_drew ?_ | refine blk_alloc ?_ _)); exact BK150.out⟩, ⟨by (with_reducible repeat (first | refine blk_drewN ?_ _ | refine blk_drew ?_ | refine blk_alloc ?_ _)); exact BK152.out⟩, ⟨by repeat (first | (with_reducible first | exact HB.out | apply below_alloc | apply pw_below_drewN | apply below_drew1 | refine below_set ?_ GE150.out | refine below_set ?_ GE152.out) | exact HB.out)⟩⟩
          case rest =>
           clear HC29
           try clear c1
           try clear p1
           try clear q1
           try clear hx1
           try clear c2
           try clear p2
           try clear c3
           try clear c5
           try clear c5b0
           try clear c7
           try clear c8
           try clear c8b0
           try clear c9
           try clear c9b0
           try clear c13
           try clear c15
           try clear c15b0
           try clear c15b1
           try clear p15
           try clear q15
           try clear hx15
           try clear c16
           try clear c18
           try clear c18b0
           try clear c18b1
           try clear c19
           try clear c21
           try clear c24
           try clear c25
           try clear c26
           try clear c30
           try clear c32
           try clear c32b0
           try clear c32b1
           try clear c33
           try clear c34
           try clear hcz11_0
           try clear hcz11_1
           try clear hcz11_2
           try clear hcz14_0
           try clear hcz14_1
           try clear hcz14_2
           try clear hcz14_3
           try clear hcz14_4
           try clear hcz14_5
           try clear hcz14_6
           try clear hcz14_7
           try clear hcz17_0
           try clear hcz17_1
           try clear hcz17_2
           try clear hcz17_3
           try clear hcz17_4
           try clear hcz17_5
           try clear hcz17_6
           try clear hcz17_7
           try clear hcz20_0
           try clear hcz20_1
           try clear hcz20_2
           try clear hcz20_3
           try clear hcz20_4
           try clear hcz20_5
           try clear hcz20_6
           try clear hcz20_7
           try clear hcz22_0
           try clear hcz22_1
           try clear hcz22_2
           try clear hcz22_3
           try clear hcz22_4
           try clear hcz22_5
           try clear hcz22_6
           try clear hcz22_7
           try clear hcz27_0
           try clear hcz27_1
           try clear hcz27_2
           try clear hcz27_3
           try clear hcz27_4
           try clear hcz27_5
           try clear hcz27_6
           try clear hcz27_7
           try clear hcz31_0
           try clear hcz31_1
           try clear hcz31_2
           try clear hcz31_3
           try clear hcz31_4
           try clear hcz31_5
           try clear hcz31_6
           try clear hcz31_7
           try clear hcz35_0
           try clear hcz35_1
           try clear hcz35_2
           try clear hcz35_3
           try clear hcz35_4
           try clear hcz35_5
           try clear hcz35_6
           try clear hcz35_7
           try clear hcz6_0
           try clear hcz6_1
           try clear hcz6_2
           try clear hfz11_0
           try clear hfz11_1
           try clear hfz11_2
           try clear hfz14_0
           try clear hfz14_1
           try clear hfz14_2
           try clear hfz14_3
           try clear hfz14_4
           try clear hfz14_5
           try clear hfz14_6
           try clear hfz14_7
           try clear hfz17_0
           try clear hfz17_1
           try clear hfz17_2
           try clear hfz17_3
           try clear hfz17_4
           try clear hfz17_5
           try clear hfz17_6
           try clear hfz17_7
           try clear hfz20_0
           try clear hfz20_1
           try clear hfz20_2
           try clear hfz20_3
           try clear hfz20_4
           try clear hfz20_5
           try clear hfz20_6
           try clear hfz20_7
           try clear hfz22_0
           try clear hfz22_1
           try clear hfz22_2
           try clear hfz22_3
           try clear hfz22_4
           try clear hfz22_5
           try clear hfz22_6
           try clear hfz22_7
           try clear hfz27_0
           try clear hfz27_1
           try clear hfz27_2
           try clear hfz27_3
           try clear hfz27_4
           try clear hfz27_5
           try clear hfz27_6
           try clear hfz27_7
           try clear hfz31_0
           try clear hfz31_1
           try clear hfz31_2
           try clear hfz31_3
           try clear hfz31_4
           try clear hfz31_5
           try clear hfz31_6
           try clear hfz31_7
           try clear hfz35_0
           try clear hfz35_1
           try clear hfz35_2
           try clear hfz35_3
           try clear hfz35_4
           try clear hfz35_5
           try clear hfz35_6
           try clear hfz35_7
           try clear hfz6_0
           try clear hfz6_1
           try clear hfz6_2
           try clear hx151_0
           try clear hx151_1
           try clear hx151_10
           try clear hx151_11
           try clear hx151_12
           try clear hx151_13
           try clear hx151_2
           try clear hx151_3
           try clear hx151_4
           try clear hx151_5
           try clear hx151_6
           try clear hx151_7
           try clear hx151_8
           try clear hx151_9
           try clear p1
           try clear p15
           try clear p151
           try clear p2
           try clear q1
           try clear q15
           try clear q151
           obtain ⟨kq, x6_28, HA, HJ28, HO_6, BK150, BK152, HB⟩ := hcut
           cases kq with
           | zero => exact absurd HA.out (by simp [davitref07_Next.j3])
           | succ kj28 =>
            have H := HA.out
            clear HA
            simp only [davitref07_Next.j3] at H
            have HC37 := Aside0.mk H
            clear H
            have hnb38 := NB152_150.out
            have hnc38 := NB150_152.out
            have hcz39_0 : wc.cell? ⟨gb152, 0, none⟩ = some (.int .i64 ((rd_T50 l0_2 a1).f3.f0)) := (blk_cell BK152.out 0).trans rfl
            have hcz39_1 : wc.cell? ⟨gb152, 1, none⟩ = some (.int .i64 ((rd_T50 l0_2 a1).f3.f1)) := (blk_cell BK152.out 1).trans rfl
            have hcz39_2 : wc.cell? ⟨gb152, 2, none⟩ = some (.int .i64 ((rd_T50 l0_2 a1).f3.f2)) := (blk_cell BK152.out 2).trans rfl
            have hcz39_3 : wc.cell? ⟨gb152, 3, none⟩ = some (.int .i64 ((rd_T50 l0_2 a1).f3.f3)) := (blk_cell BK152.out 3).trans rfl
            have hcz39_4 : wc.cell? ⟨gb152, 4, none⟩ = some (.slice A151_10 ((rd_T50 l0_2 a1).f3.f4).length c151_10) := (blk_cell BK152.out 4).trans rfl
            have hcz39_5 : wc.cell? ⟨gb152, 5, none⟩ = some (.int .i64 ((rd_T50 l0_2 a1).f3.f5)) := (blk_cell BK152.out 5).trans rfl
            have hcz39_6 : wc.cell? ⟨gb152, 6, none⟩ = some (.int .i64 ((rd_T50 l0_2 a1).f3.f6)) := (blk_cell BK152.out 6).trans rfl
            have hcz39_7 : wc.cell? ⟨gb152, 7, none⟩ = some (.int .i64 ((rd_T50 l0_2 a1).f3.f7)) := (blk_cell BK152.out 7).trans rfl
            have hfz39_0 := blk_frozen BK152.out 0
            have hfz39_1 := blk_frozen BK152.out 1
            have hfz39_2 := blk_frozen BK152.out 2
            have hfz39_3 := blk_frozen BK152.out 3
            have hfz39_4 := blk_frozen BK152.out 4
            have hfz39_5 := blk_frozen BK152.out 5
            have hfz39_6 := blk_frozen BK152.out 6
            have hfz39_7 := blk_frozen BK152.out 7
            go_upto_if 52 with (fail)
            repeat (go_quiet (fail); go_upto_if 52 with (fail))
            go_cut [6] (fun v6 wc => ∃ (kq : Nat) (x6_36 : List Int), Aside0 (davitref07_Next.j4 kq x6_36 a0_0 a0_1 l0_2 = some r) ∧ Aside0 (kq ≤ kj28) ∧ Aside0 (Kd.R (Kd.int .i64) 3 wc w.heap.size (fun _ => True) v6 x6_36) ∧ Aside0 (wc.heap[gb150]? = some (.cells #[.int .i64 a0_0, .int .i64 a0_1, (.slice (some ad151) l0_2.length c0_2)] 24 (0, 0))) ∧ Aside0 (wc.heap[gb152]? = some (.cells #[.int .i64 ((rd_T50 l0_2 a1).f3.f0), .int .i64 ((rd_T50 l0_2 a1).f3.f1), .int .i64 ((rd_T50 l0_2 a1).f3.f2), .int .i64 ((rd_T50 l0_2 a1).f3.f3), (.slice A151_10 ((rd_T50 l0_2 a1).f3.f4).length c151_10), .int .i64 ((rd_T50 l0_2 a1).f3.f5), .int .i64 ((rd_T50 l0_2 a1).f3.f6), .int .i64 ((rd_T50 l0_2 a1).f3.f7)] 44 (0, 0))) ∧ Aside0 (Below w.heap.size w wc))
            case first =>
             have H := HC37.out
             clear HC37
             by_cases c40 : ((rd_T50 l0_2 a1).f3.f0) = 4
             ·rw [if_pos c40] at H
              have c40b0 : (((rd_T50 l0_2 a1).f3.f0) == 4) = true := beq_iff_eq.mpr c40
              have c40b1 : (((rd_T50 l0_2 a1).f3.f0) != 4) = false := bne_eq_false_iff_eq.mpr c40
              clear c40
              (first | rw [c40b0] | (simp only [i64_w, i32_w]; rw [c40b0]) | skip)
              by_cases c41 : x6_28.length < 17592186044416
              ·rw [if_pos c41] at H
               have LMc41 := Aside0.mk c41
               clear c41
               obtain ⟨y159, hy159⟩ : ∃ y_ : List Int, y_ = (x6_28 ++ [((rd_T50 l0_2 a1).f3.f7)]) := ⟨_, rfl⟩
               replace H : (davitref07_Next.j4 kj28 y159 a0_0 a0_1 l0_2) = some r := by first | (rw [hy159]; with_reducible exact H) | (have H2_ := (Option.bind_some _ _).symm.trans H; rw [hy159]; with_reducible exact H2_) | (have H2_ := (Option.bind_some _ _).symm.trans H; with_reducible exact H2_) | with_reducible exact H | (rw [hy159]; exact H) | exact H
               have Ny159 := Aside0.mk hy159
               clear hy159
               have H' := Aside0.mk H
               clear H
               have hnb42 := NB152_150.out
               have hnc42 := NB150_152.out
               have hcz43_0 : wc.cell? ⟨gb152, 0, none⟩ = some (.int .i64 ((rd_T50 l0_2 a1).f3.f0)) := (blk_cell BK152.out 0).trans rfl
               have hcz43_1 : wc.cell? ⟨gb152, 1, none⟩ = some (.int .i64 ((rd_T50 l0_2 a1).f3.f1)) := (blk_cell BK152.out 1).trans rfl
               have hcz43_2 : wc.cell? ⟨gb152, 2, none⟩ = some (.int .i64 ((rd_T50 l0_2 a1).f3.f2)) := (blk_cell BK152.out 2).trans rfl
               have hcz43_3 : wc.cell? ⟨gb152, 3, none⟩ = some (.int .i64 ((rd_T50 l0_2 a1).f3.f3)) := (blk_cell BK152.out 3).trans rfl
               have hcz43_4 : wc.cell? ⟨gb152, 4, none⟩ = some (.slice A151_10 ((rd_T50 l0_2 a1).f3.f4).length c151_10) := (blk_cell BK152.out 4).trans rfl
               have hcz43_5 : wc.cell? ⟨gb152, 5, none⟩ = some (.int .i64 ((rd_T50 l0_2 a1).f3.f5)) := (blk_cell BK152.out 5).trans rfl
               have hcz43_6 : wc.cell? ⟨gb152, 6, none⟩ = some (.int .i64 ((rd_T50 l0_2 a1).f3.f6)) := (blk_cell BK152.out 6).trans rfl
               have hcz43_7 : wc.cell? ⟨gb152, 7, none⟩ = some (.int .i64 ((rd_T50 l0_2 a1).f3.f7)) := (blk_cell BK152.out 7).trans rfl
               have hfz43_0 := blk_frozen BK152.out 0
               have hfz43_1 := blk_frozen BK152.out 1
               have hfz43_2 := blk_frozen BK152.out 2
               have hfz43_3 := blk_frozen BK152.out 3
               have hfz43_4 := blk_frozen BK152.out 4
               have hfz43_5 := blk_frozen BK152.out 5
               have hfz43_6 := blk_frozen BK152.out 6
               have hfz43_7 := blk_frozen BK152.out 7
               go_wp2_with (first | ((with_reducible refine gate_builtin (b := .append) (xs := #[.tmp 53, .tmp 56]) rfl ?_); (try (refine gate_guard (by rfl) ?_; dsimp only)); at_builtin; refine Kd.R_append (Kd.int .i64) (w0 := w) w.heap.size rfl (.tmp 53) (.tmp 56) 27 3 (.int .i64 0) 8 rfl Try.underlying27 info3 rfl (by decide) (by omega) u6 x6_28 ((rd_T50 l0_2 a1).f3.f7) [.int .i64 ((rd_T50 l0_2 a1).f3.f7)] (fun _ => True) (fun _ => False) rfl rfl ?aP (fun _ hk => hk.elim) ?aF ?aO ?aB ?aS ?aL ?_; (case aP => exact rfl); (case aB => exact (by repeat (first | (with_reducible first | exact HB.out | apply below_alloc | apply pw_below_drewN | apply below_drew1 | refine below_set ?_ GE150.out | refine below_set ?_ GE152.out) | exact HB.out))); (case aF => exact (fun _ _ => trivial)); (case aO => exact (by (with_reducible repeat (first | apply Kd.R_alloc | apply Kd.R_drewN | apply Kd.R_drew)); exact HO_6.out)); (case aS => exact (below_size (by repeat (first | (with_reducible first | exact HB.out | apply below_alloc | apply pw_below_drewN | apply below_drew1 | refine below_set ?_ GE150.out | refine below_set ?_ GE152.out) | exact HB.out)))); (case aL => have := LMc41.out; omega); intro v160 w44 ho hb hg hat; rw [← Ny159.out] at ho; have n0_ := Aside0.mk (blk_grown (g := gb150) (o := .cells #[.int .i64 a0_0, .int .i64 a0_1, .slice (some ad151) l0_2.length c0_2] 24 (0, 0)) (by (with_reducible repeat (first | refine blk_drewN ?_ _ | refine blk_drew ?_ | refine blk_alloc ?_ _)); exact BK150.out) hg (Kd.R_ne HO_6.out BK150.out (by decide))); have n1_ := Aside0.mk (blk_grown (g := gb152) (o := .cells #[.int .i64 ((rd_T50 l0_2 a1).f3.f0), .int .i64 ((rd_T50 l0_2 a1).f3.f1), .int .i64 ((rd_T50 l0_2 a1).f3.f2), .int .i64 ((rd_T50 l0_2 a1).f3.f3), .slice A151_10 ((rd_T50 l0_2 a1).f3.f4).length c151_10, .int .i64 ((rd_T50 l0_2 a1).f3.f5), .int .i64 ((rd_T50 l0_2 a1).f3.f6), .int .i64 ((rd_T50 l0_2 a1).f3.f7)] 44 (0, 0)) (by (with_reducible repeat (first | refine blk_drewN ?_ _ | refine blk_drew ?_ | refine blk_alloc ?_ _)); exact BK152.out) hg (Kd.R_ne HO_6.out BK152.out (by decide))); have n2_ := Aside0.mk (hb); have n3_ := Aside0.mk (ho); clear BK150; clear BK152; clear HB; clear HO_6; have BK150 := n0_; have BK152 := n1_; have HB := n2_; have HO161 := n3_; clear n0_ n1_ n2_ n3_; clear ho hb hg hat))
               repeat (go_quiet (first | ((with_reducible refine gate_builtin (b := .append) (xs := #[.tmp 53, .tmp 56]) rfl ?_); (try (refine gate_guard (by rfl) ?_; dsimp only)); at_builtin; refine Kd.R_append (Kd.int .i64) (w0 := w) w.heap.size rfl (.tmp 53) (.tmp 56) 27 3 (.int .i64 0) 8 rfl Try.underlying27 info3 rfl (by decide) (by omega) u6 x6_28 ((rd_T50 l0_2 a1).f3.f7) [.int .i64 ((rd_T50 l0_2 a1).f3.f7)] (fun _ => True) (fun _ => False) rfl rfl ?aP (fun _ hk => hk.elim) ?aF ?aO ?aB ?aS ?aL ?_; (case aP => exact rfl); (case aB => exact (by repeat (first | (with_reducible first | exact HB.out | apply below_alloc | apply pw_below_drewN | apply below_drew1 | refine below_set ?_ GE150.out | refine below_set ?_ GE152.out) | exact HB.out))); (case aF => exact (fun _ _ => trivial)); (case aO => exact (by (with_reducible repeat (first | apply Kd.R_alloc | apply Kd.R_drewN | apply Kd.R_drew)); exact HO_6.out)); (case aS => exact (below_size (by repeat (first | (with_reducible first | exact HB.out | apply below_alloc | apply pw_below_drewN | apply below_drew1 | refine below_set ?_ GE150.out | refine below_set ?_ GE152.out) | exact HB.out)))); (case aL => have := LMc41.out; omega); intro v160 w44 ho hb hg hat; rw [← Ny159.out] at ho; have n0_ := Aside0.mk (blk_grown (g := gb150) (o := .cells #[.int .i64 a0_0, .int .i64 a0_1, .slice (some ad151) l0_2.length c0_2] 24 (0, 0)) (by (with_reducible repeat (first | refine blk_drewN ?_ _ | refine blk_drew ?_ | refine blk_alloc ?_ _)); exact BK150.out) hg (Kd.R_ne HO_6.out BK150.out (by decide))); have n1_ := Aside0.mk (blk_grown (g := gb152) (o := .cells #[.int .i64 ((rd_T50 l0_2 a1).f3.f0), .int .i64 ((rd_T50 l0_2 a1).f3.f1), .int .i64 ((rd_T50 l0_2 a1).f3.f2), .int .i64 ((rd_T50 l0_2 a1).f3.f3), .slice A151_10 ((rd_T50 l0_2 a1).f3.f4).length c151_10, .int .i64 ((rd_T50 l0_2 a1).f3.f5), .int .i64 ((rd_T50 l0_2 a1).f3.f6), .int .i64 ((rd_T50 l0_2 a1).f3.f7)] 44 (0, 0)) (by (with_reducible repeat (first | refine blk_drewN ?_ _ | refine blk_drew ?_ | refine blk_alloc ?_ _)); exact BK152.out) hg (Kd.R_ne HO_6.out BK152.out (by decide))); have n2_ := Aside0.mk (hb); have n3_ := Aside0.mk (ho); clear BK150; clear BK152; clear HB; clear HO_6; have BK150 := n0_; have BK152 := n1_; have HB := n2_; have HO161 := n3_; clear n0_ n1_ n2_ n3_; clear ho hb hg hat)); try go_wp2_with (first | ((with_reducible refine gate_builtin (b := .append) (xs := #[.tmp 53, .tmp 56]) rfl ?_); (try (refine gate_guard (by rfl) ?_; dsimp only)); at_builtin; refine Kd.R_append (Kd.int .i64) (w0 := w) w.heap.size rfl (.tmp 53) (.tmp 56) 27 3 (.int .i64 0) 8 rfl Try.underlying27 info3 rfl (by decide) (by omega) u6 x6_28 ((rd_T50 l0_2 a1).f3.f7) [.int .i64 ((rd_T50 l0_2 a1).f3.f7)] (fun _ => True) (fun _ => False) rfl rfl ?aP (fun _ hk => hk.elim) ?aF ?aO ?aB ?aS ?aL ?_; (case aP => exact rfl); (case aB => exact (by repeat (first | (with_reducible first | exact HB.out | apply below_alloc | apply pw_below_drewN | apply below_drew1 | refine below_set ?_ GE150.out | refine below_set ?_ GE152.out) | exact HB.out))); (case aF => exact (fun _ _ => trivial)); (case aO => exact (by (with_reducible repeat (first | apply Kd.R_alloc | apply Kd.R_drewN | apply Kd.R_drew)); exact HO_6.out)); (case aS => exact (below_size (by repeat (first | (with_reducible first | exact HB.out | apply below_alloc | apply pw_below_drewN | apply below_drew1 | refine below_set ?_ GE150.out | refine below_set ?_ GE152.out) | exact HB.out)))); (case aL => have := LMc41.out; omega); intro v160 w44 ho hb hg hat; rw [← Ny159.out] at ho; have n0_ := Aside0.mk (blk_grown (g := gb150) (o := .cells #[.int .i64 a0_0, .int .i64 a0_1, .slice (some ad151) l0_2.length c0_2] 24 (0, 0)) (by (with_reducible repeat (first | refine blk_drewN ?_ _ | refine blk_drew ?_ | refine blk_alloc ?_ _)); exact BK150.out) hg (Kd.R_ne HO_6.out BK150.out (by decide))); have n1_ := Aside0.mk (blk_grown (g := gb152) (o := .cells #[.int .i64 ((rd_T50 l0_2 a1).f3.f0), .int .i64 ((rd_T50 l0_2 a1).f3.f1), .int .i64 ((rd_T50 l0_2 a1).f3.f2), .int .i64 ((rd_T50 l0_2 a1).f3.f3), .slice A151_10 ((rd_T50 l0_2 a1).f3.f4).length c151_10, .int .i64 ((rd_T50 l0_2 a1).f3.f5), .int .i64 ((rd_T50 l0_2 a1).f3.f6), .int .i64 ((rd_T50 l0_2 a1).f3.f7)] 44 (0, 0)) (by (with_reducible repeat (first | refine blk_drewN ?_ _ | refine blk_drew ?_ | refine blk_alloc ?_ _)); exact BK152.out) hg (Kd.R_ne HO_6.out BK152.out (by decide))); have n2_ := Aside0.mk (hb); have n3_ := Aside0.mk (ho); clear BK150; clear BK152; clear HB; clear HO_6; have BK150 := n0_; have BK152 := n1_; have HB := n2_; have HO161 := n3_; clear n0_ n1_ n2_ n3_; clear ho hb hg hat)))
               go_meet
               case rel => exact ⟨_, (y159), H', ⟨by have := HJ2.out; have := HJ9.out; have := HJ22.out; have := HJ28.out; first | omega | exact Nat.le_refl _⟩, ⟨by (with_reducible repeat (first | apply Kd.R_alloc | apply Kd.R_drewN | apply Kd.R_drew)); exact HO161.out⟩, ⟨by (with_reducible repeat (first | refine blk_drewN ?_ _ | refine blk_drew ?_ | refine blk_alloc ?_ _)); exact BK150.out⟩, ⟨by (with_reducible repeat (first | refine blk_drewN ?_ _ | refine blk_drew ?_ | refine blk_alloc ?_ _)); exact BK152.out⟩, ⟨by repeat (first | (with_reducible first | exact HB.out | apply below_alloc | apply pw_below_drewN | apply below_drew1 | refine below_set ?_ GE150.out | refine below_set ?_ GE152.out) | exact HB.out)⟩⟩
              ·rw [if_neg c41] at H
               exact absurd H (by simp)
             ·rw [if_neg c40] at H
              have c40b0 : (((rd_T50 l0_2 a1).f3.f0) == 4) = false := beq_eq_false_iff_ne.mpr c40
              have c40b1 : (((rd_T50 l0_2 a1).f3.f0) != 4) = true := bne_iff_ne.mpr c40
              (first | rw [c40b0] | (simp only [i64_w, i32_w]; rw [c40b0]) | skip)
              have H' := Aside0.mk H
              clear H
              go_wp2
              repeat (go_quiet (fail); try go_wp2)
              go_meet
              case rel => exact ⟨_, (x6_28), H', ⟨by have := HJ2.out; have := HJ9.out; have := HJ22.out; have := HJ28.out; first | omega | exact Nat.le_refl _⟩, ⟨by (with_reducible repeat (first | apply Kd.R_alloc | apply Kd.R_drewN | apply Kd.R_drew)); exact HO_6.out⟩, ⟨by (with_reducible repeat (first | refine blk_drewN ?_ _ | refine blk_drew ?_ | refine blk_alloc ?_ _)); exact BK150.out⟩, ⟨by (with_reducible repeat (first | refine blk_drewN ?_ _ | refine blk_drew ?_ | refine blk_alloc ?_ _)); exact BK152.out⟩, ⟨by repeat (first | (with_reducible first | exact HB.out | apply below_alloc | apply pw_below_drewN | apply below_drew1 | refine below_set ?_ GE150.out | refine below_set ?_ GE152.out) | exact HB.out)⟩⟩
            case rest =>
             clear HC37
             try clear c1
             try clear p1
             try clear q1
             try clear hx1
             try clear c2
             try clear p2
             try clear c3
             try clear c4
             try clear c5
             try clear c5b0
             try clear c7
             try clear c8
             try clear c8b0
             try clear c9
             try clear c9b0
             try clear c13
             try clear c15
             try clear c15b0
             try clear c15b1
             try clear p15
             try clear q15
             try clear hx15
             try clear c16
             try clear c18
             try clear c18b0
             try clear c18b1
             try clear c19
             try clear c21
             try clear c24
             try clear c25
             try clear c26
             try clear c30
             try clear c32
             try clear c32b0
             try clear c32b1
             try clear c33
             try clear c34
             try clear c38
             try clear c40
             try clear c40b0
             try clear c40b1
             try clear c41
             try clear c42
             try clear hcz11_0
             try clear hcz11_1
             try clear hcz11_2
             try clear hcz14_0
             try clear hcz14_1
             try clear hcz14_2
             try clear hcz14_3
             try clear hcz14_4
             try clear hcz14_5
             try clear hcz14_6
             try clear hcz14_7
             try clear hcz17_0
             try clear hcz17_1
             try clear hcz17_2
             try clear hcz17_3
             try clear hcz17_4
             try clear hcz17_5
             try clear hcz17_6
             try clear hcz17_7
             try clear hcz20_0
             try clear hcz20_1
             try clear hcz20_2
             try clear hcz20_3
             try clear hcz20_4
             try clear hcz20_5
             try clear hcz20_6
             try clear hcz20_7
             try clear hcz22_0
             try clear hcz22_1
             try clear hcz22_2
             try clear hcz22_3
             try clear hcz22_4
             try clear hcz22_5
             try clear hcz22_6
             try clear hcz22_7
             try clear hcz27_0
             try clear hcz27_1
             try clear hcz27_2
             try clear hcz27_3
             try clear hcz27_4
             try clear hcz27_5
             try clear hcz27_6
             try clear hcz27_7
             try clear hcz31_0
             try clear hcz31_1
             try clear hcz31_2
             try clear hcz31_3
             try clear hcz31_4
             try clear hcz31_5
             try clear hcz31_6
             try clear hcz31_7
             try clear hcz35_0
             try clear hcz35_1
             try clear hcz35_2
             try clear hcz35_3
             try clear hcz35_4
             try clear hcz35_5
             try clear hcz35_6
             try clear hcz35_7
             try clear hcz39_0
             try clear hcz39_1
             try clear hcz39_2
             try clear hcz39_3
             try clear hcz39_4
             try clear hcz39_5
             try clear hcz39_6
             try clear hcz39_7
             try clear hcz43_0
             try clear hcz43_1
             try clear hcz43_2
             try clear hcz43_3
             try clear hcz43_4
             try clear hcz43_5
             try clear hcz43_6
             try clear hcz43_7
             try clear hcz6_0
             try clear hcz6_1
             try clear hcz6_2
             try clear hfz11_0
             try clear hfz11_1
             try clear hfz11_2
             try clear hfz14_0
             try clear hfz14_1
             try clear hfz14_2
             try clear hfz14_3
             try clear hfz14_4
             try clear hfz14_5
             try clear hfz14_6
             try clear hfz14_7
             try clear hfz17_0
             try clear hfz17_1
             try clear hfz17_2
             try clear hfz17_3
             try clear hfz17_4
             try clear hfz17_5
             try clear hfz17_6
             try clear hfz17_7
             try clear hfz20_0
             try clear hfz20_1
             try clear hfz20_2
             try clear hfz20_3
             try clear hfz20_4
             try clear hfz20_5
             try clear hfz20_6
             try clear hfz20_7
             try clear hfz22_0
             try clear hfz22_1
             try clear hfz22_2
             try clear hfz22_3
             try clear hfz22_4
             try clear hfz22_5
             try clear hfz22_6
             try clear hfz22_7
             try clear hfz27_0
             try clear hfz27_1
             try clear hfz27_2
             try clear hfz27_3
             try clear hfz27_4
             try clear hfz27_5
             try clear hfz27_6
             try clear hfz27_7
             try clear hfz31_0
             try clear hfz31_1
             try clear hfz31_2
             try clear hfz31_3
             try clear hfz31_4
             try clear hfz31_5
             try clear hfz31_6
             try clear hfz31_7
             try clear hfz35_0
             try clear hfz35_1
             try clear hfz35_2
             try clear hfz35_3
             try clear hfz35_4
             try clear hfz35_5
             try clear hfz35_6
             try clear hfz35_7
             try clear hfz39_0
             try clear hfz39_1
             try clear hfz39_2
             try clear hfz39_3
             try clear hfz39_4
             try clear hfz39_5
             try clear hfz39_6
             try clear hfz39_7
             try clear hfz43_0
             try clear hfz43_1
             try clear hfz43_2
             try clear hfz43_3
             try clear hfz43_4
             try clear hfz43_5
             try clear hfz43_6
             try clear hfz43_7
             try clear hfz6_0
             try clear hfz6_1
             try clear hfz6_2
             try clear hx151_0
             try clear hx151_1
             try clear hx151_10
             try clear hx151_11
             try clear hx151_12
             try clear hx151_13
             try clear hx151_2
             try clear hx151_3
             try clear hx151_4
             try clear hx151_5
             try clear hx151_6
             try clear hx151_7
             try clear hx151_8
             try clear hx151_9
             try clear p1
             try clear p15
             try clear p151
             try clear p2
             try clear q1
             try clear q15
             try clear q151
             obtain ⟨kq, x6_36, HA, HJ36, HO_6, BK150, BK152, HB⟩ := hcut
             cases kq with
             | zero => exact absurd HA.out (by simp [davitref07_Next.j4])
             | succ kj36 =>
              have H := HA.out
              clear HA
              simp only [davitref07_Next.j4] at H
              have H' := Aside0.mk H
              clear H
              go_wp2
              repeat (go_quiet (fail); try go_wp2)
              go_loopg [7, 8] kj36 (fun kq v7 v8 w' => ∃ (x7_6 : List Int) (x8_6 : Int), v8 = .int .i64 x8_6 ∧ Aside0 (davitref07_Next.l0 kq x6_36 x7_6 x8_6 a0_0 a0_1 l0_2 = some r) ∧ Aside0 (kq ≤ kj36) ∧ Aside0 (Kd.R (Kd.int .i64) 3 w' w.heap.size (fun k_ => some k_ ≠ (v7 : Value).ownBlock) u6 x6_36) ∧ Aside0 (Kd.R (Kd.int .i64) 3 w' w.heap.size (fun k_ => some k_ ≠ (u6 : Value).ownBlock) v7 x7_6) ∧ Aside0 (w'.heap[gb150]? = some (.cells #[.int .i64 a0_0, .int .i64 a0_1, (.slice (some ad151) l0_2.length c0_2)] 24 (0, 0))) ∧ Aside0 (w'.heap[gb152]? = some (.cells #[.int .i64 ((rd_T50 l0_2 a1).f3.f0), .int .i64 ((rd_T50 l0_2 a1).f3.f1), .int .i64 ((rd_T50 l0_2 a1).f3.f2), .int .i64 ((rd_T50 l0_2 a1).f3.f3), (.slice A151_10 ((rd_T50 l0_2 a1).f3.f4).length c151_10), .int .i64 ((rd_T50 l0_2 a1).f3.f5), .int .i64 ((rd_T50 l0_2 a1).f3.f6), .int .i64 ((rd_T50 l0_2 a1).f3.f7)] 44 (0, 0))) ∧ Aside0 (Below w.heap.size w w'))
              case atStart => exact ⟨(([] : List Int)), (0), (by first | rfl | (simp; done) | (simp [*]; done)), H', ⟨Nat.le_refl _⟩, ⟨by (with_reducible repeat (first | apply Kd.R_alloc | apply Kd.R_drewN | apply Kd.R_drew)); exact Kd.R_mono HO_6.out (fun _ hk => (by simp [Value.ownBlock]))⟩, ⟨by first | exact Kd.R_nil _ _ _ _ _ | exact Kd.N_nil _ _ _ _ _ | exact Kd.V_nil _ _ _ _ _ | exact Kd.Q_nil _ _ _ _ _ | exact Kd.S_nil _ _ _ _ _⟩, ⟨by (with_reducible repeat (first | refine blk_drewN ?_ _ | refine blk_drew ?_ | refine blk_alloc ?_ _)); exact BK150.out⟩, ⟨by (with_reducible repeat (first | refine blk_drewN ?_ _ | refine blk_drew ?_ | refine blk_alloc ?_ _)); exact BK152.out⟩, ⟨by repeat (first | (with_reducible first | exact HB.out | apply below_alloc | apply pw_below_drewN | apply below_drew1 | refine below_set ?_ GE150.out | refine below_set ?_ GE152.out) | exact HB.out)⟩⟩
              case round =>
               clear H'
               try clear c1
               try clear p1
               try clear q1
               try clear hx1
               try clear c2
               try clear p2
               try clear c3
               try clear c4
               try clear c5
               try clear c5b0
               try clear c7
               try clear c8
               try clear c8b0
               try clear c9
               try clear c9b0
               try clear c13
               try clear c15
               try clear c15b0
               try clear c15b1
               try clear p15
               try clear q15
               try clear hx15
               try clear c16
               try clear c18
               try clear c18b0
               try clear c18b1
               try clear c19
               try clear c21
               try clear c24
               try clear c25
               try clear c26
               try clear c30
               try clear c32
               try clear c32b0
               try clear c32b1
               try clear c33
               try clear c34
               try clear c38
               try clear c40
               try clear c40b0
               try clear c40b1
               try clear c41
               try clear c42
               try clear hcz11_0
               try clear hcz11_1
               try clear hcz11_2
               try clear hcz14_0
               try clear hcz14_1
               try clear hcz14_2
               try clear hcz14_3
               try clear hcz14_4
               try clear hcz14_5
               try clear hcz14_6
               try clear hcz14_7
               try clear hcz17_0
               try clear hcz17_1
               try clear hcz17_2
               try clear hcz17_3
               try clear hcz17_4
               try clear hcz17_5
               try clear hcz17_6
               try clear hcz17_7
               try clear hcz20_0
               try clear hcz20_1
               try clear hcz20_2
               try clear hcz20_3
               try clear hcz20_4
               try clear hcz20_5
               try clear hcz20_6
               try clear hcz20_7
               try clear hcz22_0
               try clear hcz22_1
               try clear hcz22_2
               try clear hcz22_3
               try clear hcz22_4
               try clear hcz22_5
               try clear hcz22_6
               try clear hcz22_7
               try clear hcz27_0
               try clear hcz27_1
               try clear hcz27_2
               try clear hcz27_3
               try clear hcz27_4
               try clear hcz27_5
               try clear hcz27_6
               try clear hcz27_7
               try clear hcz31_0
               try clear hcz31_1
               try clear hcz31_2
               try clear hcz31_3
               try clear hcz31_4
               try clear hcz31_5
               try clear hcz31_6
               try clear hcz31_7
               try clear hcz35_0
               try clear hcz35_1
               try clear hcz35_2
               try clear hcz35_3
               try clear hcz35_4
               try clear hcz35_5
               try clear hcz35_6
               try clear hcz35_7
               try clear hcz39_0
               try clear hcz39_1
               try clear hcz39_2
               try clear hcz39_3
               try clear hcz39_4
               try clear hcz39_5
               try clear hcz39_6
               try clear hcz39_7
               try clear hcz43_0
               try clear hcz43_1
               try clear hcz43_2
               try clear hcz43_3
               try clear hcz43_4
               try clear hcz43_5
               try clear hcz43_6
               try clear hcz43_7
               try clear hcz6_0
               try clear hcz6_1
               try clear hcz6_2
               try clear hfz11_0
               try clear hfz11_1
               try clear hfz11_2
               try clear hfz14_0
               try clear hfz14_1
               try clear hfz14_2
               try clear hfz14_3
               try clear hfz14_4
               try clear hfz14_5
               try clear hfz14_6
               try clear hfz14_7
               try clear hfz17_0
               try clear hfz17_1
               try clear hfz17_2
               try clear hfz17_3
               try clear hfz17_4
               try clear hfz17_5
               try clear hfz17_6
               try clear hfz17_7
               try clear hfz20_0
               try clear hfz20_1
               try clear hfz20_2
               try clear hfz20_3
               try clear hfz20_4
               try clear hfz20_5
               try clear hfz20_6
               try clear hfz20_7
               try clear hfz22_0
               try clear hfz22_1
               try clear hfz22_2
               try clear hfz22_3
               try clear hfz22_4
               try clear hfz22_5
               try clear hfz22_6
               try clear hfz22_7
               try clear hfz27_0
               try clear hfz27_1
               try clear hfz27_2
               try clear hfz27_3
               try clear hfz27_4
               try clear hfz27_5
               try clear hfz27_6
               try clear hfz27_7
               try clear hfz31_0
               try clear hfz31_1
               try clear hfz31_2
               try clear hfz31_3
               try clear hfz31_4
               try clear hfz31_5
               try clear hfz31_6
               try clear hfz31_7
               try clear hfz35_0
               try clear hfz35_1
               try clear hfz35_2
               try clear hfz35_3
               try clear hfz35_4
               try clear hfz35_5
               try clear hfz35_6
               try clear hfz35_7
               try clear hfz39_0
               try clear hfz39_1
               try clear hfz39_2
               try clear hfz39_3
               try clear hfz39_4
               try clear hfz39_5
               try clear hfz39_6
               try clear hfz39_7
               try clear hfz43_0
               try clear hfz43_1
               try clear hfz43_2
               try clear hfz43_3
               try clear hfz43_4
               try clear hfz43_5
               try clear hfz43_6
               try clear hfz43_7
               try clear hfz6_0
               try clear hfz6_1
               try clear hfz6_2
               try clear hx151_0
               try clear hx151_1
               try clear hx151_10
               try clear hx151_11
               try clear hx151_12
               try clear hx151_13
               try clear hx151_2
               try clear hx151_3
               try clear hx151_4
               try clear hx151_5
               try clear hx151_6
               try clear hx151_7
               try clear hx151_8
               try clear hx151_9
               try clear p1
               try clear p15
               try clear p151
               try clear p2
               try clear q1
               try clear q15
               try clear q151
               obtain ⟨x7_6, x8_6, rfl, HA, HK6, HO_6, HO_7, BK150, BK152, HB⟩ := hrel
               cases gk with
               | zero => exact absurd HA.out (by simp [davitref07_Next.l0])
               | succ k6 =>
                have H := HA.out
                clear HA
                simp only [davitref07_Next.l0] at H
                by_cases c45 : x8_6 < (x6_36.length : Int)
                ·rw [if_pos c45] at H
                 have c45b0 : decide (x8_6 < (x6_36.length : Int)) = true := decide_eq_true c45
                 clear c45
                 by_cases c46 : 0 ≤ x8_6
                 ·rw [if_pos c46] at H
                  have c46b0 : decide (0 ≤ x8_6) = true := decide_eq_true c46
                  clear c46
                  by_cases c47 : (rd x6_36 x8_6) ≥ 0
                  ·rw [if_pos c47] at H
                   have c47b0 : decide (0 ≤ (rd x6_36 x8_6)) = true := decide_eq_true c47
                   clear c47
                   by_cases c48 : (rd x6_36 x8_6) < (l0_2.length : Int)
                   ·rw [if_pos c48] at H
                    have c48b0 : decide ((rd x6_36 x8_6) < (l0_2.length : Int)) = true := decide_eq_true c48
                    clear c48
                    by_cases c49 : x7_6.length < 17592186044416
                    ·rw [if_pos c49] at H
                     have LMc49 := Aside0.mk c49
                     clear c49
                     obtain ⟨y165, hy165⟩ : ∃ y_ : List Int, y_ = (x7_6 ++ [rd x6_36 x8_6]) := ⟨_, rfl⟩
                     replace H : (davitref07_Next.l0 k6 x6_36 y165 (wrap64 (x8_6 + 1)) a0_0 a0_1 l0_2) = some r := by first | (rw [hy165]; with_reducible exact H) | (have H2_ := (Option.bind_some _ _).symm.trans H; rw [hy165]; with_reducible exact H2_) | (have H2_ := (Option.bind_some _ _).symm.trans H; with_reducible exact H2_) | with_reducible exact H | (rw [hy165]; exact H) | exact H
                     have Ny165 := Aside0.mk hy165
                     clear hy165
                     have H' := Aside0.mk H
                     clear H
                     obtain ⟨Ao50, co50, eo50⟩ := Kd.R_slice HO_6.out
                     subst eo50
                     have p162 : 0 ≤ (x8_6 : Int) := of_decide_eq_true (by first | (with_reducible assumption) | assumption)
                     have q162 : x8_6 < (x6_36.length : Int) := of_decide_eq_true (by first | (with_reducible assumption) | assumption)
                     obtain ⟨ad162, e162, hx162_0⟩ := Kd.at_int (Kd.R_reads' HO_6.out).2.2 x8_6 p162 q162
                     cases e162
                     replace p162 := eq_true p162
                     replace q162 := eq_true q162
                     have p163 : 0 ≤ (x8_6 : Int) := of_decide_eq_true (by first | (with_reducible assumption) | assumption)
                     have q163 : x8_6 < (x6_36.length : Int) := of_decide_eq_true (by first | (with_reducible assumption) | assumption)
                     obtain ⟨ad163, e163, hx163_0⟩ := Kd.at_int (Kd.R_reads' HO_6.out).2.2 x8_6 p163 q163
                     obtain rfl : ad162 = ad163 := (by injection e163)
                     replace p163 := eq_true p163
                     replace q163 := eq_true q163
                     have hnb51 := NB150_152.out
                     have hnc51 := NB152_150.out
                     have hcz52_0 : wr.cell? ⟨gb150, 0, none⟩ = some (.int .i64 a0_0) := (blk_cell BK150.out 0).trans rfl
                     have hcz52_1 : wr.cell? ⟨gb150, 1, none⟩ = some (.int .i64 a0_1) := (blk_cell BK150.out 1).trans rfl
                     have hcz52_2 : wr.cell? ⟨gb150, 2, none⟩ = some (.slice (some ad151) l0_2.length c0_2) := (blk_cell BK150.out 2).trans rfl
                     have hfz52_0 := blk_frozen BK150.out 0
                     have hfz52_1 := blk_frozen BK150.out 1
                     have hfz52_2 := blk_frozen BK150.out 2
                     have p164 : 0 ≤ (x8_6 : Int) := of_decide_eq_true (by first | (with_reducible assumption) | assumption)
                     have q164 : x8_6 < (x6_36.length : Int) := of_decide_eq_true (by first | (with_reducible assumption) | assumption)
                     obtain ⟨ad164, e164, hx164_0⟩ := Kd.at_int (Kd.R_reads' HO_6.out).2.2 x8_6 p164 q164
                     obtain rfl : ad162 = ad164 := (by injection e164)
                     replace p164 := eq_true p164
                     replace q164 := eq_true q164
                     go_wp2_with (first | ((with_reducible refine gate_builtin (b := .append) (xs := #[.tmp 79, .tmp 84]) rfl ?_); (try (refine gate_guard (by rfl) ?_; dsimp only)); at_builtin; refine Kd.R_append (Kd.int .i64) (w0 := w) w.heap.size rfl (.tmp 79) (.tmp 84) 27 3 (.int .i64 0) 8 rfl Try.underlying27 info3 rfl (by decide) (by omega) u7 x7_6 (rd x6_36 x8_6) [.int .i64 (rd x6_36 x8_6)] (fun k_ => some k_ ≠ (.slice (some ad162) x6_36.length co50 : Value).ownBlock) (fun _ => False) rfl rfl ?aP (fun _ hk => hk.elim) ?aF ?aO ?aB ?aS ?aL ?_; (case aP => exact rfl); (case aB => exact (by repeat (first | (with_reducible first | exact HB.out | apply below_alloc | apply pw_below_drewN | apply below_drew1 | refine below_set ?_ GE150.out | refine below_set ?_ GE152.out) | exact HB.out))); (case aF => exact (fun k_ hk => Kd.fresh' (Kd.R_lt (by (with_reducible repeat (first | apply Kd.R_alloc | apply Kd.R_drewN | apply Kd.R_drew)); exact HO_6.out)) k_ hk)); (case aO => exact (by (with_reducible repeat (first | apply Kd.R_alloc | apply Kd.R_drewN | apply Kd.R_drew)); exact HO_7.out)); (case aS => exact (below_size (by repeat (first | (with_reducible first | exact HB.out | apply below_alloc | apply pw_below_drewN | apply below_drew1 | refine below_set ?_ GE150.out | refine below_set ?_ GE152.out) | exact HB.out)))); (case aL => have := LMc49.out; omega); intro v166 w53 ho hb hg hat; rw [← Ny165.out] at ho; have n0_ := Aside0.mk (Kd.R_after (ok := (fun _ => True)) (by (with_reducible repeat (first | apply Kd.R_alloc | apply Kd.R_drewN | apply Kd.R_drew)); exact Kd.R_mono HO_6.out (fun _ hk => ⟨trivial, hk⟩)) hg hat); have n1_ := Aside0.mk (blk_grown (g := gb150) (o := .cells #[.int .i64 a0_0, .int .i64 a0_1, .slice (some ad151) l0_2.length c0_2] 24 (0, 0)) (by (with_reducible repeat (first | refine blk_drewN ?_ _ | refine blk_drew ?_ | refine blk_alloc ?_ _)); exact BK150.out) hg (Kd.R_ne HO_7.out BK150.out (by decide))); have n2_ := Aside0.mk (blk_grown (g := gb152) (o := .cells #[.int .i64 ((rd_T50 l0_2 a1).f3.f0), .int .i64 ((rd_T50 l0_2 a1).f3.f1), .int .i64 ((rd_T50 l0_2 a1).f3.f2), .int .i64 ((rd_T50 l0_2 a1).f3.f3), .slice A151_10 ((rd_T50 l0_2 a1).f3.f4).length c151_10, .int .i64 ((rd_T50 l0_2 a1).f3.f5), .int .i64 ((rd_T50 l0_2 a1).f3.f6), .int .i64 ((rd_T50 l0_2 a1).f3.f7)] 44 (0, 0)) (by (with_reducible repeat (first | refine blk_drewN ?_ _ | refine blk_drew ?_ | refine blk_alloc ?_ _)); exact BK152.out) hg (Kd.R_ne HO_7.out BK152.out (by decide))); have n3_ := Aside0.mk (hb); have n4_ := Aside0.mk (ho); clear HO_6; clear BK150; clear BK152; clear HB; clear HO_7; have HO_6 := n0_; have BK150 := n1_; have BK152 := n2_; have HB := n3_; have HO167 := n4_; clear n0_ n1_ n2_ n3_ n4_; clear ho hb hg hat))
                     repeat (go_quiet (first | ((with_reducible refine gate_builtin (b := .append) (xs := #[.tmp 79, .tmp 84]) rfl ?_); (try (refine gate_guard (by rfl) ?_; dsimp only)); at_builtin; refine Kd.R_append (Kd.int .i64) (w0 := w) w.heap.size rfl (.tmp 79) (.tmp 84) 27 3 (.int .i64 0) 8 rfl Try.underlying27 info3 rfl (by decide) (by omega) u7 x7_6 (rd x6_36 x8_6) [.int .i64 (rd x6_36 x8_6)] (fun k_ => some k_ ≠ (.slice (some ad162) x6_36.length co50 : Value).ownBlock) (fun _ => False) rfl rfl ?aP (fun _ hk => hk.elim) ?aF ?aO ?aB ?aS ?aL ?_; (case aP => exact rfl); (case aB => exact (by repeat (first | (with_reducible first | exact HB.out | apply below_alloc | apply pw_below_drewN | apply below_drew1 | refine below_set ?_ GE150.out | refine below_set ?_ GE152.out) | exact HB.out))); (case aF => exact (fun k_ hk => Kd.fresh' (Kd.R_lt (by (with_reducible repeat (first | apply Kd.R_alloc | apply Kd.R_drewN | apply Kd.R_drew)); exact HO_6.out)) k_ hk)); (case aO => exact (by (with_reducible repeat (first | apply Kd.R_alloc | apply Kd.R_drewN | apply Kd.R_drew)); exact HO_7.out)); (case aS => exact (below_size (by repeat (first | (with_reducible first | exact HB.out | apply below_alloc | apply pw_below_drewN | apply below_drew1 | refine below_set ?_ GE150.out | refine below_set ?_ GE152.out) | exact HB.out)))); (case aL => have := LMc49.out; omega); intro v166 w53 ho hb hg hat; rw [← Ny165.out] at ho; have n0_ := Aside0.mk (Kd.R_after (ok := (fun _ => True)) (by (with_reducible repeat (first | apply Kd.R_alloc | apply Kd.R_drewN | apply Kd.R_drew)); exact Kd.R_mono HO_6.out (fun _ hk => ⟨trivial, hk⟩)) hg hat); have n1_ := Aside0.mk (blk_grown (g := gb150) (o := .cells #[.int .i64 a0_0, .int .i64 a0_1, .slice (some ad151) l0_2.length c0_2] 24 (0, 0)) (by (with_reducible repeat (first | refine blk_drewN ?_ _ | refine blk_drew ?_ | refine blk_alloc ?_ _)); exact BK150.out) hg (Kd.R_ne HO_7.out BK150.out (by decide))); have n2_ := Aside0.mk (blk_grown (g := gb152) (o := .cells #[.int .i64 ((rd_T50 l0_2 a1).f3.f0), .int .i64 ((rd_T50 l0_2 a1).f3.f1), .int .i64 ((rd_T50 l0_2 a1).f3.f2), .int .i64 ((rd_T50 l0_2 a1).f3.f3), .slice A151_10 ((rd_T50 l0_2 a1).f3.f4).length c151_10, .int .i64 ((rd_T50 l0_2 a1).f3.f5), .int .i64 ((rd_T50 l0_2 a1).f3.f6), .int .i64 ((rd_T50 l0_2 a1).f3.f7)] 44 (0, 0)) (by (with_reducible repeat (first | refine blk_drewN ?_ _ | refine blk_drew ?_ | refine blk_alloc ?_ _)); exact BK152.out) hg (Kd.R_ne HO_7.out BK152.out (by decide))); have n3_ := Aside0.mk (hb); have n4_ := Aside0.mk (ho); clear HO_6; clear BK150; clear BK152; clear HB; clear HO_7; have HO_6 := n0_; have BK150 := n1_; have BK152 := n2_; have HB := n3_; have HO167 := n4_; clear n0_ n1_ n2_ n3_ n4_; clear ho hb hg hat)); try go_wp2_with (first | ((with_reducible refine gate_builtin (b := .append) (xs := #[.tmp 79, .tmp 84]) rfl ?_); (try (refine gate_guard (by rfl) ?_; dsimp only)); at_builtin; refine Kd.R_append (Kd.int .i64) (w0 := w) w.heap.size rfl (.tmp 79) (.tmp 84) 27 3 (.int .i64 0) 8 rfl Try.underlying27 info3 rfl (by decide) (by omega) u7 x7_6 (rd x6_36 x8_6) [.int .i64 (rd x6_36 x8_6)] (fun k_ => some k_ ≠ (.slice (some ad162) x6_36.length co50 : Value).ownBlock) (fun _ => False) rfl rfl ?aP (fun _ hk => hk.elim) ?aF ?aO ?aB ?aS ?aL ?_; (case aP => exact rfl); (case aB => exact (by repeat (first | (with_reducible first | exact HB.out | apply below_alloc | apply pw_below_drewN | apply below_drew1 | refine below_set ?_ GE150.out | refine below_set ?_ GE152.out) | exact HB.out))); (case aF => exact (fun k_ hk => Kd.fresh' (Kd.R_lt (by (with_reducible repeat (first | apply Kd.R_alloc | apply Kd.R_drewN | apply Kd.R_drew)); exact HO_6.out)) k_ hk)); (case aO => exact (by (with_reducible repeat (first | apply Kd.R_alloc | apply Kd.R_drewN | apply Kd.R_drew)); exact HO_7.out)); (case aS => exact (below_size (by repeat (first | (with_reducible first | exact HB.out | apply below_alloc | apply pw_below_drewN | apply below_drew1 | refine below_set ?_ GE150.out | refine below_set ?_ GE152.out) | exact HB.out)))); (case aL => have := LMc49.out; omega); intro v166 w53 ho hb hg hat; rw [← Ny165.out] at ho; have n0_ := Aside0.mk (Kd.R_after (ok := (fun _ => True)) (by (with_reducible repeat (first | apply Kd.R_alloc | apply Kd.R_drewN | apply Kd.R_drew)); exact Kd.R_mono HO_6.out (fun _ hk => ⟨trivial, hk⟩)) hg hat); have n1_ := Aside0.mk (blk_grown (g := gb150) (o := .cells #[.int .i64 a0_0, .int .i64 a0_1, .slice (some ad151) l0_2.length c0_2] 24 (0, 0)) (by (with_reducible repeat (first | refine blk_drewN ?_ _ | refine blk_drew ?_ | refine blk_alloc ?_ _)); exact BK150.out) hg (Kd.R_ne HO_7.out BK150.out (by decide))); have n2_ := Aside0.mk (blk_grown (g := gb152) (o := .cells #[.int .i64 ((rd_T50 l0_2 a1).f3.f0), .int .i64 ((rd_T50 l0_2 a1).f3.f1), .int .i64 ((rd_T50 l0_2 a1).f3.f2), .int .i64 ((rd_T50 l0_2 a1).f3.f3), .slice A151_10 ((rd_T50 l0_2 a1).f3.f4).length c151_10, .int .i64 ((rd_T50 l0_2 a1).f3.f5), .int .i64 ((rd_T50 l0_2 a1).f3.f6), .int .i64 ((rd_T50 l0_2 a1).f3.f7)] 44 (0, 0)) (by (with_reducible repeat (first | refine blk_drewN ?_ _ | refine blk_drew ?_ | refine blk_alloc ?_ _)); exact BK152.out) hg (Kd.R_ne HO_7.out BK152.out (by decide))); have n3_ := Aside0.mk (hb); have n4_ := Aside0.mk (ho); clear HO_6; clear BK150; clear BK152; clear HB; clear HO_7; have HO_6 := n0_; have BK150 := n1_; have BK152 := n2_; have HB := n3_; have HO167 := n4_; clear n0_ n1_ n2_ n3_ n4_; clear ho hb hg hat)))
                     go_roundg k6
                     case measure => have := HJ2.out; have := HJ9.out; have := HJ22.out; have := HJ28.out; have := HJ36.out; have := HK6.out; omega
                     case rel => exact ⟨(y165), (wrap64 (x8_6 + 1)), (by first | rfl | (simp; done) | (simp [*]; done)), H', ⟨by have := HJ2.out; have := HJ9.out; have := HJ22.out; have := HJ28.out; have := HJ36.out; have := HK6.out; omega⟩, ⟨by (with_reducible repeat (first | apply Kd.R_alloc | apply Kd.R_drewN | apply Kd.R_drew)); exact Kd.R_mono HO_6.out (fun _ hk => hk.2)⟩, ⟨by (with_reducible repeat (first | apply Kd.R_alloc | apply Kd.R_drewN | apply Kd.R_drew)); exact HO167.out⟩, ⟨by (with_reducible repeat (first | refine blk_drewN ?_ _ | refine blk_drew ?_ | refine blk_alloc ?_ _)); exact BK150.out⟩, ⟨by (with_reducible repeat (first | refine blk_drewN ?_ _ | refine blk_drew ?_ | refine blk_alloc ?_ _)); exact BK152.out⟩, ⟨by repeat (first | (with_reducible first | exact HB.out | apply below_alloc | apply pw_below_drewN | apply below_drew1 | refine below_set ?_ GE150.out | refine below_set ?_ GE152.out) | exact HB.out)⟩⟩
                    ·rw [if_neg c49] at H
                     exact absurd H (by simp)
                   ·rw [if_neg c48] at H
                    have c48b0 : decide ((rd x6_36 x8_6) < (l0_2.length : Int)) = false := decide_eq_false c48
                    clear c48
                    have H' := Aside0.mk H
                    clear H
                    obtain ⟨Ao54, co54, eo54⟩ := Kd.R_slice HO_6.out
                    subst eo54
                    have p162 : 0 ≤ (x8_6 : Int) := of_decide_eq_true (by first | (with_reducible assumption) | assumption)
                    have q162 : x8_6 < (x6_36.length : Int) := of_decide_eq_true (by first | (with_reducible assumption) | assumption)
                    obtain ⟨ad162, e162, hx162_0⟩ := Kd.at_int (Kd.R_reads' HO_6.out).2.2 x8_6 p162 q162
                    cases e162
                    replace p162 := eq_true p162
                    replace q162 := eq_true q162
                    have p163 : 0 ≤ (x8_6 : Int) := of_decide_eq_true (by first | (with_reducible assumption) | assumption)
                    have q163 : x8_6 < (x6_36.length : Int) := of_decide_eq_true (by first | (with_reducible assumption) | assumption)
                    obtain ⟨ad163, e163, hx163_0⟩ := Kd.at_int (Kd.R_reads' HO_6.out).2.2 x8_6 p163 q163
                    obtain rfl : ad162 = ad163 := (by injection e163)
                    replace p163 := eq_true p163
                    replace q163 := eq_true q163
                    have hnb55 := NB150_152.out
                    have hnc55 := NB152_150.out
                    have hcz56_0 : wr.cell? ⟨gb150, 0, none⟩ = some (.int .i64 a0_0) := (blk_cell BK150.out 0).trans rfl
                    have hcz56_1 : wr.cell? ⟨gb150, 1, none⟩ = some (.int .i64 a0_1) := (blk_cell BK150.out 1).trans rfl
                    have hcz56_2 : wr.cell? ⟨gb150, 2, none⟩ = some (.slice (some ad151) l0_2.length c0_2) := (blk_cell BK150.out 2).trans rfl
                    have hfz56_0 := blk_frozen BK150.out 0
                    have hfz56_1 := blk_frozen BK150.out 1
                    have hfz56_2 := blk_frozen BK150.out 2
                    go_wp2
                    repeat (go_quiet (fail); try go_wp2)
                    go_roundg k6
                    case measure => have := HJ2.out; have := HJ9.out; have := HJ22.out; have := HJ28.out; have := HJ36.out; have := HK6.out; omega
                    case rel => exact ⟨(x7_6), (wrap64 (x8_6 + 1)), (by first | rfl | (simp; done) | (simp [*]; done)), H', ⟨by have := HJ2.out; have := HJ9.out; have := HJ22.out; have := HJ28.out; have := HJ36.out; have := HK6.out; omega⟩, ⟨by (with_reducible repeat (first | apply Kd.R_alloc | apply Kd.R_drewN | apply Kd.R_drew)); exact HO_6.out⟩, ⟨by (with_reducible repeat (first | apply Kd.R_alloc | apply Kd.R_drewN | apply Kd.R_drew)); exact HO_7.out⟩, ⟨by (with_reducible repeat (first | refine blk_drewN ?_ _ | refine blk_drew ?_ | refine blk_alloc ?_ _)); exact BK150.out⟩, ⟨by (with_reducible repeat (first | refine blk_drewN ?_ _ | refine blk_drew ?_ | refine blk_alloc ?_ _)); exact BK152.out⟩, ⟨by repeat (first | (with_reducible first | exact HB.out | apply below_alloc | apply pw_below_drewN | apply below_drew1 | refine below_set ?_ GE150.out | refine below_set ?_ GE152.out) | exact HB.out)⟩⟩
                  ·rw [if_neg c47] at H
                   have c47b0 : decide (0 ≤ (rd x6_36 x8_6)) = false := decide_eq_false c47
                   clear c47
                   have H' := Aside0.mk H
                   clear H
                   obtain ⟨Ao57, co57, eo57⟩ := Kd.R_slice HO_6.out
                   subst eo57
                   have p162 : 0 ≤ (x8_6 : Int) := of_decide_eq_true (by first | (with_reducible assumption) | assumption)
                   have q162 : x8_6 < (x6_36.length : Int) := of_decide_eq_true (by first | (with_reducible assumption) | assumption)
                   obtain ⟨ad162, e162, hx162_0⟩ := Kd.at_int (Kd.R_reads' HO_6.out).2.2 x8_6 p162 q162
                   cases e162
                   replace p162 := eq_true p162
                   replace q162 := eq_true q162
                   go_wp2
                   repeat (go_quiet (fail); try go_wp2)
                   go_roundg k6
                   case measure => have := HJ2.out; have := HJ9.out; have := HJ22.out; have := HJ28.out; have := HJ36.out; have := HK6.out; omega
                   case rel => exact ⟨(x7_6), (wrap64 (x8_6 + 1)), (by first | rfl | (simp; done) | (simp [*]; done)), H', ⟨by have := HJ2.out; have := HJ9.out; have := HJ22.out; have := HJ28.out; have := HJ36.out; have := HK6.out; omega⟩, ⟨by (with_reducible repeat (first | apply Kd.R_alloc | apply Kd.R_drewN | apply Kd.R_drew)); exact HO_6.out⟩, ⟨by (with_reducible repeat (first | apply Kd.R_alloc | apply Kd.R_drewN | apply Kd.R_drew)); exact HO_7.out⟩, ⟨by (with_reducible repeat (first | refine blk_drewN ?_ _ | refine blk_drew ?_ | refine blk_alloc ?_ _)); exact BK150.out⟩, ⟨by (with_reducible repeat (first | refine blk_drewN ?_ _ | refine blk_drew ?_ | refine blk_alloc ?_ _)); exact BK152.out⟩, ⟨by repeat (first | (with_reducible first | exact HB.out | apply below_alloc | apply pw_below_drewN | apply below_drew1 | refine below_set ?_ GE150.out | refine below_set ?_ GE152.out) | exact HB.out)⟩⟩
                 ·rw [if_neg c46] at H
                  exact absurd H (by simp)
                ·rw [if_neg c45] at H
                 have c45b0 : decide (x8_6 < (x6_36.length : Int)) = false := decide_eq_false c45
                 clear c45
                 obtain rfl := Option.some.inj H
                 obtain ⟨Ao58, co58, eo58⟩ := Kd.R_slice HO_6.out
                 subst eo58
                 go_wp2
                 repeat (go_quiet (fail); try go_wp2)
                 go_ret
                 exact ⟨_, by first | rfl | (simp [errW_none, errW_some] <;> rfl) | (simp [*, errW_none, errW_some] <;> rfl), by (with_reducible repeat (first | apply Kd.R_alloc | apply Kd.R_drewN | apply Kd.R_drew)); exact Kd.R_mono HO_7.out (fun _ hk => trivial), by repeat (first | (with_reducible first | exact HB.out | apply below_alloc | apply pw_below_drewN | apply below_drew1 | refine below_set ?_ GE150.out | refine below_set ?_ GE152.out) | exact HB.out)⟩
     ·rw [if_neg c9] at H
      exact absurd H (by simp)
    ·rw [if_neg c8] at H
     exact absurd H (by simp)
end
end Go.Proofs.Ytilopoegoddggaa.X
