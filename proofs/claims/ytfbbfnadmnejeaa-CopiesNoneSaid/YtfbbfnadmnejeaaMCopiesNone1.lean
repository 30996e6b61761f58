/- Part 2 of the proof of the statement CopiesNone: the words of the walks, the walks through the functions that it reaches, and the plain laws of what they compute. -/
import Derived.Test.YtfbbfnadmnejeaaMCopiesNone0
import Derived.Deep.Slices
import Derived.Lib.SmallJoins
import Derived.ChangeArms
import Derived.Test.YtfbbfnadmnejeaaRows
import Derived.WalkKit
import Derived.ProofKit
import Derived.OpenShut
import Derived.ShutString
import Derived.ChangeOld
import Derived.Below
import Derived.SizedLaws
import Derived.Carry
namespace Go.Proofs.Ytfbbfnadmnejeaa.X
open Go.RowKit Go.Proofs.YtfbbfnadmnejeaaW.PrintWords Go.Proofs.YtfbbfnadmnejeaaW.PrintLast Go.Proofs.YtfbbfnadmnejeaaW.PrintMore
attribute [local go_sem] max2_int min2_int max_two min_two max_three min_three max_four min_four
set_option linter.all false
noncomputable section
def davitlaw20_awake.f (k : Nat)  : Option (Bool) := (some (([(⟨0, 1⟩ : S34), (⟨1, 0⟩ : S34)] : List (S34)) : List (S34))).bind fun y131 => ((copies_Row.f k y131 2).bind fun bt134 => ((copies_Made.f k bt134.1 (([7, 8, 9] : List Int))).bind fun t141 => (if bt134.2 = 0 then (if (bt134.1.length : Int) = 3 then (if (t141.length : Int) = 3 then (if 0 < (t141.length : Int) then (if (rd t141 0) = 8 then (if 1 < (t141.length : Int) then (if (rd t141 1) = 7 then ((copies_May.f y131).bind fun t146 => (if t146 = true then ((copies_Rings.f k y131).bind fun t147 => (some (t147 == 1))) else (some false))) else (some false)) else (none)) else (some false)) else (none)) else (some false)) else (some false)) else (some false))))
theorem davitlaw20_awake.mono : ∀ k, LeO (davitlaw20_awake.f k ) (davitlaw20_awake.f (k + 1) ) := by
 intro  k
 unfold davitlaw20_awake.f
 repeat' first
   | (with_reducible exact copies_Made.mono _ _ _)
   | (with_reducible exact copies_Rings.mono _ _)
   | (with_reducible exact copies_Row.mono _ _ _)
   | (with_reducible exact LeO.refl _)
   | (with_reducible exact LeO.none _)
   | (with_reducible refine LeO.ite ?_ ?_)
   | (with_reducible refine LeO.bind ?_ (fun _ => ?_))
   | exact copies_Made.mono _ _ _
   | exact copies_Rings.mono _ _
   | exact copies_Row.mono _ _ _
   | exact LeO.none _
   | refine LeO.ite ?_ ?_
   | refine LeO.bind ?_ (fun _ => ?_)
set_option maxHeartbeats 8000000 in
set_option maxRecDepth 100000 in
theorem davitlaw20_awake.calls (k : Nat)  (r : Bool) (w : World) (h : davitlaw20_awake.f k  = some r) :
  Calls Try.prog 6 #[] w fun e w' => e = .returned (.bool r) ∧ Below w.heap.size w w' := by
 have hu34 := Try.underlying34
 have HB := Aside0.mk (Below.refl w.heap.size w)
 have H : ((some (([(⟨0, 1⟩ : S34), (⟨1, 0⟩ : S34)] : List (S34)) : List (S34))).bind fun y131 => ((copies_Row.f k y131 2).bind fun bt134 => ((copies_Made.f k bt134.1 (([7, 8, 9] : List Int))).bind fun t141 => (if bt134.2 = 0 then (if (bt134.1.length : Int) = 3 then (if (t141.length : Int) = 3 then (if 0 < (t141.length : Int) then (if (rd t141 0) = 8 then (if 1 < (t141.length : Int) then (if (rd t141 1) = 7 then ((copies_May.f y131).bind fun t146 => (if t146 = true then ((copies_Rings.f k y131).bind fun t147 => (some (t147 == 1))) else (some false))) else (some false)) else (none)) else (some false)) else (none)) else (some false)) else (some false)) else (some false))))) = some r := h
 clear h
 obtain ⟨y131, hy131⟩ : ∃ y_ : List (S34), y_ = (([(⟨0, 1⟩ : S34), (⟨1, 0⟩ : S34)] : List (S34))) := ⟨_, rfl⟩
 replace H : ((copies_Row.f k y131 2).bind fun bt134 => ((copies_Made.f k bt134.1 (([7, 8, 9] : List Int))).bind fun t141 => (if bt134.2 = 0 then (if (bt134.1.length : Int) = 3 then (if (t141.length : Int) = 3 then (if 0 < (t141.length : Int) then (if (rd t141 0) = 8 then (if 1 < (t141.length : Int) then (if (rd t141 1) = 7 then ((copies_May.f y131).bind fun t146 => (if t146 = true then ((copies_Rings.f k y131).bind fun t147 => (some (t147 == 1))) else (some false))) else (some false)) else (none)) else (some false)) else (none)) else (some false)) else (some false)) else (some false)))) = some r := by first | (rw [hy131]; with_reducible exact H) | (have H2_ := (Option.bind_some _ _).symm.trans H; rw [hy131]; with_reducible exact H2_) | (have H2_ := (Option.bind_some _ _).symm.trans H; with_reducible exact H2_) | with_reducible exact H | (rw [hy131]; exact H) | exact H
 have Ny131 := Aside0.mk hy131
 clear hy131
 replace H := Option.bind_eq_some_iff.mp H
 obtain ⟨⟨t134, t135⟩, A10, H⟩ := H
 replace H : ((copies_Made.f k t134 (([7, 8, 9] : List Int))).bind fun t141 => (if t135 = 0 then (if (t134.length : Int) = 3 then (if (t141.length : Int) = 3 then (if 0 < (t141.length : Int) then (if (rd t141 0) = 8 then (if 1 < (t141.length : Int) then (if (rd t141 1) = 7 then ((copies_May.f y131).bind fun t146 => (if t146 = true then ((copies_Rings.f k y131).bind fun t147 => (some (t147 == 1))) else (some false))) else (some false)) else (none)) else (some false)) else (none)) else (some false)) else (some false)) else (some false))) = some r := H
 have A1 := Aside0.mk A10
 clear A10
 obtain ⟨y138, hy138⟩ : ∃ y_ : List Int, y_ = (([7, 8, 9] : List Int)) := ⟨_, rfl⟩
 replace H : ((copies_Made.f k t134 y138).bind fun t141 => (if t135 = 0 then (if (t134.length : Int) = 3 then (if (t141.length : Int) = 3 then (if 0 < (t141.length : Int) then (if (rd t141 0) = 8 then (if 1 < (t141.length : Int) then (if (rd t141 1) = 7 then ((copies_May.f y131).bind fun t146 => (if t146 = true then ((copies_Rings.f k y131).bind fun t147 => (some (t147 == 1))) else (some false))) else (some false)) else (none)) else (some false)) else (none)) else (some false)) else (some false)) else (some false))) = some r := by first | (rw [hy138]; with_reducible exact H) | (have H2_ := (Option.bind_some _ _).symm.trans H; rw [hy138]; with_reducible exact H2_) | (have H2_ := (Option.bind_some _ _).symm.trans H; with_reducible exact H2_) | with_reducible exact H | (rw [hy138]; exact H) | exact H
 have Ny138 := Aside0.mk hy138
 clear hy138
 replace H := Option.bind_eq_some_iff.mp H
 obtain ⟨t141, A20, H⟩ := H
 replace H : (if t135 = 0 then (if (t134.length : Int) = 3 then (if (t141.length : Int) = 3 then (if 0 < (t141.length : Int) then (if (rd t141 0) = 8 then (if 1 < (t141.length : Int) then (if (rd t141 1) = 7 then ((copies_May.f y131).bind fun t146 => (if t146 = true then ((copies_Rings.f k y131).bind fun t147 => (some (t147 == 1))) else (some false))) else (some false)) else (none)) else (some false)) else (none)) else (some false)) else (some false)) else (some false)) = some r := H
 have A2 := Aside0.mk A20
 clear A20
 by_cases c3 : t135 = 0
 ·rw [if_pos c3] at H
  have c3b0 : (t135 == 0) = true := beq_iff_eq.mpr c3
  have c3b1 : (t135 != 0) = false := bne_eq_false_iff_eq.mpr c3
  clear c3
  by_cases c4 : (t134.length : Int) = 3
  ·rw [if_pos c4] at H
   have c4b0 : ((t134.length : Int) == 3) = true := beq_iff_eq.mpr c4
   have c4b1 : ((t134.length : Int) != 3) = false := bne_eq_false_iff_eq.mpr c4
   clear c4
   by_cases c5 : (t141.length : Int) = 3
   ·rw [if_pos c5] at H
    have c5b0 : ((t141.length : Int) == 3) = true := beq_iff_eq.mpr c5
    have c5b1 : ((t141.length : Int) != 3) = false := bne_eq_false_iff_eq.mpr c5
    clear c5
    by_cases c6 : 0 < (t141.length : Int)
    ·rw [if_pos c6] at H
     have c6b0 : decide (0 < (t141.length : Int)) = true := decide_eq_true c6
     have c6b1 : decide (0 < t141.length) = true := decide_eq_true (by omega)
     clear c6
     by_cases c7 : (rd t141 0) = 8
     ·rw [if_pos c7] at H
      have c7b0 : ((rd t141 0) == 8) = true := beq_iff_eq.mpr c7
      have c7b1 : ((rd t141 0) != 8) = false := bne_eq_false_iff_eq.mpr c7
      clear c7
      by_cases c8 : 1 < (t141.length : Int)
      ·rw [if_pos c8] at H
       have c8b0 : decide (1 < (t141.length : Int)) = true := decide_eq_true c8
       have c8b1 : decide (1 < t141.length) = true := decide_eq_true (by omega)
       clear c8
       by_cases c9 : (rd t141 1) = 7
       ·rw [if_pos c9] at H
        have c9b0 : ((rd t141 1) == 7) = true := beq_iff_eq.mpr c9
        have c9b1 : ((rd t141 1) != 7) = false := bne_eq_false_iff_eq.mpr c9
        clear c9
        replace H := Option.bind_eq_some_iff.mp H
        obtain ⟨t146, A100, H⟩ := H
        replace H : (if t146 = true then ((copies_Rings.f k y131).bind fun t147 => (some (t147 == 1))) else (some false)) = some r := H
        have A10 := Aside0.mk A100
        clear A100
        by_cases c11 : t146 = true
        ·subst c11
         have H1 : ((copies_Rings.f k y131).bind fun t147 => (some (t147 == 1))) = some r := by rw [if_pos rfl] at H; exact H
         clear H
         have H := H1
         clear H1
         replace H := Option.bind_eq_some_iff.mp H
         obtain ⟨t147, A120, H⟩ := H
         replace H : (some (t147 == 1)) = some r := H
         have A12 := Aside0.mk A120
         clear A120
         obtain rfl := Option.some.inj H
         go_enter Try.func6, Try.ntmps6
         go_wp2_with (first | ((with_reducible refine gate_dst (N := 7) rfl ?_); (try (refine gate_guard (by rfl) ?_; dsimp only)); refine Kd.R_lit k34 _ 34 ?hg (N := 7) ?hd (xs := ([(⟨0, 1⟩ : S34), (⟨1, 0⟩ : S34)] : List (S34))) (inner := [.int .i64 0, .int .i64 1, .int .i64 1, .int .i64 0]) (ok := fun _ => True) (okp := fun _ => True) ?hr ?hp (fun _ hk => hk) trivial (Below.refl _ _) (Nat.le_refl _) (by simp) ?_; (case hd => rfl); (case hg => rfl); (case hr => first | (go_simp; done) | (go_simp; rfl)); (case hp => exact (Reps.c2 (show Kd.M k34 _ _ _ (⟨0, 1⟩ : S34) [.int .i64 0, .int .i64 1] from (k34_mkM _ _ _ (⟨0, 1⟩ : S34) )) (Reps.c2 (show Kd.M k34 _ _ _ (⟨1, 0⟩ : S34) [.int .i64 1, .int .i64 0] from (k34_mkM _ _ _ (⟨1, 0⟩ : S34) )) (Reps.none _ _)))); intro v132 w13 ho14 hb hg_ hnew_; clear hg_ hnew_; (first | rw [← Ny131.out] at ho14 | (simp only [Int.reduceToNat] at ho14; rw [← Ny131.out] at ho14)); have n0_ := Aside0.mk (Kd.R_lower ho14 (below_size (by repeat (first | (with_reducible first | exact HB.out | apply below_alloc | apply pw_below_drewN | apply below_drew1) | exact HB.out)))); have n1_ := Aside0.mk (below_step (by repeat (first | (with_reducible first | exact HB.out | apply below_alloc | apply pw_below_drewN | apply below_drew1) | exact HB.out)) hb); clear HB; have HO133 := n0_; have HB := n1_; clear n0_ n1_; clear hb ho14; obtain ⟨Ao15, co15, eo15⟩ := Kd.R_slice HO133.out; subst eo15) | ((with_reducible refine gate_callee (f := 14) rfl ?_); refine goesL_ (some 10) rfl rfl Try.func14 (by kernel_rfl) rfl #[.slice Ao15 y131.length co15, .int .i64 2] rfl (by (try simp only [List.map_toArray, List.map_cons, List.map_nil]); first | done | rfl | (simp only [List.length_drop, List.length_take]; rfl)) ?_; (with_reducible refine (copies_Row.calls k _ _ y131 2 t134 t135 _ ?side1 ?side2 A1.out).mono ?_); (case side1 => repeat (first | exact (Kd.R_reads' HO133.out).2.2 | (with_reducible refine Kd.C_alloc ?_ _) | (with_reducible refine Kd.C_drewN ?_ _) | (with_reducible refine Kd.C_drew ?_))); (case side2 => exact (Kd.R_reads' HO133.out).2.1); rintro e w16 ⟨v136, rfl, ho0, hb⟩; refine ⟨_, rfl, ?_⟩; have n0_ := Aside0.mk (Kd.R_elder' (by (with_reducible repeat (first | apply Kd.R_alloc | apply Kd.R_drewN | apply Kd.R_drew)); exact HO133.out) (Kd.R_base ho0) hb); have n1_ := Aside0.mk (Kd.R_lower (Kd.R_new' ho0 (Kd.R_lt (by (with_reducible repeat (first | apply Kd.R_alloc | apply Kd.R_drewN | apply Kd.R_drew)); exact HO133.out))) (below_size (by repeat (first | (with_reducible first | exact HB.out | apply below_alloc | apply pw_below_drewN | apply below_drew1) | exact HB.out)))); have n2_ := Aside0.mk (below_step (by repeat (first | (with_reducible first | exact HB.out | apply below_alloc | apply pw_below_drewN | apply below_drew1) | exact HB.out)) hb); clear HO133; clear HB; have HO133 := n0_; have HO137 := n1_; have HB := n2_; clear n0_ n1_ n2_; (try clear hb); (try clear hb2); (try clear hk); (try clear hi); (try clear ho0)) | ((with_reducible refine gate_dst (N := 14) rfl ?_); (try (refine gate_guard (by rfl) ?_; dsimp only)); refine Kd.R_lit (Kd.int .u16) _ 35 ?hg (N := 14) ?hd (xs := ([7, 8, 9] : List Int)) (inner := [.int .u16 7, .int .u16 8, .int .u16 9]) (ok := fun _ => True) (okp := fun _ => True) ?hr ?hp (fun _ hk => hk) trivial (Below.refl _ _) (Nat.le_refl _) (by simp) ?_; (case hd => rfl); (case hg => rfl); (case hr => first | (go_simp; done) | (go_simp; rfl)); (case hp => exact (Reps.one (show Kd.M (Kd.int .u16) _ _ _ 7 [.int .u16 7] from rfl) (Reps.one (show Kd.M (Kd.int .u16) _ _ _ 8 [.int .u16 8] from rfl) (Reps.one (show Kd.M (Kd.int .u16) _ _ _ 9 [.int .u16 9] from rfl) (Reps.none _ _))))); intro v139 w17 ho18 hb hg_ hnew_; clear hg_ hnew_; (first | rw [← Ny138.out] at ho18 | (simp only [Int.reduceToNat] at ho18; rw [← Ny138.out] at ho18)); have n0_ := Aside0.mk (Kd.R_below (by (with_reducible repeat (first | apply Kd.R_alloc | apply Kd.R_drewN | apply Kd.R_drew)); exact HO133.out) hb); have n1_ := Aside0.mk (Kd.R_below (by (with_reducible repeat (first | apply Kd.R_alloc | apply Kd.R_drewN | apply Kd.R_drew)); exact HO137.out) hb); have n2_ := Aside0.mk (Kd.R_lower ho18 (below_size (by repeat (first | (with_reducible first | exact HB.out | apply below_alloc | apply pw_below_drewN | apply below_drew1) | exact HB.out)))); have n3_ := Aside0.mk (below_step (by repeat (first | (with_reducible first | exact HB.out | apply below_alloc | apply pw_below_drewN | apply below_drew1) | exact HB.out)) hb); clear HO133; clear HO137; clear HB; have HO133 := n0_; have HO137 := n1_; have HO140 := n2_; have HB := n3_; clear n0_ n1_ n2_ n3_; clear hb ho18; obtain ⟨Ao19, co19, eo19⟩ := Kd.R_slice HO137.out; subst eo19; obtain ⟨Ao20, co20, eo20⟩ := Kd.R_slice HO140.out; subst eo20) | ((with_reducible refine gate_callee (f := 12) rfl ?_); refine goesL_ (some 15) rfl rfl Try.func12 (by kernel_rfl) rfl #[.slice Ao19 t134.length co19, .slice Ao20 y138.length co20] rfl (by (try simp only [List.map_toArray, List.map_cons, List.map_nil]); first | done | rfl | (simp only [List.length_drop, List.length_take]; rfl)) ?_; (with_reducible refine (copies_Made.calls k _ _ t134 _ _ y138 t141 _ ?side1 ?side2 ?side3 ?side4 A2.out).mono ?_); (case side1 => repeat (first | exact (Kd.R_reads' HO137.out).2.2 | (with_reducible refine Kd.C_alloc ?_ _) | (with_reducible refine Kd.C_drewN ?_ _) | (with_reducible refine Kd.C_drew ?_))); (case side2 => exact (Kd.R_reads' HO137.out).2.1); (case side3 => repeat (first | exact (Kd.R_reads' HO140.out).2.2 | (with_reducible refine Kd.C_alloc ?_ _) | (with_reducible refine Kd.C_drewN ?_ _) | (with_reducible refine Kd.C_drew ?_))); (case side4 => exact (Kd.R_reads' HO140.out).2.1); rintro e w21 ⟨v142, rfl, ho0, hb⟩; refine ⟨_, rfl, ?_⟩; have n0_ := Aside0.mk (Kd.R_below (by (with_reducible repeat (first | apply Kd.R_alloc | apply Kd.R_drewN | apply Kd.R_drew)); exact HO133.out) hb); have n1_ := Aside0.mk (Kd.R_below (by (with_reducible repeat (first | apply Kd.R_alloc | apply Kd.R_drewN | apply Kd.R_drew)); exact HO137.out) hb); have n2_ := Aside0.mk (Kd.R_elder' (by (with_reducible repeat (first | apply Kd.R_alloc | apply Kd.R_drewN | apply Kd.R_drew)); exact HO140.out) (Kd.R_base ho0) hb); have n3_ := Aside0.mk (Kd.R_lower (Kd.R_new' ho0 (Kd.R_lt (by (with_reducible repeat (first | apply Kd.R_alloc | apply Kd.R_drewN | apply Kd.R_drew)); exact HO140.out))) (below_size (by repeat (first | (with_reducible first | exact HB.out | apply below_alloc | apply pw_below_drewN | apply below_drew1) | exact HB.out)))); have n4_ := Aside0.mk (below_step (by repeat (first | (with_reducible first | exact HB.out | apply below_alloc | apply pw_below_drewN | apply below_drew1) | exact HB.out)) hb); clear HO133; clear HO137; clear HO140; clear HB; have HO133 := n0_; have HO137 := n1_; have HO140 := n2_; have HO143 := n3_; have HB := n4_; clear n0_ n1_ n2_ n3_ n4_; (try clear hb); (try clear hb2); (try clear hk); (try clear hi); (try clear ho0); obtain ⟨Ao22, co22, eo22⟩ := Kd.R_slice HO143.out; subst eo22; have p144 : 0 ≤ (0 : Int) := (by omega); have q144 : 0 < (t141.length : Int) := of_decide_eq_true (by first | (with_reducible assumption) | assumption); obtain ⟨ad144, e144, hx144_0⟩ := Kd.at_int (Kd.R_reads' HO143.out).2.2 0 p144 q144; cases e144; have qi144 : (0 < t141.length) = True := eq_true (by omega); (try rw [show ((0 : Int)).toNat = 0 from rfl] at hx144_0); (try rw [Addr.add_zero'] at hx144_0); replace p144 := eq_true p144; replace q144 := eq_true q144; have p145 : 0 ≤ (1 : Int) := (by omega); have q145 : 1 < (t141.length : Int) := of_decide_eq_true (by first | (with_reducible assumption) | assumption); obtain ⟨ad145, e145, hx145_0⟩ := Kd.at_int (Kd.R_reads' HO143.out).2.2 1 p145 q145; obtain rfl : ad144 = ad145 := (by injection e145); (try simp only [show (1 : Int).toNat = 1 from rfl, Nat.reduceMul, Nat.reduceEqDiff, Go.Addr.add, ↓reduceIte] at hx145_0); have qi145 : (1 < t141.length) = True := eq_true (by omega); (try rw [show ((1 : Int)).toNat = 1 from rfl] at hx145_0); replace p145 := eq_true p145; replace q145 := eq_true q145) | (go_at_call 7; (with_reducible refine (copies_May.calls _ _ y131 true _ ?side1 ?side2 A10.out).mono ?_); (case side1 => repeat (first | exact (Kd.R_reads' HO133.out).2.2 | (with_reducible refine Kd.C_alloc ?_ _) | (with_reducible refine Kd.C_drewN ?_ _) | (with_reducible refine Kd.C_drew ?_))); (case side2 => exact (Kd.R_reads' HO133.out).2.1); rintro e w23 ⟨rfl, hb⟩; have n0_ := Aside0.mk (Kd.R_below (by (with_reducible repeat (first | apply Kd.R_alloc | apply Kd.R_drewN | apply Kd.R_drew)); exact HO133.out) hb); have n1_ := Aside0.mk (Kd.R_below (by (with_reducible repeat (first | apply Kd.R_alloc | apply Kd.R_drewN | apply Kd.R_drew)); exact HO137.out) hb); have n2_ := Aside0.mk (Kd.R_below (by (with_reducible repeat (first | apply Kd.R_alloc | apply Kd.R_drewN | apply Kd.R_drew)); exact HO140.out) hb); have n3_ := Aside0.mk (Kd.R_below (by (with_reducible repeat (first | apply Kd.R_alloc | apply Kd.R_drewN | apply Kd.R_drew)); exact HO143.out) hb); have n4_ := Aside0.mk (below_step (by repeat (first | (with_reducible first | exact HB.out | apply below_alloc | apply pw_below_drewN | apply below_drew1) | exact HB.out)) hb); clear HO133; clear HO137; clear HO140; clear HO143; clear HB; have HO133 := n0_; have HO137 := n1_; have HO140 := n2_; have HO143 := n3_; have HB := n4_; clear n0_ n1_ n2_ n3_ n4_; (try clear hb); (try clear hb2); (try clear hk); (try clear hi)) | (go_at_call 9; (with_reducible refine (copies_Rings.calls k _ _ y131 t147 _ ?side1 ?side2 A12.out).mono ?_); (case side1 => repeat (first | exact (Kd.R_reads' HO133.out).2.2 | (with_reducible refine Kd.C_alloc ?_ _) | (with_reducible refine Kd.C_drewN ?_ _) | (with_reducible refine Kd.C_drew ?_))); (case side2 => exact (Kd.R_reads' HO133.out).2.1); rintro e w24 ⟨rfl, hb⟩; have n0_ := Aside0.mk (Kd.R_below (by (with_reducible repeat (first | apply Kd.R_alloc | apply Kd.R_drewN | apply Kd.R_drew)); exact HO133.out) hb); have n1_ := Aside0.mk (Kd.R_below (by (with_reducible repeat (first | apply Kd.R_alloc | apply Kd.R_drewN | apply Kd.R_drew)); exact HO137.out) hb); have n2_ := Aside0.mk (Kd.R_below (by (with_reducible repeat (first | apply Kd.R_alloc | apply Kd.R_drewN | apply Kd.R_drew)); exact HO140.out) hb); have n3_ := Aside0.mk (Kd.R_below (by (with_reducible repeat (first | apply Kd.R_alloc | apply Kd.R_drewN | apply Kd.R_drew)); exact HO143.out) hb); have n4_ := Aside0.mk (below_step (by repeat (first | (with_reducible first | exact HB.out | apply below_alloc | apply pw_below_drewN | apply below_drew1) | exact HB.out)) hb); clear HO133; clear HO137; clear HO140; clear HO143; clear HB; have HO133 := n0_; have HO137 := n1_; have HO140 := n2_; have HO143 := n3_; have HB := n4_; clear n0_ n1_ n2_ n3_ n4_; (try clear hb); (try clear hb2); (try clear hk); (try clear hi)))
         go_ret
         exact ⟨by first | rfl | (simp [errW_none, errW_some] <;> rfl) | (simp [*, errW_none, errW_some] <;> rfl), by repeat (first | (with_reducible first | exact HB.out | apply below_alloc | apply pw_below_drewN | apply below_drew1) | exact HB.out)⟩
        ·replace c11 := Bool.eq_false_iff.mpr c11
         subst c11
         have H1 : (some false) = some r := by rw [if_neg (show ¬ (false = true) by decide)] at H; exact H
         clear H
         have H := H1
         clear H1
         obtain rfl := Option.some.inj H
         go_enter Try.func6, Try.ntmps6
         go_wp2_with (first | ((with_reducible refine gate_dst (N := 7) rfl ?_); (try (refine gate_guard (by rfl) ?_; dsimp only)); refine Kd.R_lit k34 _ 34 ?hg (N := 7) ?hd (xs := ([(⟨0, 1⟩ : S34), (⟨1, 0⟩ : S34)] : List (S34))) (inner := [.int .i64 0, .int .i64 1, .int .i64 1, .int .i64 0]) (ok := fun _ => True) (okp := fun _ => True) ?hr ?hp (fun _ hk => hk) trivial (Below.refl _ _) (Nat.le_refl _) (by simp) ?_; (case hd => rfl); (case hg => rfl); (case hr => first | (go_simp; done) | (go_simp; rfl)); (case hp => exact (Reps.c2 (show Kd.M k34 _ _ _ (⟨0, 1⟩ : S34) [.int .i64 0, .int .i64 1] from (k34_mkM _ _ _ (⟨0, 1⟩ : S34) )) (Reps.c2 (show Kd.M k34 _ _ _ (⟨1, 0⟩ : S34) [.int .i64 1, .int .i64 0] from (k34_mkM _ _ _ (⟨1, 0⟩ : S34) )) (Reps.none _ _)))); intro v132 w25 ho26 hb hg_ hnew_; clear hg_ hnew_; (first | rw [← Ny131.out] at ho26 | (simp only [Int.reduceToNat] at ho26; rw [← Ny131.out] at ho26)); have n0_ := Aside0.mk (Kd.R_lower ho26 (below_size (by repeat (first | (with_reducible first | exact HB.out | apply below_alloc | apply pw_below_drewN | apply below_drew1) | exact HB.out)))); have n1_ := Aside0.mk (below_step (by repeat (first | (with_reducible first | exact HB.out | apply below_alloc | apply pw_below_drewN | apply below_drew1) | exact HB.out)) hb); clear HB; have HO133 := n0_; have HB := n1_; clear n0_ n1_; clear hb ho26; obtain ⟨Ao27, co27, eo27⟩ := Kd.R_slice HO133.out; subst eo27) | ((with_reducible refine gate_callee (f := 14) rfl ?_); refine goesL_ (some 10) rfl rfl Try.func14 (by kernel_rfl) rfl #[.slice Ao27 y131.length co27, .int .i64 2] rfl (by (try simp only [List.map_toArray, List.map_cons, List.map_nil]); first | done | rfl | (simp only [List.length_drop, List.length_take]; rfl)) ?_; (with_reducible refine (copies_Row.calls k _ _ y131 2 t134 t135 _ ?side1 ?side2 A1.out).mono ?_); (case side1 => repeat (first | exact (Kd.R_reads' HO133.out).2.2 | (with_reducible refine Kd.C_alloc ?_ _) | (with_reducible refine Kd.C_drewN ?_ _) | (with_reducible refine Kd.C_drew ?_))); (case side2 => exact (Kd.R_reads' HO133.out).2.1); rintro e w28 ⟨v136, rfl, ho0, hb⟩; refine ⟨_, rfl, ?_⟩; have n0_ := Aside0.mk (Kd.R_elder' (by (with_reducible repeat (first | apply Kd.R_alloc | apply Kd.R_drewN | apply Kd.R_drew)); exact HO133.out) (Kd.R_base ho0) hb); have n1_ := Aside0.mk (Kd.R_lower (Kd.R_new' ho0 (Kd.R_lt (by (with_reducible repeat (first | apply Kd.R_alloc | apply Kd.R_drewN | apply Kd.R_drew)); exact HO133.out))) (below_size (by repeat (first | (with_reducible first | exact HB.out | apply below_alloc | apply pw_below_drewN | apply below_drew1) | exact HB.out)))); have n2_ := Aside0.mk (below_step (by repeat (first | (with_reducible first | exact HB.out | apply below_alloc | apply pw_below_drewN | apply below_drew1) | exact HB.out)) hb); clear HO133; clear HB; have HO133 := n0_; have HO137 := n1_; have HB := n2_; clear n0_ n1_ n2_; (try clear hb); (try clear hb2); (try clear hk); (try clear hi); (try clear ho0)) | ((with_reducible refine gate_dst (N := 14) rfl ?_); (try (refine gate_guard (by rfl) ?_; dsimp only)); refine Kd.R_lit (Kd.int .u16) _ 35 ?hg (N := 14) ?hd (xs := ([7, 8, 9] : List Int)) (inner := [.int .u16 7, .int .u16 8, .int .u16 9]) (ok := fun _ => True) (okp := fun _ => True) ?hr ?hp (fun _ hk => hk) trivial (Below.refl _ _) (Nat.le_refl _) (by simp) ?_; (case hd => rfl); (case hg => rfl); (case hr => first | (go_simp; done) | (go_simp; rfl)); (case hp => exact (Reps.one (show Kd.M (Kd.int .u16) _ _ _ 7 [.int .u16 7] from rfl) (Reps.one (show Kd.M (Kd.int .u16) _ _ _ 8 [.int .u16 8] from rfl) (Reps.one (show Kd.M (Kd.int .u16) _ _ _ 9 [.int .u16 9] from rfl) (Reps.none _ _))))); intro v139 w29 ho30 hb hg_ hnew_; clear hg_ hnew_; (first | rw [← Ny138.out] at ho30 | (simp only [Int.reduceToNat] at ho30; rw [← Ny138.out] at ho30)); have n0_ := Aside0.mk (Kd.R_below (by (with_reducible repeat (first | apply Kd.R_alloc | apply Kd.R_drewN | apply Kd.R_drew)); exact HO133.out) hb); have n1_ := Aside0.mk (Kd.R_below (by (with_reducible repeat (first | apply Kd.R_alloc | apply Kd.R_drewN | apply Kd.R_drew)); exact HO137.out) hb); have n2_ := Aside0.mk (Kd.R_lower ho30 (below_size (by repeat (first | (with_reducible first | exact HB.out | apply below_alloc | apply pw_below_drewN | apply below_drew1) | exact HB.out)))); have n3_ := Aside0.mk (below_step (by repeat (first | (with_reducible first | exact HB.out | apply below_alloc | apply pw_below_drewN | apply below_drew1) | exact HB.out)) hb); clear HO133; clear HO137; clear HB; have HO133 := n0_; have HO137 := n1_; have HO140 := n2_; have HB := n3_; clear n0_ n1_ n2_ n3_; clear hb ho30; obtain ⟨Ao31, co31, eo31⟩ := Kd.R_slice HO137.out; subst eo31; obtain ⟨Ao32, co32, eo32⟩ := Kd.R_slice HO140.out; subst eo32) | ((with_reducible refine gate_callee (f := 12) rfl ?_); refine goesL_ (some 15) rfl rfl Try.func12 (by kernel_rfl) rfl #[.slice Ao31 t134.length co31, .slice Ao32 y138.length co32] rfl (by (try simp only [List.map_toArray, List.map_cons, List.map_nil]); first | done | rfl | (simp only [List.length_drop, List.length_take]; rfl)) ?_; (with_reducible refine (copies_Made.calls k _ _ t134 _ _ y138 t141 _ ?side1 ?side2 ?side3 ?side4 A2.out).mono ?_); (case side1 => repeat (first | exact (Kd.R_reads' HO137.out).2.2 | (with_reducible refine Kd.C_alloc ?_ _) | (with_reducible refine Kd.C_drewN ?_ _) | (with_reducible refine Kd.C_drew ?_))); (case side2 => exact (Kd.R_reads' HO137.out).2.1); (case side3 => repeat (first | exact (Kd.R_reads' HO140.out).2.2 | (with_reducible refine Kd.C_alloc ?_ _) | (with_reducible refine Kd.C_drewN ?_ _) | (with_reducible refine Kd.C_drew ?_))); (case side4 => exact (Kd.R_reads' HO140.out).2.1); rintro e w33 ⟨v142, rfl, ho0, hb⟩; refine ⟨_, rfl, ?_⟩; have n0_ := Aside0.mk (Kd.R_below (by (with_reducible repeat (first | apply Kd.R_alloc | apply Kd.R_drewN | apply Kd.R_drew)); exact HO133.out) hb); have n1_ := Aside0.mk (Kd.R_below (by (with_reducible repeat (first | apply Kd.R_alloc | apply Kd.R_drewN | apply Kd.R_drew)); exact HO137.out) hb); have n2_ := Aside0.mk (Kd.R_elder' (by (with_reducible repeat (first | apply Kd.R_alloc | apply Kd.R_drewN | apply Kd.R_drew)); exact HO140.out) (Kd.R_base ho0) hb); have n3_ := Aside0.mk (Kd.R_lower (Kd.R_new' ho0 (Kd.R_lt (by (with_reducible repeat (first | apply Kd.R_alloc | apply Kd.R_drewN | apply Kd.R_drew)); exact HO140.out))) (below_size (by repeat (first | (with_reducible first | exact HB.out | apply below_alloc | apply pw_below_drewN | apply below_drew1) | exact HB.out)))); have n4_ := Aside0.mk (below_step (by repeat (first | (with_reducible first | exact HB.out | apply below_alloc | apply pw_below_drewN | apply below_drew1) | exact HB.out)) hb); clear HO133; clear HO137; clear HO140; clear HB; have HO133 := n0_; have HO137 := n1_; have HO140 := n2_; have HO143 := n3_; have HB := n4_; clear n0_ n1_ n2_ n3_ n4_; (try clear hb); (try clear hb2); (try clear hk); (try clear hi); (try clear ho0); obtain ⟨Ao34, co34, eo34⟩ := Kd.R_slice HO143.out; subst eo34; have p144 : 0 ≤ (0 : Int) := (by omega); have q144 : 0 < (t141.length : Int) := of_decide_eq_true (by first | (with_reducible assumption) | assumption); obtain ⟨ad144, e144, hx144_0⟩ := Kd.at_int (Kd.R_reads' HO143.out).2.2 0 p144 q144; cases e144; have qi144 : (0 < t141.length) = True := eq_true (by omega); (try rw [show ((0 : Int)).toNat = 0 from rfl] at hx144_0); (try rw [Addr.add_zero'] at hx144_0); replace p144 := eq_true p144; replace q144 := eq_true q144; have p145 : 0 ≤ (1 : Int) := (by omega); have q145 : 1 < (t141.length : Int) := of_decide_eq_true (by first | (with_reducible assumption) | assumption); obtain ⟨ad145, e145, hx145_0⟩ := Kd.at_int (Kd.R_reads' HO143.out).2.2 1 p145 q145; obtain rfl : ad144 = ad145 := (by injection e145); (try simp only [show (1 : Int).toNat = 1 from rfl, Nat.reduceMul, Nat.reduceEqDiff, Go.Addr.add, ↓reduceIte] at hx145_0); have qi145 : (1 < t141.length) = True := eq_true (by omega); (try rw [show ((1 : Int)).toNat = 1 from rfl] at hx145_0); replace p145 := eq_true p145; replace q145 := eq_true q145) | (go_at_call 7; (with_reducible refine (copies_May.calls _ _ y131 false _ ?side1 ?side2 A10.out).mono ?_); (case side1 => repeat (first | exact (Kd.R_reads' HO133.out).2.2 | (with_reducible refine Kd.C_alloc ?_ _) | (with_reducible refine Kd.C_drewN ?_ _) | (with_reducible refine Kd.C_drew ?_))); (case side2 => exact (Kd.R_reads' HO133.out).2.1); rintro e w35 ⟨rfl, hb⟩; have n0_ := Aside0.mk (Kd.R_below (by (with_reducible repeat (first | apply Kd.R_alloc | apply Kd.R_drewN | apply Kd.R_drew)); exact HO133.out) hb); have n1_ := Aside0.mk (Kd.R_below (by (with_reducible repeat (first | apply Kd.R_alloc | apply Kd.R_drewN | apply Kd.R_drew)); exact HO137.out) hb); have n2_ := Aside0.mk (Kd.R_below (by (with_reducible repeat (first | apply Kd.R_alloc | apply Kd.R_drewN | apply Kd.R_drew)); exact HO140.out) hb); have n3_ := Aside0.mk (Kd.R_below (by (with_reducible repeat (first | apply Kd.R_alloc | apply Kd.R_drewN | apply Kd.R_drew)); exact HO143.out) hb); have n4_ := Aside0.mk (below_step (by repeat (first | (with_reducible first | exact HB.out | apply below_alloc | apply pw_below_drewN | apply below_drew1) | exact HB.out)) hb); clear HO133; clear HO137; clear HO140; clear HO143; clear HB; have HO133 := n0_; have HO137 := n1_; have HO140 := n2_; have HO143 := n3_; have HB := n4_; clear n0_ n1_ n2_ n3_ n4_; (try clear hb); (try clear hb2); (try clear hk); (try clear hi)))
         go_ret
         exact ⟨by first | rfl | (simp [errW_none, errW_some] <;> rfl) | (simp [*, errW_none, errW_some] <;> rfl), by repeat (first | (with_reducible first | exact HB.out | apply below_alloc | apply pw_below_drewN | apply below_drew1) | exact HB.out)⟩
       ·rw [if_neg c9] at H
        have c9b0 : ((rd t141 1) == 7) = false := beq_eq_false_iff_ne.mpr c9
        have c9b1 : ((rd t141 1) != 7) = true := bne_iff_ne.mpr c9
        obtain rfl := Option.some.inj H
        go_enter Try.func6, Try.ntmps6
        go_wp2_with (first | ((with_reducible refine gate_dst (N := 7) rfl ?_); (try (refine gate_guard (by rfl) ?_; dsimp only)); refine Kd.R_lit k34 _ 34 ?hg (N := 7) ?hd (xs := ([(⟨0, 1⟩ : S34), (⟨1, 0⟩ : S34)] : List (S34))) (inner := [.int .i64 0, .int .i64 1, .int .i64 1, .int .i64 0]) (ok := fun _ => True) (okp := fun _ => True) ?hr ?hp (fun _ hk => hk) trivial (Below.refl _ _) (Nat.le_refl _) (by simp) ?_; (case hd => rfl); (case hg => rfl); (case hr => first | (go_simp; done) | (go_simp; rfl)); (case hp => exact (Reps.c2 (show Kd.M k34 _ _ _ (⟨0, 1⟩ : S34) [.int .i64 0, .int .i64 1] from (k34_mkM _ _ _ (⟨0, 1⟩ : S34) )) (Reps.c2 (show Kd.M k34 _ _ _ (⟨1, 0⟩ : S34) [.int .i64 1, .int .i64 0] from (k34_mkM _ _ _ (⟨1, 0⟩ : S34) )) (Reps.none _ _)))); intro v132 w36 ho37 hb hg_ hnew_; clear hg_ hnew_; (first | rw [← Ny131.out] at ho37 | (simp only [Int.reduceToNat] at ho37; rw [← Ny131.out] at ho37)); have n0_ := Aside0.mk (Kd.R_lower ho37 (below_size (by repeat (first | (with_reducible first | exact HB.out | apply below_alloc | apply pw_below_drewN | apply below_drew1) | exact HB.out)))); have n1_ := Aside0.mk (below_step (by repeat (first | (with_reducible first | exact HB.out | apply below_alloc | apply pw_below_drewN | apply below_drew1) | exact HB.out)) hb); clear HB; have HO133 := n0_; have HB := n1_; clear n0_ n1_; clear hb ho37; obtain ⟨Ao38, co38, eo38⟩ := Kd.R_slice HO133.out; subst eo38) | ((with_reducible refine gate_callee (f := 14) rfl ?_); refine goesL_ (some 10) rfl rfl Try.func14 (by kernel_rfl) rfl #[.slice Ao38 y131.length co38, .int .i64 2] rfl (by (try simp only [List.map_toArray, List.map_cons, List.map_nil]); first | done | rfl | (simp only [List.length_drop, List.length_take]; rfl)) ?_; (with_reducible refine (copies_Row.calls k _ _ y131 2 t134 t135 _ ?side1 ?side2 A1.out).mono ?_); (case side1 => repeat (first | exact (Kd.R_reads' HO133.out).2.2 | (with_reducible refine Kd.C_alloc ?_ _) | (with_reducible refine Kd.C_drewN ?_ _) | (with_reducible refine Kd.C_drew ?_))); (case side2 => exact (Kd.R_reads' HO133.out).2.1); rintro e w39 ⟨v136, rfl, ho0, hb⟩; refine ⟨_, rfl, ?_⟩; have n0_ := Aside0.mk (Kd.R_elder' (by (with_reducible repeat (first | apply Kd.R_alloc | apply Kd.R_drewN | apply Kd.R_drew)); exact HO133.out) (Kd.R_base ho0) hb); have n1_ := Aside0.mk (Kd.R_lower (Kd.R_new' ho0 (Kd.R_lt (by (with_reducible repeat (first | apply Kd.R_alloc | apply Kd.R_drewN | apply Kd.R_drew)); exact HO133.out))) (below_size (by repeat (first | (with_reducible first | exact HB.out | apply below_alloc | apply pw_below_drewN | apply below_drew1) | exact HB.out)))); have n2_ := Aside0.mk (below_step (by repeat (first | (with_reducible first | exact HB.out | apply below_alloc | apply pw_below_drewN | apply below_drew1) | exact HB.out)) hb); clear HO133; clear HB; have HO133 := n0_; have HO137 := n1_; have HB := n2_; clear n0_ n1_ n2_; (try clear hb); (try clear hb2); (try clear hk); (try clear hi); (try clear ho0)) | ((with_reducible refine gate_dst (N := 14) rfl ?_); (try (refine gate_guard (by rfl) ?_; dsimp only)); refine Kd.R_lit (Kd.int .u16) _ 35 ?hg (N := 14) ?hd (xs := ([7, 8, 9] : List Int)) (inner := [.int .u16 7, .int .u16 8, .int .u16 9]) (ok := fun _ => True) (okp := fun _ => True) ?hr ?hp (fun _ hk => hk) trivial (Below.refl _ _) (Nat.le_refl _) (by simp) ?_; (case hd => rfl); (case hg => rfl); (case hr => first | (go_simp; done) | (go_simp; rfl)); (case hp => exact (Reps.one (show Kd.M (Kd.int .u16) _ _ _ 7 [.int .u16 7] from rfl) (Reps.one (show Kd.M (Kd.int .u16) _ _ _ 8 [.int .u16 8] from rfl) (Reps.one (show Kd.M (Kd.int .u16) _ _ _ 9 [.int .u16 9] from rfl) (Reps.none _ _))))); intro v139 w40 ho41 hb hg_ hnew_; clear hg_ hnew_; (first | rw [← Ny138.out] at ho41 | (simp only [Int.reduceToNat] at ho41; rw [← Ny138.out] at ho41)); have n0_ := Aside0.mk (Kd.R_below (by (with_reducible repeat (first | apply Kd.R_alloc | apply Kd.R_drewN | apply Kd.R_drew)); exact HO133.out) hb); have n1_ := Aside0.mk (Kd.R_below (by (with_reducible repeat (first | apply Kd.R_alloc | apply Kd.R_drewN | apply Kd.R_drew)); exact HO137.out) hb); have n2_ := Aside0.mk (Kd.R_lower ho41 (below_size (by repeat (first | (with_reducible first | exact HB.out | apply below_alloc | apply pw_below_drewN | apply below_drew1) | exact HB.out)))); have n3_ := Aside0.mk (below_step (by repeat (first | (with_reducible first | exact HB.out | apply below_alloc | apply pw_below_drewN | apply below_drew1) | exact HB.out)) hb); clear HO133; clear HO137; clear HB; have HO133 := n0_; have HO137 := n1_; have HO140 := n2_; have HB := n3_; clear n0_ n1_ n2_ n3_; clear hb ho41; obtain ⟨Ao42, co42, eo42⟩ := Kd.R_slice HO137.out; subst eo42; obtain ⟨Ao43, co43, eo43⟩ := Kd.R_slice HO140.out; subst eo43) | ((with_reducible refine gate_callee (f := 12) rfl ?_); refine goesL_ (some 15) rfl rfl Try.func12 (by kernel_rfl) rfl #[.slice Ao42 t134.length co42, .slice Ao43 y138.length co43] rfl (by (try simp only [List.map_toArray, List.map_cons, List.map_nil]); first | done | rfl | (simp only [List.length_drop, List.length_take]; rfl)) ?_; (with_reducible refine (copies_Made.calls k _ _ t134 _ _ y138 t141 _ ?side1 ?side2 ?side3 ?side4 A2.out).mono ?_); (case side1 => repeat (first | exact (Kd.R_reads' HO137.out).2.2 | (with_reducible refine Kd.C_alloc ?_ _) | (with_reducible refine Kd.C_drewN ?_ _) | (with_reducible refine Kd.C_drew ?_))); (case side2 => exact (Kd.R_reads' HO137.out).2.1); (case side3 => repeat (first | exact (Kd.R_reads' HO140.out).2.2 | (with_reducible refine Kd.C_alloc ?_ _) | (with_reducible refine Kd.C_drewN ?_ _) | (with_reducible refine Kd.C_drew ?_))); (case side4 => exact (Kd.R_reads' HO140.out).2.1); rintro e w44 ⟨v142, rfl, ho0, hb⟩; refine ⟨_, rfl, ?_⟩; have n0_ := Aside0.mk (Kd.R_below (by (with_reducible repeat (first | apply Kd.R_alloc | apply Kd.R_drewN | apply Kd.R_drew)); exact HO133.out) hb); have n1_ := Aside0.mk (Kd.R_below (by (with_reducible repeat (first | apply Kd.R_alloc | apply Kd.R_drewN | apply Kd.R_drew)); exact HO137.out) hb); have n2_ := Aside0.mk (Kd.R_elder' (by (with_reducible repeat (first | apply Kd.R_alloc | apply Kd.R_drewN | apply Kd.R_drew)); exact HO140.out) (Kd.R_base ho0) hb); have n3_ := Aside0.mk (Kd.R_lower (Kd.R_new' ho0 (Kd.R_lt (by (with_reducible repeat (first | apply Kd.R_alloc | apply Kd.R_drewN | apply Kd.R_drew)); exact HO140.out))) (below_size (by repeat (first | (with_reducible first | exact HB.out | apply below_alloc | apply pw_below_drewN | apply below_drew1) | exact HB.out)))); have n4_ := Aside0.mk (below_step (by repeat (first | (with_reducible first | exact HB.out | apply below_alloc | apply pw_below_drewN | apply below_drew1) | exact HB.out)) hb); clear HO133; clear HO137; clear HO140; clear HB; have HO133 := n0_; have HO137 := n1_; have HO140 := n2_; have HO143 := n3_; have HB := n4_; clear n0_ n1_ n2_ n3_ n4_; (try clear hb); (try clear hb2); (try clear hk); (try clear hi); (try clear ho0); obtain ⟨Ao45, co45, eo45⟩ := Kd.R_slice HO143.out; subst eo45; have p144 : 0 ≤ (0 : Int) := (by omega); have q144 : 0 < (t141.length : Int) := of_decide_eq_true (by first | (with_reducible assumption) | assumption); obtain ⟨ad144, e144, hx144_0⟩ := Kd.at_int (Kd.R_reads' HO143.out).2.2 0 p144 q144; cases e144; have qi144 : (0 < t141.length) = True := eq_true (by omega); (try rw [show ((0 : Int)).toNat = 0 from rfl] at hx144_0); (try rw [Addr.add_zero'] at hx144_0); replace p144 := eq_true p144; replace q144 := eq_true q144; have p145 : 0 ≤ (1 : Int) := (by omega); have q145 : 1 < (t141.length : Int) := of_decide_eq_true (by first | (with_reducible assumption) | assumption); obtain ⟨ad145, e145, hx145_0⟩ := Kd.at_int (Kd.R_reads' HO143.out).2.2 1 p145 q145; obtain rfl : ad144 = ad145 := (by injection e145); (try simp only [show (1 : Int).toNat = 1 from rfl, Nat.reduceMul, Nat.reduceEqDiff, Go.Addr.add, ↓reduceIte] at hx145_0); have qi145 : (1 < t141.length) = True := eq_true (by omega); (try rw [show ((1 : Int)).toNat = 1 from rfl] at hx145_0); replace p145 := eq_true p145; replace q145 := eq_true q145))
        go_ret
        exact ⟨by first | rfl | (simp [errW_none, errW_some] <;> rfl) | (simp [*, errW_none, errW_some] <;> rfl), by repeat (first | (with_reducible first | exact HB.out | apply below_alloc | apply pw_below_drewN | apply below_drew1) | exact HB.out)⟩
      ·rw [if_neg c8] at H
       exact absurd H (by simp)
     ·rw [if_neg c7] at H
      have c7b0 : ((rd t141 0) == 8) = false := beq_eq_false_iff_ne.mpr c7
      have c7b1 : ((rd t141 0) != 8) = true := bne_iff_ne.mpr c7
      obtain rfl := Option.some.inj H
      go_enter Try.func6, Try.ntmps6
      go_wp2_with (first | ((with_reducible refine gate_dst (N := 7) rfl ?_); (try (refine gate_guard (by rfl) ?_; dsimp only)); refine Kd.R_lit k34 _ 34 ?hg (N := 7) ?hd (xs := ([(⟨0, 1⟩ : S34), (⟨1, 0⟩ : S34)] : List (S34))) (inner := [.int .i64 0, .int .i64 1, .int .i64 1, .int .i64 0]) (ok := fun _ => True) (okp := fun _ => True) ?hr ?hp (fun _ hk => hk) trivial (Below.refl _ _) (Nat.le_refl _) (by simp) ?_; (case hd => rfl); (case hg => rfl); (case hr => first | (go_simp; done) | (go_simp; rfl)); (case hp => exact (Reps.c2 (show Kd.M k34 _ _ _ (⟨0, 1⟩ : S34) [.int .i64 0, .int .i64 1] from (k34_mkM _ _ _ (⟨0, 1⟩ : S34) )) (Reps.c2 (show Kd.M k34 _ _ _ (⟨1, 0⟩ : S34) [.int .i64 1, .int .i64 0] from (k34_mkM _ _ _ (⟨1, 0⟩ : S34) )) (Reps.none _ _)))); intro v132 w46 ho47 hb hg_ hnew_; clear hg_ hnew_; (first | rw [← Ny131.out] at ho47 | (simp only [Int.reduceToNat] at ho47; rw [← Ny131.out] at ho47)); have n0_ := Aside0.mk (Kd.R_lower ho47 (below_size (by repeat (first | (with_reducible first | exact HB.out | apply below_alloc | apply pw_below_drewN | apply below_drew1) | exact HB.out)))); have n1_ := Aside0.mk (below_step (by repeat (first | (with_reducible first | exact HB.out | apply below_alloc | apply pw_below_drewN | apply below_drew1) | exact HB.out)) hb); clear HB; have HO133 := n0_; have HB := n1_; clear n0_ n1_; clear hb ho47; obtain ⟨Ao48, co48, eo48⟩ := Kd.R_slice HO133.out; subst eo48) | ((with_reducible refine gate_callee (f := 14) rfl ?_); refine goesL_ (some 10) rfl rfl Try.func14 (by kernel_rfl) rfl #[.slice Ao48 y131.length co48, .int .i64 2] rfl (by (try simp only [List.map_toArray, List.map_cons, List.map_nil]); first | done | rfl | (simp only [List.length_drop, List.length_take]; rfl)) ?_; (with_reducible refine (copies_Row.calls k _ _ y131 2 t134 t135 _ ?side1 ?side2 A1.out).mono ?_); (case side1 => repeat (first | exact (Kd.R_reads' HO133.out).2.2 | (with_reducible refine Kd.C_alloc ?_ _) | (with_reducible refine Kd.C_drewN ?_ _) | (with_reducible refine Kd.C_drew ?_))); (case side2 => exact (Kd.R_reads' HO133.out).2.1); rintro e w49 ⟨v136, rfl, ho0, hb⟩; refine ⟨_, rfl, ?_⟩; have n0_ := Aside0.mk (Kd.R_elder' (by (with_reducible repeat (first | apply Kd.R_alloc | apply Kd.R_drewN | apply Kd.R_drew)); exact HO133.out) (Kd.R_base ho0) hb); have n1_ := Aside0.mk (Kd.R_lower (Kd.R_new' ho0 (Kd.R_lt (by (with_reducible repeat (first | apply Kd.R_alloc | apply Kd.R_drewN | apply Kd.R_drew)); exact HO133.out))) (below_size (by repeat (first | (with_reducible first | exact HB.out | apply below_alloc | apply pw_below_drewN | apply below_drew1) | exact HB.out)))); have n2_ := Aside0.mk (below_step (by repeat (first | (with_reducible first | exact HB.out | apply below_alloc | apply pw_below_drewN | apply below_drew1) | exact HB.out)) hb); clear HO133; clear HB; have HO133 := n0_; have HO137 := n1_; have HB := n2_; clear n0_ n1_ n2_; (try clear hb); (try clear hb2); (try clear hk); (try clear hi); (try clear ho0)) | ((with_reducible refine gate_dst (N := 14) rfl ?_); (try (refine gate_guard (by rfl) ?_; dsimp only)); refine Kd.R_lit (Kd.int .u16) _ 35 ?hg (N := 14) ?hd (xs := ([7, 8, 9] : List Int)) (inner := [.int .u16 7, .int .u16 8, .int .u16 9]) (ok := fun _ => True) (okp := fun _ => True) ?hr ?hp (fun _ hk => hk) trivial (Below.refl _ _) (Nat.le_refl _) (by simp) ?_; (case hd => rfl); (case hg => rfl); (case hr => first | (go_simp; done) | (go_simp; rfl)); (case hp => exact (Reps.one (show Kd.M (Kd.int .u16) _ _ _ 7 [.int .u16 7] from rfl) (Reps.one (show Kd.M (Kd.int .u16) _ _ _ 8 [.int .u16 8] from rfl) (Reps.one (show Kd.M (Kd.int .u16) _ _ _ 9 [.int .u16 9] from rfl) (Reps.none _ _))))); intro v139 w50 ho51 hb hg_ hnew_; clear hg_ hnew_; (first | rw [← Ny138.out] at ho51 | (simp only [Int.reduceToNat] at ho51; rw [← Ny138.out] at ho51)); have n0_ := Aside0.mk (Kd.R_below (by (with_reducible repeat (first | apply Kd.R_alloc | apply Kd.R_drewN | apply Kd.R_drew)); exact HO133.out) hb); have n1_ := Aside0.mk (Kd.R_below (by (with_reducible repeat (first | apply Kd.R_alloc | apply Kd.R_drewN | apply Kd.R_drew)); exact HO137.out) hb); have n2_ := Aside0.mk (Kd.R_lower ho51 (below_size (by repeat (first | (with_reducible first | exact HB.out | apply below_alloc | apply pw_below_drewN | apply below_drew1) | exact HB.out)))); have n3_ := Aside0.mk (below_step (by repeat (first | (with_reducible first | exact HB.out | apply below_alloc | apply pw_below_drewN | apply below_drew1) | exact HB.out)) hb); clear HO133; clear HO137; clear HB; have HO133 := n0_; have HO137 := n1_; have HO140 := n2_; have HB := n3_; clear n0_ n1_ n2_ n3_; clear hb ho51; obtain ⟨Ao52, co52, eo52⟩ := Kd.R_slice HO137.out; subst eo52; obtain ⟨Ao53, co53, eo53⟩ := Kd.R_slice HO140.out; subst eo53) | ((with_reducible refine gate_callee (f := 12) rfl ?_); refine goesL_ (some 15) rfl rfl Try.func12 (by kernel_rfl) rfl #[.slice Ao52 t134.length co52, .slice Ao53 y138.length co53] rfl (by (try simp only [List.map_toArray, List.map_cons, List.map_nil]); first | done | rfl | (simp only [List.length_drop, List.length_take]; rfl)) ?_; (with_reducible refine (copies_Made.calls k _ _ t134 _ _ y138 t141 _ ?side1 ?side2 ?side3 ?side4 A2.out).mono ?_); (case side1 => repeat (first | exact (Kd.R_reads' HO137.out).2.2 | (with_reducible refine Kd.C_alloc ?_ _) | (with_reducible refine Kd.C_drewN ?_ _) | (with_reducible refine Kd.C_drew ?_))); (case side2 => exact (Kd.R_reads' HO137.out).2.1); (case side3 => repeat (first | exact (Kd.R_reads' HO140.out).2.2 | (with_reducible refine Kd.C_alloc ?_ _) | (with_reducible refine Kd.C_drewN ?_ _) | (with_reducible refine Kd.C_drew ?_))); (case side4 => exact (Kd.R_reads' HO140.out).2.1); rintro e w54 ⟨v142, rfl, ho0, hb⟩; refine ⟨_, rfl, ?_⟩; have n0_ := Aside0.mk (Kd.R_below (by (with_reducible repeat (first | apply Kd.R_alloc | apply Kd.R_drewN | apply Kd.R_drew)); exact HO133.out) hb); have n1_ := Aside0.mk (Kd.R_below (by (with_reducible repeat (first | apply Kd.R_alloc | apply Kd.R_drewN | apply Kd.R_drew)); exact HO137.out) hb); have n2_ := Aside0.mk (Kd.R_elder' (by (with_reducible repeat (first | apply Kd.R_alloc | apply Kd.R_drewN | apply Kd.R_drew)); exact HO140.out) (Kd.R_base ho0) hb); have n3_ := Aside0.mk (Kd.R_lower (Kd.R_new' ho0 (Kd.R_lt (by (with_reducible repeat (first | apply Kd.R_alloc | apply Kd.R_drewN | apply Kd.R_drew)); exact HO140.out))) (below_size (by repeat (first | (with_reducible first | exact HB.out | apply below_alloc | apply pw_below_drewN | apply below_drew1) | exact HB.out)))); have n4_ := Aside0.mk (below_step (by repeat (first | (with_reducible first | exact HB.out | apply below_alloc | apply pw_below_drewN | apply below_drew1) | exact HB.out)) hb); clear HO133; clear HO137; clear HO140; clear HB; have HO133 := n0_; have HO137 := n1_; have HO140 := n2_; have HO143 := n3_; have HB := n4_; clear n0_ n1_ n2_ n3_ n4_; (try clear hb); (try clear hb2); (try clear hk); (try clear hi); (try clear ho0); obtain ⟨Ao55, co55, eo55⟩ := Kd.R_slice HO143.out; subst eo55; have p144 : 0 ≤ (0 : Int) := (by omega); have q144 : 0 < (t141.length : Int) := of_decide_eq_true (by first | (with_reducible assumption) | assumption); obtain ⟨ad144, e144, hx144_0⟩ := Kd.at_int (Kd.R_reads' HO143.out).2.2 0 p144 q144; cases e144; have qi144 : (0 < t141.length) = True := eq_true (by omega); (try rw [show ((0 : Int)).toNat = 0 from rfl] at hx144_0); (try rw [Addr.add_zero'] at hx144_0); replace p144 := eq_true p144; replace q144 := eq_true q144))
      go_ret
      exact ⟨by first | rfl | (simp [errW_none, errW_some] <;> rfl) | (simp [*, errW_none, errW_some] <;> rfl), by repeat (first | (with_reducible first | exact HB.out | apply below_alloc | apply pw_below_drewN | apply below_drew1) | exact HB.out)⟩
    ·rw [if_neg c6] at H
     exact absurd H (by simp)
   ·rw [if_neg c5] at H
    have c5b0 : ((t141.length : Int) == 3) = false := beq_eq_false_iff_ne.mpr c5
    have c5b1 : ((t141.length : Int) != 3) = true := bne_iff_ne.mpr c5
    obtain rfl := Option.some.inj H
    go_enter Try.func6, Try.ntmps6
    go_wp2_with (first | ((with_reducible refine gate_dst (N := 7) rfl ?_); (try (refine gate_guard (by rfl) ?_; dsimp only)); refine Kd.R_lit k34 _ 34 ?hg (N := 7) ?hd (xs := ([(⟨0, 1⟩ : S34), (⟨1, 0⟩ : S34)] : List (S34))) (inner := [.int .i64 0, .int .i64 1, .int .i64 1, .int .i64 0]) (ok := fun _ => True) (okp := fun _ => True) ?hr ?hp (fun _ hk => hk) trivial (Below.refl _ _) (Nat.le_refl _) (by simp) ?_; (case hd => rfl); (case hg => rfl); (case hr => first | (go_simp; done) | (go_simp; rfl)); (case hp => exact (Reps.c2 (show Kd.M k34 _ _ _ (⟨0, 1⟩ : S34) [.int .i64 0, .int .i64 1] from (k34_mkM _ _ _ (⟨0, 1⟩ : S34) )) (Reps.c2 (show Kd.M k34 _ _ _ (⟨1, 0⟩ : S34) [.int .i64 1, .int .i64 0] from (k34_mkM _ _ _ (⟨1, 0⟩ : S34) )) (Reps.none _ _)))); intro v132 w56 ho57 hb hg_ hnew_; clear hg_ hnew_; (first | rw [← Ny131.out] at ho57 | (simp only [Int.reduceToNat] at ho57; rw [← Ny131.out] at ho57)); have n0_ := Aside0.mk (Kd.R_lower ho57 (below_size (by repeat (first | (with_reducible first | exact HB.out | apply below_alloc | apply pw_below_drewN | apply below_drew1) | exact HB.out)))); have n1_ := Aside0.mk (below_step (by repeat (first | (with_reducible first | exact HB.out | apply below_alloc | apply pw_below_drewN | apply below_drew1) | exact HB.out)) hb); clear HB; have HO133 := n0_; have HB := n1_; clear n0_ n1_; clear hb ho57; obtain ⟨Ao58, co58, eo58⟩ := Kd.R_slice HO133.out; subst eo58) | ((with_reducible refine gate_callee (f := 14) rfl ?_); refine goesL_ (some 10) rfl rfl Try.func14 (by kernel_rfl) rfl #[.slice Ao58 y131.length co58, .int .i64 2] rfl (by (try simp only [List.map_toArray, List.map_cons, List.map_nil]); first | done | rfl | (simp only [List.length_drop, List.length_take]; rfl)) ?_; (with_reducible refine (copies_Row.calls k _ _ y131 2 t134 t135 _ ?side1 ?side2 A1.out).mono ?_); (case side1 => repeat (first | exact (Kd.R_reads' HO133.out).2.2 | (with_reducible refine Kd.C_alloc ?_ _) | (with_reducible refine Kd.C_drewN ?_ _) | (with_reducible refine Kd.C_drew ?_))); (case side2 => exact (Kd.R_reads' HO133.out).2.1); rintro e w59 ⟨v136, rfl, ho0, hb⟩; refine ⟨_, rfl, ?_⟩; have n0_ := Aside0.mk (Kd.R_elder' (by (with_reducible repeat (first | apply Kd.R_alloc | apply Kd.R_drewN | apply Kd.R_drew)); exact HO133.out) (Kd.R_base ho0) hb); have n1_ := Aside0.mk (Kd.R_lower (Kd.R_new' ho0 (Kd.R_lt (by (with_reducible repeat (first | apply Kd.R_alloc | apply Kd.R_drewN | apply Kd.R_drew)); exact HO133.out))) (below_size (by repeat (first | (with_reducible first | exact HB.out | apply below_alloc | apply pw_below_drewN | apply below_drew1) | exact HB.out)))); have n2_ := Aside0.mk (below_step (by repeat (first | (with_reducible first | exact HB.out | apply below_alloc | apply pw_below_drewN | apply below_drew1) | exact HB.out)) hb); clear HO133; clear HB; have HO133 := n0_; have HO137 := n1_; have HB := n2_; clear n0_ n1_ n2_; (try clear hb); (try clear hb2); (try clear hk); (try clear hi); (try clear ho0)) | ((with_reducible refine gate_dst (N := 14) rfl ?_); (try (refine gate_guard (by rfl) ?_; dsimp only)); refine Kd.R_lit (Kd.int .u16) _ 35 ?hg (N := 14) ?hd (xs := ([7, 8, 9] : List Int)) (inner := [.int .u16 7, .int .u16 8, .int .u16 9]) (ok := fun _ => True) (okp := fun _ => True) ?hr ?hp (fun _ hk => hk) trivial (Below.refl _ _) (Nat.le_refl _) (by simp) ?_; (case hd => rfl); (case hg => rfl); (case hr => first | (go_simp; done) | (go_simp; rfl)); (case hp => exact (Reps.one (show Kd.M (Kd.int .u16) _ _ _ 7 [.int .u16 7] from rfl) (Reps.one (show Kd.M (Kd.int .u16) _ _ _ 8 [.int .u16 8] from rfl) (Reps.one (show Kd.M (Kd.int .u16) _ _ _ 9 [.int .u16 9] from rfl) (Reps.none _ _))))); intro v139 w60 ho61 hb hg_ hnew_; clear hg_ hnew_; (first | rw [← Ny138.out] at ho61 | (simp only [Int.reduceToNat] at ho61; rw [← Ny138.out] at ho61)); have n0_ := Aside0.mk (Kd.R_below (by (with_reducible repeat (first | apply Kd.R_alloc | apply Kd.R_drewN | apply Kd.R_drew)); exact HO133.out) hb); have n1_ := Aside0.mk (Kd.R_below (by (with_reducible repeat (first | apply Kd.R_alloc | apply Kd.R_drewN | apply Kd.R_drew)); exact HO137.out) hb); have n2_ := Aside0.mk (Kd.R_lower ho61 (below_size (by repeat (first | (with_reducible first | exact HB.out | apply below_alloc | apply pw_below_drewN | apply below_drew1) | exact HB.out)))); have n3_ := Aside0.mk (below_step (by repeat (first | (with_reducible first | exact HB.out | apply below_alloc | apply pw_below_drewN | apply below_drew1) | exact HB.out)) hb); clear HO133; clear HO137; clear HB; have HO133 := n0_; have HO137 := n1_; have HO140 := n2_; have HB := n3_; clear n0_ n1_ n2_ n3_; clear hb ho61; obtain ⟨Ao62, co62, eo62⟩ := Kd.R_slice HO137.out; subst eo62; obtain ⟨Ao63, co63, eo63⟩ := Kd.R_slice HO140.out; subst eo63) | ((with_reducible refine gate_callee (f := 12) rfl ?_); refine goesL_ (some 15) rfl rfl Try.func12 (by kernel_rfl) rfl #[.slice Ao62 t134.length co62, .slice Ao63 y138.length co63] rfl (by (try simp only [List.map_toArray, List.map_cons, List.map_nil]); first | done | rfl | (simp only [List.length_drop, List.length_take]; rfl)) ?_; (with_reducible refine (copies_Made.calls k _ _ t134 _ _ y138 t141 _ ?side1 ?side2 ?side3 ?side4 A2.out).mono ?_); (case side1 => repeat (first | exact (Kd.R_reads' HO137.out).2.2 | (with_reducible refine Kd.C_alloc ?_ _) | (with_reducible refine Kd.C_drewN ?_ _) | (with_reducible refine Kd.C_drew ?_))); (case side2 => exact (Kd.R_reads' HO137.out).2.1); (case side3 => repeat (first | exact (Kd.R_reads' HO140.out).2.2 | (with_reducible refine Kd.C_alloc ?_ _) | (with_reducible refine Kd.C_drewN ?_ _) | (with_reducible refine Kd.C_drew ?_))); (case side4 => exact (Kd.R_reads' HO140.out).2.1); rintro e w64 ⟨v142, rfl, ho0, hb⟩; refine ⟨_, rfl, ?_⟩; have n0_ := Aside0.mk (Kd.R_below (by (with_reducible repeat (first | apply Kd.R_alloc | apply Kd.R_drewN | apply Kd.R_drew)); exact HO133.out) hb); have n1_ := Aside0.mk (Kd.R_below (by (with_reducible repeat (first | apply Kd.R_alloc | apply Kd.R_drewN | apply Kd.R_drew)); exact HO137.out) hb); have n2_ := Aside0.mk (Kd.R_elder' (by (with_reducible repeat (first | apply Kd.R_alloc | apply Kd.R_drewN | apply Kd.R_drew)); exact HO140.out) (Kd.R_base ho0) hb); have n3_ := Aside0.mk (Kd.R_lower (Kd.R_new' ho0 (Kd.R_lt (by (with_reducible repeat (first | apply Kd.R_alloc | apply Kd.R_drewN | apply Kd.R_drew)); exact HO140.out))) (below_size (by repeat (first | (with_reducible first | exact HB.out | apply below_alloc | apply pw_below_drewN | apply below_drew1) | exact HB.out)))); have n4_ := Aside0.mk (below_step (by repeat (first | (with_reducible first | exact HB.out | apply below_alloc | apply pw_below_drewN | apply below_drew1) | exact HB.out)) hb); clear HO133; clear HO137; clear HO140; clear HB; have HO133 := n0_; have HO137 := n1_; have HO140 := n2_; have HO143 := n3_; have HB := n4_; clear n0_ n1_ n2_ n3_ n4_; (try clear hb); (try clear hb2); (try clear hk); (try clear hi); (try clear ho0); obtain ⟨Ao65, co65, eo65⟩ := Kd.R_slice HO143.out; subst eo65))
    go_ret
    exact ⟨by first | rfl | (simp [errW_none, errW_some] <;> rfl) | (simp [*, errW_none, errW_some] <;> rfl), by repeat (first | (with_reducible first | exact HB.out | apply below_alloc | apply pw_below_drewN | apply below_drew1) | exact HB.out)⟩
  ·rw [if_neg c4] at H
   have c4b0 : ((t134.length : Int) == 3) = false := beq_eq_false_iff_ne.mpr c4
   have c4b1 : ((t134.length : Int) != 3) = true := bne_iff_ne.mpr c4
   obtain rfl := Option.some.inj H
   go_enter Try.func6, Try.ntmps6
   go_wp2_with (first | ((with_reducible refine gate_dst (N := 7) rfl ?_); (try (refine gate_guard (by rfl) ?_; dsimp only)); refine Kd.R_lit k34 _ 34 ?hg (N := 7) ?hd (xs := ([(⟨0, 1⟩ : S34), (⟨1, 0⟩ : S34)] : List (S34))) (inner := [.int .i64 0, .int .i64 1, .int .i64 1, .int .i64 0]) (ok := fun _ => True) (okp := fun _ => True) ?hr ?hp (fun _ hk => hk) trivial (Below.refl _ _) (Nat.le_refl _) (by simp) ?_; (case hd => rfl); (case hg => rfl); (case hr => first | (go_simp; done) | (go_simp; rfl)); (case hp => exact (Reps.c2 (show Kd.M k34 _ _ _ (⟨0, 1⟩ : S34) [.int .i64 0, .int .i64 1] from (k34_mkM _ _ _ (⟨0, 1⟩ : S34) )) (Reps.c2 (show Kd.M k34 _ _ _ (⟨1, 0⟩ : S34) [.int .i64 1, .int .i64 0] from (k34_mkM _ _ _ (⟨1, 0⟩ : S34) )) (Reps.none _ _)))); intro v132 w66 ho67 hb hg_ hnew_; clear hg_ hnew_; (first | rw [← Ny131.out] at ho67 | (simp only [Int.reduceToNat] at ho67; rw [← Ny131.out] at ho67)); have n0_ := Aside0.mk (Kd.R_lower ho67 (below_size (by repeat (first | (with_reducible first | exact HB.out | apply below_alloc | apply pw_below_drewN | apply below_drew1) | exact HB.out)))); have n1_ := Aside0.mk (below_step (by repeat (first | (with_reducible first | exact HB.out | apply below_alloc | apply pw_below_drewN | apply below_drew1) | exact HB.out)) hb); clear HB; have HO133 := n0_; have HB := n1_; clear n0_ n1_; clear hb ho67; obtain ⟨Ao68, co68, eo68⟩ := Kd.R_slice HO133.out; subst eo68) | ((with_reducible refine gate_callee (f := 14) rfl ?_); refine goesL_ (some 10) rfl rfl Try.func14 (by kernel_rfl) rfl #[.slice Ao68 y131.length co68, .int .i64 2] rfl (by (try simp only [List.map_toArray, List.map_cons, List.map_nil]); first | done | rfl | (simp only [List.length_drop, List.length_take]; rfl)) ?_; (with_reducible refine (copies_Row.calls k _ _ y131 2 t134 t135 _ ?side1 ?side2 A1.out).mono ?_); (case side1 => repeat (first | exact (Kd.R_reads' HO133.out).2.2 | (with_reducible refine Kd.C_alloc ?_ _) | (with_reducible refine Kd.C_drewN ?_ _) | (with_reducible refine Kd.C_drew ?_))); (case side2 => exact (Kd.R_reads' HO133.out).2.1); rintro e w69 ⟨v136, rfl, ho0, hb⟩; refine ⟨_, rfl, ?_⟩; have n0_ := Aside0.mk (Kd.R_elder' (by (with_reducible repeat (first | apply Kd.R_alloc | apply Kd.R_drewN | apply Kd.R_drew)); exact HO133.out) (Kd.R_base ho0) hb); have n1_ := Aside0.mk (Kd.R_lower (Kd.R_new' ho0 (Kd.R_lt (by (with_reducible repeat (first | apply Kd.R_alloc | apply Kd.R_drewN | apply Kd.R_drew)); exact HO133.out))) (below_size (by repeat (first | (with_reducible first | exact HB.out | apply below_alloc | apply pw_below_drewN | apply below_drew1) | exact HB.out)))); have n2_ := Aside0.mk (below_step (by repeat (first | (with_reducible first | exact HB.out | apply below_alloc | apply pw_below_drewN | apply below_drew1) | exact HB.out)) hb); clear HO133; clear HB; have HO133 := n0_; have HO137 := n1_; have HB := n2_; clear n0_ n1_ n2_; (try clear hb); (try clear hb2); (try clear hk); (try clear hi); (try clear ho0)) | ((with_reducible refine gate_dst (N := 14) rfl ?_); (try (refine gate_guard (by rfl) ?_; dsimp only)); refine Kd.R_lit (Kd.int .u16) _ 35 ?hg (N := 14) ?hd (xs := ([7, 8, 9] : List Int)) (inner := [.int .u16 7, .int .u16 8, .int .u16 9]) (ok := fun _ => True) (okp := fun _ => True) ?hr ?hp (fun _ hk => hk) trivial (Below.refl _ _) (Nat.le_refl _) (by simp) ?_; (case hd => rfl); (case hg => rfl); (case hr => first | (go_simp; done) | (go_simp; rfl)); (case hp => exact (Reps.one (show Kd.M (Kd.int .u16) _ _ _ 7 [.int .u16 7] from rfl) (Reps.one (show Kd.M (Kd.int .u16) _ _ _ 8 [.int .u16 8] from rfl) (Reps.one (show Kd.M (Kd.int .u16) _ _ _ 9 [.int .u16 9] from rfl) (Reps.none _ _))))); intro v139 w70 ho71 hb hg_ hnew_; clear hg_ hnew_; (first | rw [← Ny138.out] at ho71 | (simp only [Int.reduceToNat] at ho71; rw [← Ny138.out] at ho71)); have n0_ := Aside0.mk (Kd.R_below (by (with_reducible repeat (first | apply Kd.R_alloc | apply Kd.R_drewN | apply Kd.R_drew)); exact HO133.out) hb); have n1_ := Aside0.mk (Kd.R_below (by (with_reducible repeat (first | apply Kd.R_alloc | apply Kd.R_drewN | apply Kd.R_drew)); exact HO137.out) hb); have n2_ := Aside0.mk (Kd.R_lower ho71 (below_size (by repeat (first | (with_reducible first | exact HB.out | apply below_alloc | apply pw_below_drewN | apply below_drew1) | exact HB.out)))); have n3_ := Aside0.mk (below_step (by repeat (first | (with_reducible first | exact HB.out | apply below_alloc | apply pw_below_drewN | apply below_drew1) | exact HB.out)) hb); clear HO133; clear HO137; clear HB; have HO133 := n0_; have HO137 := n1_; have HO140 := n2_; have HB := n3_; clear n0_ n1_ n2_ n3_; clear hb ho71; obtain ⟨Ao72, co72, eo72⟩ := Kd.R_slice HO137.out; subst eo72; obtain ⟨Ao73, co73, eo73⟩ := Kd.R_slice HO140.out; subst eo73) | ((with_reducible refine gate_callee (f := 12) rfl ?_); refine goesL_ (some 15) rfl rfl Try.func12 (by kernel_rfl) rfl #[.slice Ao72 t134.length co72, .slice Ao73 y138.length co73] rfl (by (try simp only [List.map_toArray, List.map_cons, List.map_nil]); first | done | rfl | (simp only [List.length_drop, List.length_take]; rfl)) ?_; (with_reducible refine (copies_Made.calls k _ _ t134 _ _ y138 t141 _ ?side1 ?side2 ?side3 ?side4 A2.out).mono ?_); (case side1 => repeat (first | exact (Kd.R_reads' HO137.out).2.2 | (with_reducible refine Kd.C_alloc ?_ _) | (with_reducible refine Kd.C_drewN ?_ _) | (with_reducible refine Kd.C_drew ?_))); (case side2 => exact (Kd.R_reads' HO137.out).2.1); (case side3 => repeat (first | exact (Kd.R_reads' HO140.out).2.2 | (with_reducible refine Kd.C_alloc ?_ _) | (with_reducible refine Kd.C_drewN ?_ _) | (with_reducible refine Kd.C_drew ?_))); (case side4 => exact (Kd.R_reads' HO140.out).2.1); rintro e w74 ⟨v142, rfl, ho0, hb⟩; refine ⟨_, rfl, ?_⟩; have n0_ := Aside0.mk (Kd.R_below (by (with_reducible repeat (first | apply Kd.R_alloc | apply Kd.R_drewN | apply Kd.R_drew)); exact HO133.out) hb); have n1_ := Aside0.mk (Kd.R_below (by (with_reducible repeat (first | apply Kd.R_alloc | apply Kd.R_drewN | apply Kd.R_drew)); exact HO137.out) hb); have n2_ := Aside0.mk (Kd.R_elder' (by (with_reducible repeat (first | apply Kd.R_alloc | apply Kd.R_drewN | apply Kd.R_drew)); exact HO140.out) (Kd.R_base ho0) hb); have n3_ := Aside0.mk (Kd.R_lower (Kd.R_new' ho0 (Kd.R_lt (by (with_reducible repeat (first | apply Kd.R_alloc | apply Kd.R_drewN | apply Kd.R_drew)); exact HO140.out))) (below_size (by repeat (first | (with_reducible first | exact HB.out | apply below_alloc | apply pw_below_drewN | apply below_drew1) | exact HB.out)))); have n4_ := Aside0.mk (below_step (by repeat (first | (with_reducible first | exact HB.out | apply below_alloc | apply pw_below_drewN | apply below_drew1) | exact HB.out)) hb); clear HO133; clear HO137; clear HO140; clear HB; have HO133 := n0_; have HO137 := n1_; have HO140 := n2_; have HO143 := n3_; have HB := n4_; clear n0_ n1_ n2_ n3_ n4_; (try clear hb); (try clear hb2); (try clear hk); (try clear hi); (try clear ho0)))
   go_ret
   exact ⟨by first | rfl | (simp [errW_none, errW_some] <;> rfl) | (simp [*, errW_none, errW_some] <;> rfl), by repeat (first | (with_reducible first | exact HB.out | apply below_alloc | apply pw_below_drewN | apply below_drew1) | exact HB.out)⟩
 ·rw [if_neg c3] at H
  have c3b0 : (t135 == 0) = false := beq_eq_false_iff_ne.mpr c3
  have c3b1 : (t135 != 0) = true := bne_iff_ne.mpr c3
  obtain rfl := Option.some.inj H
  go_enter Try.func6, Try.ntmps6
  go_wp2_with (first | ((with_reducible refine gate_dst (N := 7) rfl ?_); (try (refine gate_guard (by rfl) ?_; dsimp only)); refine Kd.R_lit k34 _ 34 ?hg (N := 7) ?hd (xs := ([(⟨0, 1⟩ : S34), (⟨1, 0⟩ : S34)] : List (S34))) (inner := [.int .i64 0, .int .i64 1, .int .i64 1, .int .i64 0]) (ok := fun _ => True) (okp := fun _ => True) ?hr ?hp (fun _ hk => hk) trivial (Below.refl _ _) (Nat.le_refl _) (by simp) ?_; (case hd => rfl); (case hg => rfl); (case hr => first | (go_simp; done) | (go_simp; rfl)); (case hp => exact (Reps.c2 (show Kd.M k34 _ _ _ (⟨0, 1⟩ : S34) [.int .i64 0, .int .i64 1] from (k34_mkM _ _ _ (⟨0, 1⟩ : S34) )) (Reps.c2 (show Kd.M k34 _ _ _ (⟨1, 0⟩ : S34) [.int .i64 1, .int .i64 0] from (k34_mkM _ _ _ (⟨1, 0⟩ : S34) )) (Reps.none _ _)))); intro v132 w75 ho76 hb hg_ hnew_; clear hg_ hnew_; (first | rw [← Ny131.out] at ho76 | (simp only [Int.reduceToNat] at ho76; rw [← Ny131.out] at ho76)); have n0_ := Aside0.mk (Kd.R_lower ho76 (below_size (by repeat (first | (with_reducible first | exact HB.out | apply below_alloc | apply pw_below_drewN | apply below_drew1) | exact HB.out)))); have n1_ := Aside0.mk (below_step (by repeat (first | (with_reducible first | exact HB.out | apply below_alloc | apply pw_below_drewN | apply below_drew1) | exact HB.out)) hb); clear HB; have HO133 := n0_; have HB := n1_; clear n0_ n1_; clear hb ho76; obtain ⟨Ao77, co77, eo77⟩ := Kd.R_slice HO133.out; subst eo77) | ((with_reducible refine gate_callee (f := 14) rfl ?_); refine goesL_ (some 10) rfl rfl Try.func14 (by kernel_rfl) rfl #[.slice Ao77 y131.length co77, .int .i64 2] rfl (by (try simp only [List.map_toArray, List.map_cons, List.map_nil]); first | done | rfl | (simp only [List.length_drop, List.length_take]; rfl)) ?_; (with_reducible refine (copies_Row.calls k _ _ y131 2 t134 t135 _ ?side1 ?side2 A1.out).mono ?_); (case side1 => repeat (first | exact (Kd.R_reads' HO133.out).2.2 | (with_reducible refine Kd.C_alloc ?_ _) | (with_reducible refine Kd.C_drewN ?_ _) | (with_reducible refine Kd.C_drew ?_))); (case side2 => exact (Kd.R_reads' HO133.out).2.1); rintro e w78 ⟨v136, rfl, ho0, hb⟩; refine ⟨_, rfl, ?_⟩; have n0_ := Aside0.mk (Kd.R_elder' (by (with_reducible repeat (first | apply Kd.R_alloc | apply Kd.R_drewN | apply Kd.R_drew)); exact HO133.out) (Kd.R_base ho0) hb); have n1_ := Aside0.mk (Kd.R_lower (Kd.R_new' ho0 (Kd.R_lt (by (with_reducible repeat (first | apply Kd.R_alloc | apply Kd.R_drewN | apply Kd.R_drew)); exact HO133.out))) (below_size (by repeat (first | (with_reducible first | exact HB.out | apply below_alloc | apply pw_below_drewN | apply below_drew1) | exact HB.out)))); have n2_ := Aside0.mk (below_step (by repeat (first | (with_reducible first | exact HB.out | apply below_alloc | apply pw_below_drewN | apply below_drew1) | exact HB.out)) hb); clear HO133; clear HB; have HO133 := n0_; have HO137 := n1_; have HB := n2_; clear n0_ n1_ n2_; (try clear hb); (try clear hb2); (try clear hk); (try clear hi); (try clear ho0)) | ((with_reducible refine gate_dst (N := 14) rfl ?_); (try (refine gate_guard (by rfl) ?_; dsimp only)); refine Kd.R_lit (Kd.int .u16) _ 35 ?hg (N := 14) ?hd (xs := ([7, 8, 9] : List Int)) (inner := [.int .u16 7, .int .u16 8, .int .u16 9]) (ok := fun _ => True) (okp := fun _ => True) ?hr ?hp (fun _ hk => hk) trivial (Below.refl _ _) (Nat.le_refl _) (by simp) ?_; (case hd => rfl); (case hg => rfl); (case hr => first | (go_simp; done) | (go_simp; rfl)); (case hp => exact (Reps.one (show Kd.M (Kd.int .u16) _ _ _ 7 [.int .u16 7] from rfl) (Reps.one (show Kd.M (Kd.int .u16) _ _ _ 8 [.int .u16 8] from rfl) (Reps.one (show Kd.M (Kd.int .u16) _ _ _ 9 [.int .u16 9] from rfl) (Reps.none _ _))))); intro v139 w79 ho80 hb hg_ hnew_; clear hg_ hnew_; (first | rw [← Ny138.out] at ho80 | (simp only [Int.reduceToNat] at ho80; rw [← Ny138.out] at ho80)); have n0_ := Aside0.mk (Kd.R_below (by (with_reducible repeat (first | apply Kd.R_alloc | apply Kd.R_drewN | apply Kd.R_drew)); exact HO133.out) hb); have n1_ := Aside0.mk (Kd.R_below (by (with_reducible repeat (first | apply Kd.R_alloc | apply Kd.R_drewN | apply Kd.R_drew)); exact HO137.out) hb); have n2_ := Aside0.mk (Kd.R_lower ho80 (below_size (by repeat (first | (with_reducible first | exact HB.out | apply below_alloc | apply pw_below_drewN | apply below_drew1) | exact HB.out)))); have n3_ := Aside0.mk (below_step (by repeat (first | (with_reducible first | exact HB.out | apply below_alloc | apply pw_below_drewN | apply below_drew1) | exact HB.out)) hb); clear HO133; clear HO137; clear HB; have HO133 := n0_; have HO137 := n1_; have HO140 := n2_; have HB := n3_; clear n0_ n1_ n2_ n3_; clear hb ho80; obtain ⟨Ao81, co81, eo81⟩ := Kd.R_slice HO137.out; subst eo81; obtain ⟨Ao82, co82, eo82⟩ := Kd.R_slice HO140.out; subst eo82) | ((with_reducible refine gate_callee (f := 12) rfl ?_); refine goesL_ (some 15) rfl rfl Try.func12 (by kernel_rfl) rfl #[.slice Ao81 t134.length co81, .slice Ao82 y138.length co82] rfl (by (try simp only [List.map_toArray, List.map_cons, List.map_nil]); first | done | rfl | (simp only [List.length_drop, List.length_take]; rfl)) ?_; (with_reducible refine (copies_Made.calls k _ _ t134 _ _ y138 t141 _ ?side1 ?side2 ?side3 ?side4 A2.out).mono ?_); (case side1 => repeat (first | exact (Kd.R_reads' HO137.out).2.2 | (with_reducible refine Kd.C_alloc ?_ _) | (with_reducible refine Kd.C_drewN ?_ _) | (with_reducible refine Kd.C_drew ?_))); (case side2 => exact (Kd.R_reads' HO137.out).2.1); (case side3 => repeat (first | exact (Kd.R_reads' HO140.out).2.2 | (with_reducible refine Kd.C_alloc ?_ _) | (with_reducible refine Kd.C_drewN ?_ _) | (with_reducible refine Kd.C_drew ?_))); (case side4 => exact (Kd.R_reads' HO140.out).2.1); rintro e w83 ⟨v142, rfl, ho0, hb⟩; refine ⟨_, rfl, ?_⟩; have n0_ := Aside0.mk (Kd.R_below (by (with_reducible repeat (first | apply Kd.R_alloc | apply Kd.R_drewN | apply Kd.R_drew)); exact HO133.out) hb); have n1_ := Aside0.mk (Kd.R_below (by (with_reducible repeat (first | apply Kd.R_alloc | apply Kd.R_drewN | apply Kd.R_drew)); exact HO137.out) hb); have n2_ := Aside0.mk (Kd.R_elder' (by (with_reducible repeat (first | apply Kd.R_alloc | apply Kd.R_drewN | apply Kd.R_drew)); exact HO140.out) (Kd.R_base ho0) hb); have n3_ := Aside0.mk (Kd.R_lower (Kd.R_new' ho0 (Kd.R_lt (by (with_reducible repeat (first | apply Kd.R_alloc | apply Kd.R_drewN | apply Kd.R_drew)); exact HO140.out))) (below_size (by repeat (first | (with_reducible first | exact HB.out | apply below_alloc | apply pw_below_drewN | apply below_drew1) | exact HB.out)))); have n4_ := Aside0.mk (below_step (by repeat (first | (with_reducible first | exact HB.out | apply below_alloc | apply pw_below_drewN | apply below_drew1) | exact HB.out)) hb); clear HO133; clear HO137; clear HO140; clear HB; have HO133 := n0_; have HO137 := n1_; have HO140 := n2_; have HO143 := n3_; have HB := n4_; clear n0_ n1_ n2_ n3_ n4_; (try clear hb); (try clear hb2); (try clear hk); (try clear hi); (try clear ho0)))
  go_ret
  exact ⟨by first | rfl | (simp [errW_none, errW_some] <;> rfl) | (simp [*, errW_none, errW_some] <;> rfl), by repeat (first | (with_reducible first | exact HB.out | apply below_alloc | apply pw_below_drewN | apply below_drew1) | exact HB.out)⟩
end
end Go.Proofs.Ytfbbfnadmnejeaa.X
namespace Go.Proofs.Ytfbbfnadmnejeaa.X
open Go.RowKit Go.Proofs.YtfbbfnadmnejeaaW.PrintWords Go.Proofs.YtfbbfnadmnejeaaW.PrintLast Go.Proofs.YtfbbfnadmnejeaaW.PrintMore
attribute [local go_sem] max2_int min2_int max_two min_two max_three min_three max_four min_four
set_option linter.all false
noncomputable section
attribute [local go_sem high] eqA34
mutual
def davitlaw20_CopiesNone.l0 : Nat → List Int → Int → List (S34) → List (S34) → List Bool → Int → Option (Bool)
 | 0, _, _, _, _, _, _ => none
 | k + 1, x0, x1, x5, x6, x7, x8 => if x8 < (x0.length : Int) then (if 0 ≤ x8 then (if 0 ≤ (wrap64 (rd x0 x8)) then (if (wrap64 (rd x0 x8)) < (x7.length : Int) then (if (rdOf false x7 (wrap64 (rd x0 x8)) = true) then (davitlaw20_CopiesNone.l0 k x0 x1 x5 x6 (x7.set ((wrap64 (rd x0 x8)) : Int).toNat true) (wrap64 (x8 + 1))) else (if x5.length < 8796093022208 then (if x6.length < 8796093022208 then (davitlaw20_CopiesNone.l0 k x0 x1 (x5 ++ [(⟨wrap64 (rd x0 x8), wrap64 (rd x0 x8)⟩ : S34)]) (x6 ++ [(⟨wrap64 (rd x0 x8), wrap64 (300 + x8)⟩ : S34)]) (x7.set ((wrap64 (rd x0 x8)) : Int).toNat true) (wrap64 (x8 + 1))) else (none)) else (none))) else (none)) else (none)) else (none)) else ((copies_Row.f k x5 (wrap64 (1000 + (Int.tmod (wrap64 (x1)) 60000)))).bind fun bt247 => ((copies_Row.f k x6 (wrap64 (1000 + (Int.tmod (wrap64 (x1)) 60000)))).bind fun bt251 => (if bt247.2 = 0 then (if bt251.2 = 0 then (if (bt247.1.length : Int) = 0 then (if (bt251.1.length : Int) = (x6.length : Int) then ((copies_Rings.f k x5).bind fun t255 => ((copies_Rings.f k x6).bind fun t256 => (davitlaw20_CopiesNone.j1 k x6 bt251.1 ((wrap64 (t255 + t256)) != 0)))) else (davitlaw20_CopiesNone.j1 k x6 bt251.1 true)) else (davitlaw20_CopiesNone.j1 k x6 bt251.1 true)) else (davitlaw20_CopiesNone.j1 k x6 bt251.1 true)) else (davitlaw20_CopiesNone.j1 k x6 bt251.1 true))))
def davitlaw20_CopiesNone.j1 : Nat → List (S34) → List (S34) → Bool → Option (Bool)
 | 0, _, _, _ => none
 | k + 1, x6, x13, x97 => if x97 = true then (some false) else (davitlaw20_CopiesNone.l1 k x6 x13 0)
def davitlaw20_CopiesNone.l1 : Nat → List (S34) → List (S34) → Int → Option (Bool)
 | 0, _, _, _ => none
 | k + 1, x6, x13, x15 => if x15 < (x13.length : Int) then (davitlaw20_CopiesNone.l2 k x6 x13 x15 false 0) else (some true)
def davitlaw20_CopiesNone.l2 : Nat → List (S34) → List (S34) → Int → Bool → Int → Option (Bool)
 | 0, _, _, _, _, _ => none
 | k + 1, x6, x13, x15, x16, x17 => if x17 < (x6.length : Int) then (if x16 = true then (davitlaw20_CopiesNone.l2 k x6 x13 x15 true (wrap64 (x17 + 1))) else (if 0 ≤ x17 then (if 0 ≤ x15 then (if x15 < (x13.length : Int) then (davitlaw20_CopiesNone.l2 k x6 x13 x15 (((rd_T34 x6 x17).f0) == ((rd_T34 x13 x15).f0) && (((rd_T34 x6 x17).f1) == ((rd_T34 x13 x15).f1))) (wrap64 (x17 + 1))) else (none)) else (none)) else (none))) else (if x16 = true then (davitlaw20_CopiesNone.l1 k x6 x13 (wrap64 (x15 + 1))) else (some false))
end
def davitlaw20_CopiesNone.f (k : Nat) (l0 : List Int) (a1 : Int) : Option (Bool) := (davitlaw20_awake.f k).bind fun t233 => (if t233 = true then (if (l0.length : Int) > 60 then (some true) else (if 256 ≤ 281474976710656 then (davitlaw20_CopiesNone.l0 k l0 a1 ([] : List (S34)) ([] : List (S34)) (List.replicate 256 false) 0) else (none))) else (some false))
theorem davitlaw20_CopiesNone.mono_l : ∀ k, (∀ y0 y1 y2 y3 y4 y5, LeO (davitlaw20_CopiesNone.l0 k y0 y1 y2 y3 y4 y5) (davitlaw20_CopiesNone.l0 (k + 1) y0 y1 y2 y3 y4 y5)) ∧ (∀ y0 y1 y2, LeO (davitlaw20_CopiesNone.j1 k y0 y1 y2) (davitlaw20_CopiesNone.j1 (k + 1) y0 y1 y2)) ∧ (∀ y0 y1 y2, LeO (davitlaw20_CopiesNone.l1 k y0 y1 y2) (davitlaw20_CopiesNone.l1 (k + 1) y0 y1 y2)) ∧ (∀ y0 y1 y2 y3 y4, LeO (davitlaw20_CopiesNone.l2 k y0 y1 y2 y3 y4) (davitlaw20_CopiesNone.l2 (k + 1) y0 y1 y2 y3 y4))
 | 0 => ⟨fun _ _ _ _ _ _ r h => by simp [davitlaw20_CopiesNone.l0] at h, fun _ _ _ r h => by simp [davitlaw20_CopiesNone.j1] at h, fun _ _ _ r h => by simp [davitlaw20_CopiesNone.l1] at h, fun _ _ _ _ _ r h => by simp [davitlaw20_CopiesNone.l2] at h⟩
 | k + 1 => by
  obtain ⟨ih0, ih1, ih2, ih3⟩ := davitlaw20_CopiesNone.mono_l k
  refine ⟨?_, ?_, ?_, ?_⟩
  ·intro y0 y1 y2 y3 y4 y5
   unfold davitlaw20_CopiesNone.l0
   repeat' first
   | (with_reducible exact ih0 _ _ _ _ _ _)
   | (with_reducible exact ih1 _ _ _)
   | (with_reducible exact ih2 _ _ _)
   | (with_reducible exact ih3 _ _ _ _ _)
   | (with_reducible exact copies_Rings.mono _ _)
   | (with_reducible exact copies_Row.mono _ _ _)
   | (with_reducible exact davitlaw20_awake.mono _)
   | (with_reducible exact LeO.refl _)
   | (with_reducible exact LeO.none _)
   | (with_reducible refine LeO.ite ?_ ?_)
   | (with_reducible refine LeO.bind ?_ (fun _ => ?_))
   | exact ih0 _ _ _ _ _ _
   | exact ih1 _ _ _
   | exact ih2 _ _ _
   | exact ih3 _ _ _ _ _
   | exact copies_Rings.mono _ _
   | exact copies_Row.mono _ _ _
   | exact davitlaw20_awake.mono _
   | exact LeO.none _
   | refine LeO.ite ?_ ?_
   | refine LeO.bind ?_ (fun _ => ?_)
  ·intro y0 y1 y2
   unfold davitlaw20_CopiesNone.j1
   repeat' first
   | (with_reducible exact ih0 _ _ _ _ _ _)
   | (with_reducible exact ih1 _ _ _)
   | (with_reducible exact ih2 _ _ _)
   | (with_reducible exact ih3 _ _ _ _ _)
   | (with_reducible exact copies_Rings.mono _ _)
   | (with_reducible exact copies_Row.mono _ _ _)
   | (with_reducible exact davitlaw20_awake.mono _)
   | (with_reducible exact LeO.refl _)
   | (with_reducible exact LeO.none _)
   | (with_reducible refine LeO.ite ?_ ?_)
   | (with_reducible refine LeO.bind ?_ (fun _ => ?_))
   | exact ih0 _ _ _ _ _ _
   | exact ih1 _ _ _
   | exact ih2 _ _ _
   | exact ih3 _ _ _ _ _
   | exact copies_Rings.mono _ _
   | exact copies_Row.mono _ _ _
   | exact davitlaw20_awake.mono _
   | exact LeO.none _
   | refine LeO.ite ?_ ?_
   | refine LeO.bind ?_ (fun _ => ?_)
  ·intro y0 y1 y2
   unfold davitlaw20_CopiesNone.l1
   repeat' first
   | (with_reducible exact ih0 _ _ _ _ _ _)
   | (with_reducible exact ih1 _ _ _)
   | (with_reducible exact ih2 _ _ _)
   | (with_reducible exact ih3 _ _ _ _ _)
   | (with_reducible exact copies_Rings.mono _ _)
   | (with_reducible exact copies_Row.mono _ _ _)
   | (with_reducible exact davitlaw20_awake.mono _)
   | (with_reducible exact LeO.refl _)
   | (with_reducible exact LeO.none _)
   | (with_reducible refine LeO.ite ?_ ?_)
   | (with_reducible refine LeO.bind ?_ (fun _ => ?_))
   | exact ih0 _ _ _ _ _ _
   | exact ih1 _ _ _
   | exact ih2 _ _ _
   | exact ih3 _ _ _ _ _
   | exact copies_Rings.mono _ _
   | exact copies_Row.mono _ _ _
   | exact davitlaw20_awake.mono _
   | exact LeO.none _
   | refine LeO.ite ?_ ?_
   | refine LeO.bind ?_ (fun _ => ?_)
  ·intro y0 y1 y2 y3 y4
   unfold davitlaw20_CopiesNone.l2
   repeat' first
   | (with_reducible exact ih0 _ _ _ _ _ _)
   | (with_reducible exact ih1 _ _ _)
   | (with_reducible exact ih2 _ _ _)
   | (with_reducible exact ih3 _ _ _ _ _)
   | (with_reducible exact copies_Rings.mono _ _)
   | (with_reducible exact copies_Row.mono _ _ _)
   | (with_reducible exact davitlaw20_awake.mono _)
   | (with_reducible exact LeO.refl _)
   | (with_reducible exact LeO.none _)
   | (with_reducible refine LeO.ite ?_ ?_)
   | (with_reducible refine LeO.bind ?_ (fun _ => ?_))
   | exact ih0 _ _ _ _ _ _
   | exact ih1 _ _ _
   | exact ih2 _ _ _
   | exact ih3 _ _ _ _ _
   | exact copies_Rings.mono _ _
   | exact copies_Row.mono _ _ _
   | exact davitlaw20_awake.mono _
   | exact LeO.none _
   | refine LeO.ite ?_ ?_
   | refine LeO.bind ?_ (fun _ => ?_)
theorem davitlaw20_CopiesNone.mono : ∀ a0 a1 k, LeO (davitlaw20_CopiesNone.f k a0 a1) (davitlaw20_CopiesNone.f (k + 1) a0 a1) := by
 intro a0 a1 k
 obtain ⟨ih0, ih1, ih2, ih3⟩ := davitlaw20_CopiesNone.mono_l k
 unfold davitlaw20_CopiesNone.f
 repeat' first
   | (with_reducible exact ih0 _ _ _ _ _ _)
   | (with_reducible exact ih1 _ _ _)
   | (with_reducible exact ih2 _ _ _)
   | (with_reducible exact ih3 _ _ _ _ _)
   | (with_reducible exact copies_Rings.mono _ _)
   | (with_reducible exact copies_Row.mono _ _ _)
   | (with_reducible exact davitlaw20_awake.mono _)
   | (with_reducible exact LeO.refl _)
   | (with_reducible exact LeO.none _)
   | (with_reducible refine LeO.ite ?_ ?_)
   | (with_reducible refine LeO.bind ?_ (fun _ => ?_))
   | exact ih0 _ _ _ _ _ _
   | exact ih1 _ _ _
   | exact ih2 _ _ _
   | exact ih3 _ _ _ _ _
   | exact copies_Rings.mono _ _
   | exact copies_Row.mono _ _ _
   | exact davitlaw20_awake.mono _
   | exact LeO.none _
   | refine LeO.ite ?_ ?_
   | refine LeO.bind ?_ (fun _ => ?_)
set_option maxHeartbeats 8000000 in
set_option maxRecDepth 100000 in
theorem davitlaw20_CopiesNone.calls (k : Nat) (A0 : Option Addr) (c0 : Nat) (l0 : List Int) (a1 : Int) (r : Bool) (w : World) (hr0 : Kd.C (Kd.int .u8) w A0 l0.length l0) (hc0 : l0.length ≤ c0) (h : davitlaw20_CopiesNone.f k l0 a1 = some r) :
  Calls Try.prog 5 #[.slice A0 l0.length c0, .int .u16 a1] w fun e w' => e = .returned (.bool r) ∧ Below w.heap.size w w' := by
 have hu34 := Try.underlying34
 have HR0 := Aside0.mk hr0
 have HC0 := Aside0.mk hc0
 clear hr0 hc0
 have HB := Aside0.mk (Below.refl w.heap.size w)
 have H : ((davitlaw20_awake.f k).bind fun t233 => (if t233 = true then (if (l0.length : Int) > 60 then (some true) else (if 256 ≤ 281474976710656 then (davitlaw20_CopiesNone.l0 k l0 a1 ([] : List (S34)) ([] : List (S34)) (List.replicate 256 false) 0) else (none))) else (some false))) = some r := h
 clear h
 replace H := Option.bind_eq_some_iff.mp H
 obtain ⟨t233, A30, H⟩ := H
 replace H : (if t233 = true then (if (l0.length : Int) > 60 then (some true) else (if 256 ≤ 281474976710656 then (davitlaw20_CopiesNone.l0 k l0 a1 ([] : List (S34)) ([] : List (S34)) (List.replicate 256 false) 0) else (none))) else (some false)) = some r := H
 have A3 := Aside0.mk A30
 clear A30
 by_cases c4 : t233 = true
 ·subst c4
  have H1 : (if (l0.length : Int) > 60 then (some true) else (if 256 ≤ 281474976710656 then (davitlaw20_CopiesNone.l0 k l0 a1 ([] : List (S34)) ([] : List (S34)) (List.replicate 256 false) 0) else (none))) = some r := by rw [if_pos rfl] at H; exact H
  clear H
  have H := H1
  clear H1
  by_cases c5 : (l0.length : Int) > 60
  ·rw [if_pos c5] at H
   have c5b0 : decide (60 < (l0.length : Int)) = true := decide_eq_true c5
   have c5b1 : decide (60 < l0.length) = true := decide_eq_true (by omega)
   clear c5
   obtain rfl := Option.some.inj H
   go_enter Try.func5, Try.ntmps5
   go_wp2_with (first | (go_at_call 6; (with_reducible refine (davitlaw20_awake.calls k  true _ A3.out).mono ?_); rintro e w6 ⟨rfl, hb⟩; have n0_ := Aside0.mk (below_step (by repeat (first | (with_reducible first | exact HB.out | apply below_alloc | apply pw_below_drewN | apply below_drew1) | exact HB.out)) hb); clear HB; have HB := n0_; clear n0_; (try clear hb); (try clear hb2); (try clear hk); (try clear hi)))
   repeat (go_quiet (first | (go_at_call 6; (with_reducible refine (davitlaw20_awake.calls k  true _ A3.out).mono ?_); rintro e w6 ⟨rfl, hb⟩; have n0_ := Aside0.mk (below_step (by repeat (first | (with_reducible first | exact HB.out | apply below_alloc | apply pw_below_drewN | apply below_drew1) | exact HB.out)) hb); clear HB; have HB := n0_; clear n0_; (try clear hb); (try clear hb2); (try clear hk); (try clear hi))); try go_wp2_with (first | (go_at_call 6; (with_reducible refine (davitlaw20_awake.calls k  true _ A3.out).mono ?_); rintro e w6 ⟨rfl, hb⟩; have n0_ := Aside0.mk (below_step (by repeat (first | (with_reducible first | exact HB.out | apply below_alloc | apply pw_below_drewN | apply below_drew1) | exact HB.out)) hb); clear HB; have HB := n0_; clear n0_; (try clear hb); (try clear hb2); (try clear hk); (try clear hi))))
   go_ret
   exact ⟨by first | rfl | (simp [errW_none, errW_some] <;> rfl) | (simp [*, errW_none, errW_some] <;> rfl), by repeat (first | (with_reducible first | exact HB.out | apply below_alloc | apply pw_below_drewN | apply below_drew1) | exact HB.out)⟩
  ·rw [if_neg c5] at H
   have c5b0 : decide (60 < (l0.length : Int)) = false := decide_eq_false c5
   have c5b1 : decide (60 < l0.length) = false := decide_eq_false (by omega)
   clear c5
   by_cases c7 : 256 ≤ 281474976710656
   ·rw [if_pos c7] at H
    have c7b0 := eq_true c7
    have c7b1 : decide (256 ≤ 281474976710656) = true := decide_eq_true c7
    clear c7
    obtain ⟨y234, hy234⟩ : ∃ y_ : List Bool, y_ = (List.replicate 256 false) := ⟨_, rfl⟩
    replace H : (davitlaw20_CopiesNone.l0 k l0 a1 ([] : List (S34)) ([] : List (S34)) y234 0) = some r := by first | (rw [hy234]; with_reducible exact H) | (have H2_ := (Option.bind_some _ _).symm.trans H; rw [hy234]; with_reducible exact H2_) | (have H2_ := (Option.bind_some _ _).symm.trans H; with_reducible exact H2_) | with_reducible exact H | (rw [hy234]; exact H) | exact H
    have Ny234 := Aside0.mk hy234
    clear hy234
    have H' := Aside0.mk H
    clear H
    go_enter Try.func5, Try.ntmps5
    go_wp2_with (first | (go_at_call 6; (with_reducible refine (davitlaw20_awake.calls k  true _ A3.out).mono ?_); rintro e w8 ⟨rfl, hb⟩; have n0_ := Aside0.mk (below_step (by repeat (first | (with_reducible first | exact HB.out | apply below_alloc | apply pw_below_drewN | apply below_drew1) | exact HB.out)) hb); clear HB; have HB := n0_; clear n0_; (try clear hb); (try clear hb2); (try clear hk); (try clear hi)) | ((with_reducible refine gate_dst (N := 23) rfl ?_); (try (refine gate_guard (by rfl) ?_; dsimp only)); refine Kd.R_make Kd.bool _ 4 rfl (N := 23) rfl 38 _ _ rfl 256 rfl rfl Try.underlying38 (.bool false) 1 info4 rfl (by decide) (by omega) false (ok := fun _ => True) (okp := fun _ => True) rfl (fun _ hk => hk) trivial (by omega) (by omega) (Below.refl _ _) (Nat.le_refl _) ?_; intro v235 w9 ho10 hb hg_ hnew_; clear hg_ hnew_; (first | rw [← Ny234.out] at ho10 | (simp only [Int.reduceToNat] at ho10; rw [← Ny234.out] at ho10)); have n0_ := Aside0.mk (Kd.R_lower ho10 (below_size (by repeat (first | (with_reducible first | exact HB.out | apply below_alloc | apply pw_below_drewN | apply below_drew1) | exact HB.out)))); have n1_ := Aside0.mk (below_step (by repeat (first | (with_reducible first | exact HB.out | apply below_alloc | apply pw_below_drewN | apply below_drew1) | exact HB.out)) hb); clear HB; have HO236 := n0_; have HB := n1_; clear n0_ n1_; clear hb ho10))
    repeat (go_quiet (first | (go_at_call 6; (with_reducible refine (davitlaw20_awake.calls k  true _ A3.out).mono ?_); rintro e w8 ⟨rfl, hb⟩; have n0_ := Aside0.mk (below_step (by repeat (first | (with_reducible first | exact HB.out | apply below_alloc | apply pw_below_drewN | apply below_drew1) | exact HB.out)) hb); clear HB; have HB := n0_; clear n0_; (try clear hb); (try clear hb2); (try clear hk); (try clear hi)) | ((with_reducible refine gate_dst (N := 23) rfl ?_); (try (refine gate_guard (by rfl) ?_; dsimp only)); refine Kd.R_make Kd.bool _ 4 rfl (N := 23) rfl 38 _ _ rfl 256 rfl rfl Try.underlying38 (.bool false) 1 info4 rfl (by decide) (by omega) false (ok := fun _ => True) (okp := fun _ => True) rfl (fun _ hk => hk) trivial (by omega) (by omega) (Below.refl _ _) (Nat.le_refl _) ?_; intro v235 w9 ho10 hb hg_ hnew_; clear hg_ hnew_; (first | rw [← Ny234.out] at ho10 | (simp only [Int.reduceToNat] at ho10; rw [← Ny234.out] at ho10)); have n0_ := Aside0.mk (Kd.R_lower ho10 (below_size (by repeat (first | (with_reducible first | exact HB.out | apply below_alloc | apply pw_below_drewN | apply below_drew1) | exact HB.out)))); have n1_ := Aside0.mk (below_step (by repeat (first | (with_reducible first | exact HB.out | apply below_alloc | apply pw_below_drewN | apply below_drew1) | exact HB.out)) hb); clear HB; have HO236 := n0_; have HB := n1_; clear n0_ n1_; clear hb ho10)); try go_wp2_with (first | (go_at_call 6; (with_reducible refine (davitlaw20_awake.calls k  true _ A3.out).mono ?_); rintro e w8 ⟨rfl, hb⟩; have n0_ := Aside0.mk (below_step (by repeat (first | (with_reducible first | exact HB.out | apply below_alloc | apply pw_below_drewN | apply below_drew1) | exact HB.out)) hb); clear HB; have HB := n0_; clear n0_; (try clear hb); (try clear hb2); (try clear hk); (try clear hi)) | ((with_reducible refine gate_dst (N := 23) rfl ?_); (try (refine gate_guard (by rfl) ?_; dsimp only)); refine Kd.R_make Kd.bool _ 4 rfl (N := 23) rfl 38 _ _ rfl 256 rfl rfl Try.underlying38 (.bool false) 1 info4 rfl (by decide) (by omega) false (ok := fun _ => True) (okp := fun _ => True) rfl (fun _ hk => hk) trivial (by omega) (by omega) (Below.refl _ _) (Nat.le_refl _) ?_; intro v235 w9 ho10 hb hg_ hnew_; clear hg_ hnew_; (first | rw [← Ny234.out] at ho10 | (simp only [Int.reduceToNat] at ho10; rw [← Ny234.out] at ho10)); have n0_ := Aside0.mk (Kd.R_lower ho10 (below_size (by repeat (first | (with_reducible first | exact HB.out | apply below_alloc | apply pw_below_drewN | apply below_drew1) | exact HB.out)))); have n1_ := Aside0.mk (below_step (by repeat (first | (with_reducible first | exact HB.out | apply below_alloc | apply pw_below_drewN | apply below_drew1) | exact HB.out)) hb); clear HB; have HO236 := n0_; have HB := n1_; clear n0_ n1_; clear hb ho10)))
    go_loopg [5, 6, 8] k (fun kq v5 v6 v8 w' => ∃ (x5_1 : List (S34)) (x6_1 : List (S34)) (x7_1 : List Bool) (x8_1 : Int), v8 = .int .i64 x8_1 ∧ Aside0 (davitlaw20_CopiesNone.l0 kq l0 a1 x5_1 x6_1 x7_1 x8_1 = some r) ∧ Aside0 (kq ≤ k) ∧ Aside0 (Kd.R k34 34 w' w.heap.size (fun k_ => some k_ ≠ (v6 : Value).ownBlock) v5 x5_1) ∧ Aside0 (Kd.R k34 34 w' w.heap.size (fun k_ => some k_ ≠ (v5 : Value).ownBlock) v6 x6_1) ∧ Aside0 (Kd.R Kd.bool 4 w' w.heap.size (fun _ => True) v235 x7_1) ∧ Aside0 (Below w.heap.size w w'))
    case atStart => exact ⟨(([] : List (S34))), (([] : List (S34))), (y234), (0), (by first | rfl | (simp; done) | (simp [*]; done)), H', ⟨Nat.le_refl _⟩, ⟨by first | exact Kd.R_nil _ _ _ _ _ | exact Kd.N_nil _ _ _ _ _ | exact Kd.V_nil _ _ _ _ _ | exact Kd.Q_nil _ _ _ _ _ | exact Kd.S_nil _ _ _ _ _⟩, ⟨by first | exact Kd.R_nil _ _ _ _ _ | exact Kd.N_nil _ _ _ _ _ | exact Kd.V_nil _ _ _ _ _ | exact Kd.Q_nil _ _ _ _ _ | exact Kd.S_nil _ _ _ _ _⟩, ⟨by (with_reducible repeat (first | apply Kd.R_alloc | apply Kd.R_drewN | apply Kd.R_drew)); exact HO236.out⟩, ⟨by repeat (first | (with_reducible first | exact HB.out | apply below_alloc | apply pw_below_drewN | apply below_drew1) | exact HB.out)⟩⟩
    case round =>
     clear H'
     try clear p2
     try clear c4
     try clear c5
     try clear c5b0
     try clear c5b1
     try clear c7
     try clear c7b0
     try clear c7b1
     obtain ⟨x5_1, x6_1, x7_1, x8_1, rfl, HA, HK1, HO_5, HO_6, HO_7, HB⟩ := hrel
     cases gk with
     | zero => exact absurd HA.out (by simp [davitlaw20_CopiesNone.l0])
     | succ k1 =>
      have H := HA.out
      clear HA
      simp only [davitlaw20_CopiesNone.l0] at H
      by_cases c11 : x8_1 < (l0.length : Int)
      ·rw [if_pos c11] at H
       have c11b0 : decide (x8_1 < (l0.length : Int)) = true := decide_eq_true c11
       clear c11
       by_cases c12 : 0 ≤ x8_1
       ·rw [if_pos c12] at H
        have c12b0 : decide (0 ≤ x8_1) = true := decide_eq_true c12
        clear c12
        obtain ⟨ji13, hji13⟩ : ∃ j_ : Int, (wrap64 (rd l0 x8_1)) = j_ := ⟨_, rfl⟩
        replace H : (if 0 ≤ (ji13) then (if (ji13) < (x7_1.length : Int) then (if (rdOf false x7_1 (ji13) = true) then (davitlaw20_CopiesNone.l0 k1 l0 a1 x5_1 x6_1 (x7_1.set ((ji13) : Int).toNat true) (wrap64 (x8_1 + 1))) else (if x5_1.length < 8796093022208 then (if x6_1.length < 8796093022208 then (davitlaw20_CopiesNone.l0 k1 l0 a1 (x5_1 ++ [(⟨ji13, ji13⟩ : S34)]) (x6_1 ++ [(⟨ji13, wrap64 (300 + x8_1)⟩ : S34)]) (x7_1.set ((ji13) : Int).toNat true) (wrap64 (x8_1 + 1))) else (none)) else (none))) else (none)) else (none)) = some r := by first | (rw [hji13] at H; exact H) | (simp only [hji13] at H ⊢; exact H)
        have hji13w : (IntKind.i64.wrap (rd l0 x8_1)) = ji13 := (i64_w _).trans hji13
        by_cases c14 : 0 ≤ (ji13)
        ·rw [if_pos c14] at H
         have c14b0 : decide (0 ≤ (ji13)) = true := decide_eq_true c14
         clear c14
         by_cases c15 : (ji13) < (x7_1.length : Int)
         ·rw [if_pos c15] at H
          have c15b0 : decide ((ji13) < (x7_1.length : Int)) = true := decide_eq_true c15
          clear c15
          obtain ⟨bq16, hbq16⟩ : ∃ b_ : Bool, b_ = (rdOf false x7_1 (ji13)) := ⟨_, rfl⟩
          replace H : (if (bq16 = true) then (davitlaw20_CopiesNone.l0 k1 l0 a1 x5_1 x6_1 (x7_1.set ((ji13) : Int).toNat true) (wrap64 (x8_1 + 1))) else (if x5_1.length < 8796093022208 then (if x6_1.length < 8796093022208 then (davitlaw20_CopiesNone.l0 k1 l0 a1 (x5_1 ++ [(⟨ji13, ji13⟩ : S34)]) (x6_1 ++ [(⟨ji13, wrap64 (300 + x8_1)⟩ : S34)]) (x7_1.set ((ji13) : Int).toNat true) (wrap64 (x8_1 + 1))) else (none)) else (none))) = some r := by rw [← hbq16] at H; exact H
          have Nbq16 := Aside0.mk hbq16
          clear hbq16
          by_cases c17 : (bq16 = true)
          ·subst c17
           have H1 : (davitlaw20_CopiesNone.l0 k1 l0 a1 x5_1 x6_1 (x7_1.set ((ji13) : Int).toNat true) (wrap64 (x8_1 + 1))) = some r := by rw [if_pos rfl] at H; exact H
           clear H
           have H := H1
           clear H1
           obtain ⟨y239, hy239⟩ : ∃ y_ : List Bool, y_ = (x7_1.set ((ji13) : Int).toNat true) := ⟨_, rfl⟩
           replace H : (davitlaw20_CopiesNone.l0 k1 l0 a1 x5_1 x6_1 y239 (wrap64 (x8_1 + 1))) = some r := by first | (rw [hy239]; with_reducible exact H) | (have H2_ := (Option.bind_some _ _).symm.trans H; rw [hy239]; with_reducible exact H2_) | (have H2_ := (Option.bind_some _ _).symm.trans H; with_reducible exact H2_) | with_reducible exact H | (rw [hy239]; exact H) | exact H
           have Ny239 := Aside0.mk hy239
           clear hy239
           have H' := Aside0.mk H
           clear H
           have p237 : 0 ≤ (x8_1 : Int) := of_decide_eq_true (by first | (with_reducible assumption) | assumption)
           have q237 : x8_1 < (l0.length : Int) := of_decide_eq_true (by first | (with_reducible assumption) | assumption)
           obtain ⟨ad237, e237, hx237_0⟩ := Kd.at_int HR0.out x8_1 p237 q237
           cases e237
           replace hx237_0 := (HB.out.cell (World.block_lt_of_cell? w _ hx237_0)).trans hx237_0
           replace p237 := eq_true p237
           replace q237 := eq_true q237
           obtain ⟨Ao19, co19, eo19⟩ := Kd.R_slice HO_7.out
           subst eo19
           have p238 : 0 ≤ ((ji13) : Int) := of_decide_eq_true (by first | (with_reducible assumption) | assumption)
           have q238 : (ji13) < (x7_1.length : Int) := of_decide_eq_true (by first | (with_reducible assumption) | assumption)
           obtain ⟨ad238, e238, hx238_0⟩ := Kd.at_bool (Kd.R_reads' HO_7.out).2.2 (ji13) p238 q238
           (try rw [← Nbq16.out] at hx238_0)
           cases e238
           replace p238 := eq_true p238
           replace q238 := eq_true q238
           have p18 : 0 ≤ ((ji13) : Int) := of_decide_eq_true (by first | (with_reducible assumption) | assumption)
           have q18 : ((ji13) : Int) < ((x7_1.length : Int) : Int) := of_decide_eq_true (by first | (with_reducible assumption) | assumption)
           obtain ⟨go18, co18, eo18, gb18, gl18, cl18, HG18⟩ := Kd.R_form HO_7.out (by omega)
           (first | cases eo18 | (injection eo18 with ea_ en_ ec_; (first | subst ea_ | (injection ea_ with ea_; subst ea_)); subst ec_; clear en_))
           have GB18 := Aside0.mk gb18
           have GG18 := Aside0.mk HG18
           clear gb18 gl18 HG18
           (first | simp only [add_plain] at hx238_0 | skip)
           obtain ⟨hx18_0, hf18_0⟩ := Kd.R_celln false HO_7.out ((ji13) : Int) p18 q18
           replace p18 := eq_true p18
           replace q18 := eq_true q18
           have HP20 := Kd.R_putg HO_7.out ((ji13) : Int) true
           go_wp2_with (first | ((with_reducible refine gate_store (t := 4) (p := 55) rfl ?_); (try (rw [drewN_self wr]; generalize hq_ : World.drewN wr _ = wr; have n0_ := Aside0.mk (Kd.R_at hq_ HO_5.out); have n1_ := Aside0.mk (Kd.R_at hq_ HO_6.out); have n2_ := Aside0.mk (Kd.R_at hq_ HO_7.out); have n3_ := Aside0.mk (below_at hq_ HB.out); clear hq_ HO_5 HO_6 HO_7 HB; have HO_5 := n0_; have HO_6 := n1_; have HO_7 := n2_; have HB := n3_; clear n0_ n1_ n2_ n3_; (try (have HP20 := Kd.R_putg HO_7.out ((ji13) : Int) true)))); refine store_event (t := 4) (p := 55) (v := ?vo_w21) (w1 := (wr.setCell ⟨go18, ((ji13) : Int).toNat, none⟩ (.bool true))) ?hg ?ho ?hn ?hr ?_; (case ho => rfl); (case hg => rfl); (case hn => rfl); (case hr => first | (go_simp; done) | (go_simp; rfl)); intro w21 hw; have hg : wr.grownBy w21 (some go18) := (by rw [hw]; exact HP20.2); have hp_ : Kd.R Kd.bool 4 w21 w.heap.size (fun _ => True) (.slice (some ⟨go18, 0, none⟩) x7_1.length co19) y239 := (by rw [hw, Ny239.out]; exact HP20.1); clear HP20; have n0_ := Aside0.mk (Kd.R_over' (v := (.slice (some ⟨go18, 0, none⟩) x7_1.length co19)) (by (with_reducible repeat (first | apply Kd.R_alloc | apply Kd.R_drewN | apply Kd.R_drew)); exact HO_5.out) (Kd.R_typed HO_7.out) (by decide) hg); have n1_ := Aside0.mk (Kd.R_over' (v := (.slice (some ⟨go18, 0, none⟩) x7_1.length co19)) (by (with_reducible repeat (first | apply Kd.R_alloc | apply Kd.R_drewN | apply Kd.R_drew)); exact HO_6.out) (Kd.R_typed HO_7.out) (by decide) hg); have n2_ := Aside0.mk (hp_); have n3_ := Aside0.mk ((by rw [hw]; exact below_set (HB.out) GB18.out : Below w.heap.size w w21)); clear HO_5; clear HO_6; clear HO_7; clear HB; have HO_5 := n0_; have HO_6 := n1_; have HO_7 := n2_; have HB := n3_; clear n0_ n1_ n2_ n3_; clear hg hw hp_))
           repeat (go_quiet (first | ((with_reducible refine gate_store (t := 4) (p := 55) rfl ?_); (try (rw [drewN_self wr]; generalize hq_ : World.drewN wr _ = wr; have n0_ := Aside0.mk (Kd.R_at hq_ HO_5.out); have n1_ := Aside0.mk (Kd.R_at hq_ HO_6.out); have n2_ := Aside0.mk (Kd.R_at hq_ HO_7.out); have n3_ := Aside0.mk (below_at hq_ HB.out); clear hq_ HO_5 HO_6 HO_7 HB; have HO_5 := n0_; have HO_6 := n1_; have HO_7 := n2_; have HB := n3_; clear n0_ n1_ n2_ n3_; (try (have HP20 := Kd.R_putg HO_7.out ((ji13) : Int) true)))); refine store_event (t := 4) (p := 55) (v := ?vo_w21) (w1 := (wr.setCell ⟨go18, ((ji13) : Int).toNat, none⟩ (.bool true))) ?hg ?ho ?hn ?hr ?_; (case ho => rfl); (case hg => rfl); (case hn => rfl); (case hr => first | (go_simp; done) | (go_simp; rfl)); intro w21 hw; have hg : wr.grownBy w21 (some go18) := (by rw [hw]; exact HP20.2); have hp_ : Kd.R Kd.bool 4 w21 w.heap.size (fun _ => True) (.slice (some ⟨go18, 0, none⟩) x7_1.length co19) y239 := (by rw [hw, Ny239.out]; exact HP20.1); clear HP20; have n0_ := Aside0.mk (Kd.R_over' (v := (.slice (some ⟨go18, 0, none⟩) x7_1.length co19)) (by (with_reducible repeat (first | apply Kd.R_alloc | apply Kd.R_drewN | apply Kd.R_drew)); exact HO_5.out) (Kd.R_typed HO_7.out) (by decide) hg); have n1_ := Aside0.mk (Kd.R_over' (v := (.slice (some ⟨go18, 0, none⟩) x7_1.length co19)) (by (with_reducible repeat (first | apply Kd.R_alloc | apply Kd.R_drewN | apply Kd.R_drew)); exact HO_6.out) (Kd.R_typed HO_7.out) (by decide) hg); have n2_ := Aside0.mk (hp_); have n3_ := Aside0.mk ((by rw [hw]; exact below_set (HB.out) GB18.out : Below w.heap.size w w21)); clear HO_5; clear HO_6; clear HO_7; clear HB; have HO_5 := n0_; have HO_6 := n1_; have HO_7 := n2_; have HB := n3_; clear n0_ n1_ n2_ n3_; clear hg hw hp_)); try go_wp2_with (first | ((with_reducible refine gate_store (t := 4) (p := 55) rfl ?_); (try (rw [drewN_self wr]; generalize hq_ : World.drewN wr _ = wr; have n0_ := Aside0.mk (Kd.R_at hq_ HO_5.out); have n1_ := Aside0.mk (Kd.R_at hq_ HO_6.out); have n2_ := Aside0.mk (Kd.R_at hq_ HO_7.out); have n3_ := Aside0.mk (below_at hq_ HB.out); clear hq_ HO_5 HO_6 HO_7 HB; have HO_5 := n0_; have HO_6 := n1_; have HO_7 := n2_; have HB := n3_; clear n0_ n1_ n2_ n3_; (try (have HP20 := Kd.R_putg HO_7.out ((ji13) : Int) true)))); refine store_event (t := 4) (p := 55) (v := ?vo_w21) (w1 := (wr.setCell ⟨go18, ((ji13) : Int).toNat, none⟩ (.bool true))) ?hg ?ho ?hn ?hr ?_; (case ho => rfl); (case hg => rfl); (case hn => rfl); (case hr => first | (go_simp; done) | (go_simp; rfl)); intro w21 hw; have hg : wr.grownBy w21 (some go18) := (by rw [hw]; exact HP20.2); have hp_ : Kd.R Kd.bool 4 w21 w.heap.size (fun _ => True) (.slice (some ⟨go18, 0, none⟩) x7_1.length co19) y239 := (by rw [hw, Ny239.out]; exact HP20.1); clear HP20; have n0_ := Aside0.mk (Kd.R_over' (v := (.slice (some ⟨go18, 0, none⟩) x7_1.length co19)) (by (with_reducible repeat (first | apply Kd.R_alloc | apply Kd.R_drewN | apply Kd.R_drew)); exact HO_5.out) (Kd.R_typed HO_7.out) (by decide) hg); have n1_ := Aside0.mk (Kd.R_over' (v := (.slice (some ⟨go18, 0, none⟩) x7_1.length co19)) (by (with_reducible repeat (first | apply Kd.R_alloc | apply Kd.R_drewN | apply Kd.R_drew)); exact HO_6.out) (Kd.R_typed HO_7.out) (by decide) hg); have n2_ := Aside0.mk (hp_); have n3_ := Aside0.mk ((by rw [hw]; exact below_set (HB.out) GB18.out : Below w.heap.size w w21)); clear HO_5; clear HO_6; clear HO_7; clear HB; have HO_5 := n0_; have HO_6 := n1_; have HO_7 := n2_; have HB := n3_; clear n0_ n1_ n2_ n3_; clear hg hw hp_)))
           go_roundg k1
           case measure => have := HK1.out; omega
           case rel => exact ⟨(x5_1), (x6_1), (y239), (wrap64 (x8_1 + 1)), (by first | rfl | (simp; done) | (simp [*]; done)), H', ⟨by have := HK1.out; omega⟩, ⟨by (with_reducible repeat (first | apply Kd.R_alloc | apply Kd.R_drewN | apply Kd.R_drew)); exact HO_5.out⟩, ⟨by (with_reducible repeat (first | apply Kd.R_alloc | apply Kd.R_drewN | apply Kd.R_drew)); exact HO_6.out⟩, ⟨by (with_reducible repeat (first | apply Kd.R_alloc | apply Kd.R_drewN | apply Kd.R_drew)); exact HO_7.out⟩, ⟨by repeat (first | (with_reducible first | exact HB.out | apply below_alloc | apply pw_below_drewN | apply below_drew1) | exact HB.out)⟩⟩
          ·replace c17 := Bool.eq_false_iff.mpr c17
           subst c17
           have H1 : (if x5_1.length < 8796093022208 then (if x6_1.length < 8796093022208 then (davitlaw20_CopiesNone.l0 k1 l0 a1 (x5_1 ++ [(⟨ji13, ji13⟩ : S34)]) (x6_1 ++ [(⟨ji13, wrap64 (300 + x8_1)⟩ : S34)]) (x7_1.set ((ji13) : Int).toNat true) (wrap64 (x8_1 + 1))) else (none)) else (none)) = some r := by rw [if_neg (show ¬ (false = true) by decide)] at H; exact H
           clear H
           have H := H1
           clear H1
           by_cases c22 : x5_1.length < 8796093022208
           ·rw [if_pos c22] at H
            have LMc22 := Aside0.mk c22
            clear c22
            obtain ⟨y240, hy240⟩ : ∃ y_ : List (S34), y_ = (x5_1 ++ [(⟨ji13, ji13⟩ : S34)]) := ⟨_, rfl⟩
            replace H : (if x6_1.length < 8796093022208 then (davitlaw20_CopiesNone.l0 k1 l0 a1 y240 (x6_1 ++ [(⟨ji13, wrap64 (300 + x8_1)⟩ : S34)]) (x7_1.set ((ji13) : Int).toNat true) (wrap64 (x8_1 + 1))) else (none)) = some r := by first | (rw [hy240]; with_reducible exact H) | (have H2_ := (Option.bind_some _ _).symm.trans H; rw [hy240]; with_reducible exact H2_) | (have H2_ := (Option.bind_some _ _).symm.trans H; with_reducible exact H2_) | with_reducible exact H | (rw [hy240]; exact H) | exact H
            have Ny240 := Aside0.mk hy240
            clear hy240
            by_cases c23 : x6_1.length < 8796093022208
            ·rw [if_pos c23] at H
             have LMc23 := Aside0.mk c23
             clear c23
             obtain ⟨y243, hy243⟩ : ∃ y_ : List (S34), y_ = (x6_1 ++ [(⟨ji13, wrap64 (300 + x8_1)⟩ : S34)]) := ⟨_, rfl⟩
             replace H : (davitlaw20_CopiesNone.l0 k1 l0 a1 y240 y243 (x7_1.set ((ji13) : Int).toNat true) (wrap64 (x8_1 + 1))) = some r := by first | (rw [hy243]; with_reducible exact H) | (have H2_ := (Option.bind_some _ _).symm.trans H; rw [hy243]; with_reducible exact H2_) | (have H2_ := (Option.bind_some _ _).symm.trans H; with_reducible exact H2_) | with_reducible exact H | (rw [hy243]; exact H) | exact H
             have Ny243 := Aside0.mk hy243
             clear hy243
             obtain ⟨y246, hy246⟩ : ∃ y_ : List Bool, y_ = (x7_1.set ((ji13) : Int).toNat true) := ⟨_, rfl⟩
             replace H : (davitlaw20_CopiesNone.l0 k1 l0 a1 y240 y243 y246 (wrap64 (x8_1 + 1))) = some r := by first | (rw [hy246]; with_reducible exact H) | (have H2_ := (Option.bind_some _ _).symm.trans H; rw [hy246]; with_reducible exact H2_) | (have H2_ := (Option.bind_some _ _).symm.trans H; with_reducible exact H2_) | with_reducible exact H | (rw [hy246]; exact H) | exact H
             have Ny246 := Aside0.mk hy246
             clear hy246
             have H' := Aside0.mk H
             clear H
             have p237 : 0 ≤ (x8_1 : Int) := of_decide_eq_true (by first | (with_reducible assumption) | assumption)
             have q237 : x8_1 < (l0.length : Int) := of_decide_eq_true (by first | (with_reducible assumption) | assumption)
             obtain ⟨ad237, e237, hx237_0⟩ := Kd.at_int HR0.out x8_1 p237 q237
             cases e237
             replace hx237_0 := (HB.out.cell (World.block_lt_of_cell? w _ hx237_0)).trans hx237_0
             replace p237 := eq_true p237
             replace q237 := eq_true q237
             obtain ⟨Ao25, co25, eo25⟩ := Kd.R_slice HO_7.out
             subst eo25
             have p238 : 0 ≤ ((ji13) : Int) := of_decide_eq_true (by first | (with_reducible assumption) | assumption)
             have q238 : (ji13) < (x7_1.length : Int) := of_decide_eq_true (by first | (with_reducible assumption) | assumption)
             obtain ⟨ad238, e238, hx238_0⟩ := Kd.at_bool (Kd.R_reads' HO_7.out).2.2 (ji13) p238 q238
             (try rw [← Nbq16.out] at hx238_0)
             cases e238
             replace p238 := eq_true p238
             replace q238 := eq_true q238
             go_wp2_with (first | ((with_reducible refine gate_builtin (b := .append) (xs := #[.tmp 40, .tmp 44]) rfl ?_); (try (refine gate_guard (by rfl) ?_; dsimp only)); at_builtin; refine Kd.R_append k34 (w0 := w) w.heap.size rfl (.tmp 40) (.tmp 44) 22 34 (.agg #[(.int .i64 0), (.int .i64 0)]) 16 rfl Try.underlying22 info34 rfl (by decide) (by omega) u5 x5_1 (⟨ji13, ji13⟩ : S34) [.int .i64 ji13, .int .i64 ji13] (fun k_ => some k_ ≠ (u6 : Value).ownBlock) (fun _ => False) rfl rfl ?aP (fun _ hk => hk.elim) ?aF ?aO ?aB ?aS ?aL ?_; (case aP => exact k34_mkM _ _ _ (⟨ji13, ji13⟩ : S34)); (case aB => exact (by repeat (first | (with_reducible first | exact HB.out | apply below_alloc | apply pw_below_drewN | apply below_drew1) | exact HB.out))); (case aF => exact (fun k_ hk => Kd.fresh' (Kd.R_lt (by (with_reducible repeat (first | apply Kd.R_alloc | apply Kd.R_drewN | apply Kd.R_drew)); exact HO_6.out)) k_ hk)); (case aO => exact (by (with_reducible repeat (first | apply Kd.R_alloc | apply Kd.R_drewN | apply Kd.R_drew)); exact HO_5.out)); (case aS => exact (below_size (by repeat (first | (with_reducible first | exact HB.out | apply below_alloc | apply pw_below_drewN | apply below_drew1) | exact HB.out)))); (case aL => have := LMc22.out; omega); intro v241 w26 ho hb hg hat; rw [← Ny240.out] at ho; have n0_ := Aside0.mk (Kd.R_after (ok := (fun _ => True)) (by (with_reducible repeat (first | apply Kd.R_alloc | apply Kd.R_drewN | apply Kd.R_drew)); exact Kd.R_mono HO_6.out (fun _ hk => ⟨trivial, hk⟩)) hg hat); have n1_ := Aside0.mk (Kd.R_over' (by (with_reducible repeat (first | apply Kd.R_alloc | apply Kd.R_drewN | apply Kd.R_drew)); exact HO_7.out) (Kd.R_typed (by (with_reducible repeat (first | apply Kd.R_alloc | apply Kd.R_drewN | apply Kd.R_drew)); exact HO_5.out)) (by decide) hg); have n2_ := Aside0.mk (hb); have n3_ := Aside0.mk (ho); clear HO_6; clear HO_7; clear HB; clear HO_5; have HO_6 := n0_; have HO_7 := n1_; have HB := n2_; have HO242 := n3_; clear n0_ n1_ n2_ n3_; clear ho hb hg hat) | ((with_reducible refine gate_builtin (b := .append) (xs := #[.tmp 46, .tmp 51]) rfl ?_); (try (refine gate_guard (by rfl) ?_; dsimp only)); at_builtin; refine Kd.R_append k34 (w0 := w) w.heap.size rfl (.tmp 46) (.tmp 51) 22 34 (.agg #[(.int .i64 0), (.int .i64 0)]) 16 rfl Try.underlying22 info34 rfl (by decide) (by omega) u6 x6_1 (⟨ji13, wrap64 (300 + x8_1)⟩ : S34) [.int .i64 ji13, .int .i64 (wrap64 (300 + x8_1))] (fun k_ => some k_ ≠ (v241 : Value).ownBlock) (fun _ => False) rfl rfl ?aP (fun _ hk => hk.elim) ?aF ?aO ?aB ?aS ?aL ?_; (case aP => exact k34_mkM _ _ _ (⟨ji13, wrap64 (300 + x8_1)⟩ : S34)); (case aB => exact (by repeat (first | (with_reducible first | exact HB.out | apply below_alloc | apply pw_below_drewN | apply below_drew1) | exact HB.out))); (case aF => exact (fun k_ hk => Kd.fresh' (Kd.R_lt (by (with_reducible repeat (first | apply Kd.R_alloc | apply Kd.R_drewN | apply Kd.R_drew)); exact HO242.out)) k_ hk)); (case aO => exact (by (with_reducible repeat (first | apply Kd.R_alloc | apply Kd.R_drewN | apply Kd.R_drew)); exact Kd.R_mono HO_6.out (fun _ hk => hk.2))); (case aS => exact (below_size (by repeat (first | (with_reducible first | exact HB.out | apply below_alloc | apply pw_below_drewN | apply below_drew1) | exact HB.out)))); (case aL => have := LMc23.out; omega); intro v244 w27 ho hb hg hat; rw [← Ny243.out] at ho; have n0_ := Aside0.mk (Kd.R_over' (by (with_reducible repeat (first | apply Kd.R_alloc | apply Kd.R_drewN | apply Kd.R_drew)); exact HO_7.out) (Kd.R_typed (by (with_reducible repeat (first | apply Kd.R_alloc | apply Kd.R_drewN | apply Kd.R_drew)); exact HO_6.out)) (by decide) hg); have n1_ := Aside0.mk (Kd.R_after (ok := (fun _ => True)) (by (with_reducible repeat (first | apply Kd.R_alloc | apply Kd.R_drewN | apply Kd.R_drew)); exact Kd.R_mono HO242.out (fun _ hk => ⟨trivial, hk⟩)) hg hat); have n2_ := Aside0.mk (hb); have n3_ := Aside0.mk (ho); clear HO_7; clear HO242; clear HB; clear HO_6; have HO_7 := n0_; have HO242 := n1_; have HB := n2_; have HO245 := n3_; clear n0_ n1_ n2_ n3_; clear ho hb hg hat; have p24 : 0 ≤ ((ji13) : Int) := of_decide_eq_true (by first | (with_reducible assumption) | assumption); have q24 : ((ji13) : Int) < ((x7_1.length : Int) : Int) := of_decide_eq_true (by first | (with_reducible assumption) | assumption); obtain ⟨go24, co24, eo24, gb24, gl24, cl24, HG24⟩ := Kd.R_form HO_7.out (by omega); (first | cases eo24 | (injection eo24 with ea_ en_ ec_; (first | subst ea_ | (injection ea_ with ea_; subst ea_)); subst ec_; clear en_)); have GB24 := Aside0.mk gb24; have GG24 := Aside0.mk HG24; clear gb24 gl24 HG24; (first | simp only [add_plain] at hx238_0 | skip); obtain ⟨hx24_0, hf24_0⟩ := Kd.R_celln false HO_7.out ((ji13) : Int) p24 q24; replace p24 := eq_true p24; replace q24 := eq_true q24; obtain ⟨hy28_, hz28_⟩ := Kd.R_celln false HO_7.out ((ji13) : Int) (of_decide_eq_true (by first | (with_reducible assumption) | assumption)) (of_decide_eq_true (by first | (with_reducible assumption) | assumption)); have HP28 := Kd.R_putg HO_7.out ((ji13) : Int) true) | ((with_reducible refine gate_store (t := 4) (p := 55) rfl ?_); (try (rw [drewN_self w27]; generalize hq_ : World.drewN w27 _ = w27; have n0_ := Aside0.mk (Kd.R_at hq_ HO_7.out); have n1_ := Aside0.mk (Kd.R_at hq_ HO242.out); have n2_ := Aside0.mk (Kd.R_at hq_ HO245.out); have n3_ := Aside0.mk (below_at hq_ HB.out); clear hq_ HO_7 HO242 HO245 HB; have HO_7 := n0_; have HO242 := n1_; have HO245 := n2_; have HB := n3_; clear n0_ n1_ n2_ n3_; (try (obtain ⟨hy28_, hz28_⟩ := Kd.R_celln false HO_7.out ((ji13) : Int) (of_decide_eq_true (by first | (with_reducible assumption) | assumption)) (of_decide_eq_true (by first | (with_reducible assumption) | assumption)))); (try (have HP28 := Kd.R_putg HO_7.out ((ji13) : Int) true)))); refine store_event (t := 4) (p := 55) (v := ?vo_w29) (w1 := (w27.setCell ⟨go24, ((ji13) : Int).toNat, none⟩ (.bool true))) ?hg ?ho ?hn ?hr ?_; (case ho => rfl); (case hg => rfl); (case hn => rfl); (case hr => first | (go_simp; done) | (go_simp; rfl)); intro w29 hw; have hg : w27.grownBy w29 (some go24) := (by rw [hw]; exact HP28.2); have hp_ : Kd.R Kd.bool 4 w29 w.heap.size (fun _ => True) (.slice (some ⟨go24, 0, none⟩) x7_1.length co25) y246 := (by rw [hw, Ny246.out]; exact HP28.1); clear HP28; have n0_ := Aside0.mk (hp_); have n1_ := Aside0.mk (Kd.R_over' (v := (.slice (some ⟨go24, 0, none⟩) x7_1.length co25)) (by (with_reducible repeat (first | apply Kd.R_alloc | apply Kd.R_drewN | apply Kd.R_drew)); exact HO242.out) (Kd.R_typed HO_7.out) (by decide) hg); have n2_ := Aside0.mk (Kd.R_over' (v := (.slice (some ⟨go24, 0, none⟩) x7_1.length co25)) (by (with_reducible repeat (first | apply Kd.R_alloc | apply Kd.R_drewN | apply Kd.R_drew)); exact HO245.out) (Kd.R_typed HO_7.out) (by decide) hg); have n3_ := Aside0.mk ((by rw [hw]; exact below_set (HB.out) GB24.out : Below w.heap.size w w29)); clear HO_7; clear HO242; clear HO245; clear HB; have HO_7 := n0_; have HO242 := n1_; have HO245 := n2_; have HB := n3_; clear n0_ n1_ n2_ n3_; clear hg hw hp_))
             repeat (go_quiet (first | ((with_reducible refine gate_builtin (b := .append) (xs := #[.tmp 40, .tmp 44]) rfl ?_); (try (refine gate_guard (by rfl) ?_; dsimp only)); at_builtin; refine Kd.R_append k34 (w0 := w) w.heap.size rfl (.tmp 40) (.tmp 44) 22 34 (.agg #[(.int .i64 0), (.int .i64 0)]) 16 rfl Try.underlying22 info34 rfl (by decide) (by omega) u5 x5_1 (⟨ji13, ji13⟩ : S34) [.int .i64 ji13, .int .i64 ji13] (fun k_ => some k_ ≠ (u6 : Value).ownBlock) (fun _ => False) rfl rfl ?aP (fun _ hk => hk.elim) ?aF ?aO ?aB ?aS ?aL ?_; (case aP => exact k34_mkM _ _ _ (⟨ji13, ji13⟩ : S34)); (case aB => exact (by repeat (first | (with_reducible first | exact HB.out | apply below_alloc | apply pw_below_drewN | apply below_drew1) | exact HB.out))); (case aF => exact (fun k_ hk => Kd.fresh' (Kd.R_lt (by (with_reducible repeat (first | apply Kd.R_alloc | apply Kd.R_drewN | apply Kd.R_drew)); exact HO_6.out)) k_ hk)); (case aO => exact (by (with_reducible repeat (first | apply Kd.R_alloc | apply Kd.R_drewN | apply Kd.R_drew)); exact HO_5.out)); (case aS => exact (below_size (by repeat (first | (with_reducible first | exact HB.out | apply below_alloc | apply pw_below_drewN | apply below_drew1) | exact HB.out)))); (case aL => have := LMc22.out; omega); intro v241 w26 ho hb hg hat; rw [← Ny240.out] at ho; have n0_ := Aside0.mk (Kd.R_after (ok := (fun _ => True)) (by (with_reducible repeat (first | apply Kd.R_alloc | apply Kd.R_drewN | apply Kd.R_drew)); exact Kd.R_mono HO_6.out (fun _ hk => ⟨trivial, hk⟩)) hg hat); have n1_ := Aside0.mk (Kd.R_over' (by (with_reducible repeat (first | apply Kd.R_alloc | apply Kd.R_drewN | apply Kd.R_drew)); exact HO_7.out) (Kd.R_typed (by (with_reducible repeat (first | apply Kd.R_alloc | apply Kd.R_drewN | apply Kd.R_drew)); exact HO_5.out)) (by decide) hg); have n2_ := Aside0.mk (hb); have n3_ := Aside0.mk (ho); clear HO_6; clear HO_7; clear HB; clear HO_5; have HO_6 := n0_; have HO_7 := n1_; have HB := n2_; have HO242 := n3_; clear n0_ n1_ n2_ n3_; clear ho hb hg hat) | ((with_reducible refine gate_builtin (b := .append) (xs := #[.tmp 46, .tmp 51]) rfl ?_); (try (refine gate_guard (by rfl) ?_; dsimp only)); at_builtin; refine Kd.R_append k34 (w0 := w) w.heap.size rfl (.tmp 46) (.tmp 51) 22 34 (.agg #[(.int .i64 0), (.int .i64 0)]) 16 rfl Try.underlying22 info34 rfl (by decide) (by omega) u6 x6_1 (⟨ji13, wrap64 (300 + x8_1)⟩ : S34) [.int .i64 ji13, .int .i64 (wrap64 (300 + x8_1))] (fun k_ => some k_ ≠ (v241 : Value).ownBlock) (fun _ => False) rfl rfl ?aP (fun _ hk => hk.elim) ?aF ?aO ?aB ?aS ?aL ?_; (case aP => exact k34_mkM _ _ _ (⟨ji13, wrap64 (300 + x8_1)⟩ : S34)); (case aB => exact (by repeat (first | (with_reducible first | exact HB.out | apply below_alloc | apply pw_below_drewN | apply below_drew1) | exact HB.out))); (case aF => exact (fun k_ hk => Kd.fresh' (Kd.R_lt (by (with_reducible repeat (first | apply Kd.R_alloc | apply Kd.R_drewN | apply Kd.R_drew)); exact HO242.out)) k_ hk)); (case aO => exact (by (with_reducible repeat (first | apply Kd.R_alloc | apply Kd.R_drewN | apply Kd.R_drew)); exact Kd.R_mono HO_6.out (fun _ hk => hk.2))); (case aS => exact (below_size (by repeat (first | (with_reducible first | exact HB.out | apply below_alloc | apply pw_below_drewN | apply below_drew1) | exact HB.out)))); (case aL => have := LMc23.out; omega); intro v244 w27 ho hb hg hat; rw [← Ny243.out] at ho; have n0_ := Aside0.mk (Kd.R_over' (by (with_reducible repeat (first | apply Kd.R_alloc | apply Kd.R_drewN | apply Kd.R_drew)); exact HO_7.out) (Kd.R_typed (by (with_reducible repeat (first | apply Kd.R_alloc | apply Kd.R_drewN | apply Kd.R_drew)); exact HO_6.out)) (by decide) hg); have n1_ := Aside0.mk (Kd.R_after (ok := (fun _ => True)) (by (with_reducible repeat (first | apply Kd.R_alloc | apply Kd.R_drewN | apply Kd.R_drew)); exact Kd.R_mono HO242.out (fun _ hk => ⟨trivial, hk⟩)) hg hat); have n2_ := Aside0.mk (hb); have n3_ := Aside0.mk (ho); clear HO_7; clear HO242; clear HB; clear HO_6; have HO_7 := n0_; have HO242 := n1_; have HB := n2_; have HO245 := n3_; clear n0_ n1_ n2_ n3_; clear ho hb hg hat; have p24 : 0 ≤ ((ji13) : Int) := of_decide_eq_true (by first | (with_reducible assumption) | assumption); have q24 : ((ji13) : Int) < ((x7_1.length : Int) : Int) := of_decide_eq_true (by first | (with_reducible assumption) | assumption); obtain ⟨go24, co24, eo24, gb24, gl24, cl24, HG24⟩ := Kd.R_form HO_7.out (by omega); (first | cases eo24 | (injection eo24 with ea_ en_ ec_; (first | subst ea_ | (injection ea_ with ea_; subst ea_)); subst ec_; clear en_)); have GB24 := Aside0.mk gb24; have GG24 := Aside0.mk HG24; clear gb24 gl24 HG24; (first | simp only [add_plain] at hx238_0 | skip); obtain ⟨hx24_0, hf24_0⟩ := Kd.R_celln false HO_7.out ((ji13) : Int) p24 q24; replace p24 := eq_true p24; replace q24 := eq_true q24; obtain ⟨hy28_, hz28_⟩ := Kd.R_celln false HO_7.out ((ji13) : Int) (of_decide_eq_true (by first | (with_reducible assumption) | assumption)) (of_decide_eq_true (by first | (with_reducible assumption) | assumption)); have HP28 := Kd.R_putg HO_7.out ((ji13) : Int) true) | ((with_reducible refine gate_store (t := 4) (p := 55) rfl ?_); (try (rw [drewN_self w27]; generalize hq_ : World.drewN w27 _ = w27; have n0_ := Aside0.mk (Kd.R_at hq_ HO_7.out); have n1_ := Aside0.mk (Kd.R_at hq_ HO242.out); have n2_ := Aside0.mk (Kd.R_at hq_ HO245.out); have n3_ := Aside0.mk (below_at hq_ HB.out); clear hq_ HO_7 HO242 HO245 HB; have HO_7 := n0_; have HO242 := n1_; have HO245 := n2_; have HB := n3_; clear n0_ n1_ n2_ n3_; (try (obtain ⟨hy28_, hz28_⟩ := Kd.R_celln false HO_7.out ((ji13) : Int) (of_decide_eq_true (by first | (with_reducible assumption) | assumption)) (of_decide_eq_true (by first | (with_reducible assumption) | assumption)))); (try (have HP28 := Kd.R_putg HO_7.out ((ji13) : Int) true)))); refine store_event (t := 4) (p := 55) (v := ?vo_w29) (w1 := (w27.setCell ⟨go24, ((ji13) : Int).toNat, none⟩ (.bool true))) ?hg ?ho ?hn ?hr ?_; (case ho => rfl); (case hg => rfl); (case hn => rfl); (case hr => first | (go_simp; done) | (go_simp; rfl)); intro w29 hw; have hg : w27.grownBy w29 (some go24) := (by rw [hw]; exact HP28.2); have hp_ : Kd.R Kd.bool 4 w29 w.heap.size (fun _ => True) (.slice (some ⟨go24, 0, none⟩) x7_1.length co25) y246 := (by rw [hw, Ny246.out]; exact HP28.1); clear HP28; have n0_ := Aside0.mk (hp_); have n1_ := Aside0.mk (Kd.R_over' (v := (.slice (some ⟨go24, 0, none⟩) x7_1.length co25)) (by (with_reducible repeat (first | apply Kd.R_alloc | apply Kd.R_drewN | apply Kd.R_drew)); exact HO242.out) (Kd.R_typed HO_7.out) (by decide) hg); have n2_ := Aside0.mk (Kd.R_over' (v := (.slice (some ⟨go24, 0, none⟩) x7_1.length co25)) (by (with_reducible repeat (first | apply Kd.R_alloc | apply Kd.R_drewN | apply Kd.R_drew)); exact HO245.out) (Kd.R_typed HO_7.out) (by decide) hg); have n3_ := Aside0.mk ((by rw [hw]; exact below_set (HB.out) GB24.out : Below w.heap.size w w29)); clear HO_7; clear HO242; clear HO245; clear HB; have HO_7 := n0_; have HO242 := n1_; have HO245 := n2_; have HB := n3_; clear n0_ n1_ n2_ n3_; clear hg hw hp_)); try go_wp2_with (first | ((with_reducible refine gate_builtin (b := .append) (xs := #[.tmp 40, .tmp 44]) rfl ?_); (try (refine gate_guard (by rfl) ?_; dsimp only)); at_builtin; refine Kd.R_append k34 (w0 := w) w.heap.size rfl (.tmp 40) (.tmp 44) 22 34 (.agg #[(.int .i64 0), (.int .i64 0)]) 16 rfl Try.underlying22 info34 rfl (by decide) (by omega) u5 x5_1 (⟨ji13, ji13⟩ : S34) [.int .i64 ji13, .int .i64 ji13] (fun k_ => some k_ ≠ (u6 : Value).ownBlock) (fun _ => False) rfl rfl ?aP (fun _ hk => hk.elim) ?aF ?aO ?aB ?aS ?aL ?_; (case aP => exact k34_mkM _ _ _ (⟨ji13, ji13⟩ : S34)); (case aB => exact (by repeat (first | (with_reducible first | exact HB.out | apply below_alloc | apply pw_below_drewN | apply below_drew1) | exact HB.out))); (case aF => exact (fun k_ hk => Kd.fresh' (Kd.R_lt (by (with_reducible repeat (first | apply Kd.R_alloc | apply Kd.R_drewN | apply Kd.R_drew)); exact HO_6.out)) k_ hk)); (case aO => exact (by (with_reducible repeat (first | apply Kd.R_alloc | apply Kd.R_drewN | apply Kd.R_drew)); exact HO_5.out)); (case aS => exact (below_size (by repeat (first | (with_reducible first | exact HB.out | apply below_alloc | apply pw_below_drewN | apply below_drew1) | exact HB.out)))); (case aL => have := LMc22.out; omega); intro v241 w26 ho hb hg hat; rw [← Ny240.out] at ho; have n0_ := Aside0.mk (Kd.R_after (ok := (fun _ => True)) (by (with_reducible repeat (first | apply Kd.R_alloc | apply Kd.R_drewN | apply Kd.R_drew)); exact Kd.R_mono HO_6.out (fun _ hk => ⟨trivial, hk⟩)) hg hat); have n1_ := Aside0.mk (Kd.R_over' (by (with_reducible repeat (first | apply Kd.R_alloc | apply Kd.R_drewN | apply Kd.R_drew)); exact HO_7.out) (Kd.R_typed (by (with_reducible repeat (first | apply Kd.R_alloc | apply Kd.R_drewN | apply Kd.R_drew)); exact HO_5.out)) (by decide) hg); have n2_ := Aside0.mk (hb); have n3_ := Aside0.mk (ho); clear HO_6; clear HO_7; clear HB; clear HO_5; have HO_6 := n0_; have HO_7 := n1_; have HB := n2_; have HO242 := n3_; clear n0_ n1_ n2_ n3_; clear ho hb hg hat) | ((with_reducible refine gate_builtin (b := .append) (xs := #[.tmp 46, .tmp 51]) rfl ?_); (try (refine gate_guard (by rfl) ?_; dsimp only)); at_builtin; refine Kd.R_append k34 (w0 := w) w.heap.size rfl (.tmp 46) (.tmp 51) 22 34 (.agg #[(.int .i64 0), (.int .i64 0)]) 16 rfl Try.underlying22 info34 rfl (by decide) (by omega) u6 x6_1 (⟨ji13, wrap64 (300 + x8_1)⟩ : S34) [.int .i64 ji13, .int .i64 (wrap64 (300 + x8_1))] (fun k_ => some k_ ≠ (v241 : Value).ownBlock) (fun _ => False) rfl rfl ?aP (fun _ hk => hk.elim) ?aF ?aO ?aB ?aS ?aL ?_; (case aP => exact k34_mkM _ _ _ (⟨ji13, wrap64 (300 + x8_1)⟩ : S34)); (case aB => exact (by repeat (first | (with_reducible first | exact HB.out | apply below_alloc | apply pw_below_drewN | apply below_drew1) | exact HB.out))); (case aF => exact (fun k_ hk => Kd.fresh' (Kd.R_lt (by (with_reducible repeat (first | apply Kd.R_alloc | apply Kd.R_drewN | apply Kd.R_drew)); exact HO242.out)) k_ hk)); (case aO => exact (by (with_reducible repeat (first | apply Kd.R_alloc | apply Kd.R_drewN | apply Kd.R_drew)); exact Kd.R_mono HO_6.out (fun _ hk => hk.2))); (case aS => exact (below_size (by repeat (first | (with_reducible first | exact HB.out | apply below_alloc | apply pw_below_drewN | apply below_drew1) | exact HB.out)))); (case aL => have := LMc23.out; omega); intro v244 w27 ho hb hg hat; rw [← Ny243.out] at ho; have n0_ := Aside0.mk (Kd.R_over' (by (with_reducible repeat (first | apply Kd.R_alloc | apply Kd.R_drewN | apply Kd.R_drew)); exact HO_7.out) (Kd.R_typed (by (with_reducible repeat (first | apply Kd.R_alloc | apply Kd.R_drewN | apply Kd.R_drew)); exact HO_6.out)) (by decide) hg); have n1_ := Aside0.mk (Kd.R_after (ok := (fun _ => True)) (by (with_reducible repeat (first | apply Kd.R_alloc | apply Kd.R_drewN | apply Kd.R_drew)); exact Kd.R_mono HO242.out (fun _ hk => ⟨trivial, hk⟩)) hg hat); have n2_ := Aside0.mk (hb); have n3_ := Aside0.mk (ho); clear HO_7; clear HO242; clear HB; clear HO_6; have HO_7 := n0_; have HO242 := n1_; have HB := n2_; have HO245 := n3_; clear n0_ n1_ n2_ n3_; clear ho hb hg hat; have p24 : 0 ≤ ((ji13) : Int) := of_decide_eq_true (by first | (with_reducible assumption) | assumption); have q24 : ((ji13) : Int) < ((x7_1.length : Int) : Int) := of_decide_eq_true (by first | (with_reducible assumption) | assumption); obtain ⟨go24, co24, eo24, gb24, gl24, cl24, HG24⟩ := Kd.R_form HO_7.out (by omega); (first | cases eo24 | (injection eo24 with ea_ en_ ec_; (first | subst ea_ | (injection ea_ with ea_; subst ea_)); subst ec_; clear en_)); have GB24 := Aside0.mk gb24; have GG24 := Aside0.mk HG24; clear gb24 gl24 HG24; (first | simp only [add_plain] at hx238_0 | skip); obtain ⟨hx24_0, hf24_0⟩ := Kd.R_celln false HO_7.out ((ji13) : Int) p24 q24; replace p24 := eq_true p24; replace q24 := eq_true q24; obtain ⟨hy28_, hz28_⟩ := Kd.R_celln false HO_7.out ((ji13) : Int) (of_decide_eq_true (by first | (with_reducible assumption) | assumption)) (of_decide_eq_true (by first | (with_reducible assumption) | assumption)); have HP28 := Kd.R_putg HO_7.out ((ji13) : Int) true) | ((with_reducible refine gate_store (t := 4) (p := 55) rfl ?_); (try (rw [drewN_self w27]; generalize hq_ : World.drewN w27 _ = w27; have n0_ := Aside0.mk (Kd.R_at hq_ HO_7.out); have n1_ := Aside0.mk (Kd.R_at hq_ HO242.out); have n2_ := Aside0.mk (Kd.R_at hq_ HO245.out); have n3_ := Aside0.mk (below_at hq_ HB.out); clear hq_ HO_7 HO242 HO245 HB; have HO_7 := n0_; have HO242 := n1_; have HO245 := n2_; have HB := n3_; clear n0_ n1_ n2_ n3_; (try (obtain ⟨hy28_, hz28_⟩ := Kd.R_celln false HO_7.out ((ji13) : Int) (of_decide_eq_true (by first | (with_reducible assumption) | assumption)) (of_decide_eq_true (by first | (with_reducible assumption) | assumption)))); (try (have HP28 := Kd.R_putg HO_7.out ((ji13) : Int) true)))); refine store_event (t := 4) (p := 55) (v := ?vo_w29) (w1 := (w27.setCell ⟨go24, ((ji13) : Int).toNat, none⟩ (.bool true))) ?hg ?ho ?hn ?hr ?_; (case ho => rfl); (case hg => rfl); (case hn => rfl); (case hr => first | (go_simp; done) | (go_simp; rfl)); intro w29 hw; have hg : w27.grownBy w29 (some go24) := (by rw [hw]; exact HP28.2); have hp_ : Kd.R Kd.bool 4 w29 w.heap.size (fun _ => True) (.slice (some ⟨go24, 0, none⟩) x7_1.length co25) y246 := (by rw [hw, Ny246.out]; exact HP28.1); clear HP28; have n0_ := Aside0.mk (hp_); have n1_ := Aside0.mk (Kd.R_over' (v := (.slice (some ⟨go24, 0, none⟩) x7_1.length co25)) (by (with_reducible repeat (first | apply Kd.R_alloc | apply Kd.R_drewN | apply Kd.R_drew)); exact HO242.out) (Kd.R_typed HO_7.out) (by decide) hg); have n2_ := Aside0.mk (Kd.R_over' (v := (.slice (some ⟨go24, 0, none⟩) x7_1.length co25)) (by (with_reducible repeat (first | apply Kd.R_alloc | apply Kd.R_drewN | apply Kd.R_drew)); exact HO245.out) (Kd.R_typed HO_7.out) (by decide) hg); have n3_ := Aside0.mk ((by rw [hw]; exact below_set (HB.out) GB24.out : Below w.heap.size w w29)); clear HO_7; clear HO242; clear HO245; clear HB; have HO_7 := n0_; have HO242 := n1_; have HO245 := n2_; have HB := n3_; clear n0_ n1_ n2_ n3_; clear hg hw hp_)))
             go_roundg k1
             case measure => have := HK1.out; omega
             case rel => exact ⟨(y240), (y243), (y246), (wrap64 (x8_1 + 1)), (by first | rfl | (simp; done) | (simp [*]; done)), H', ⟨by have := HK1.out; omega⟩, ⟨by (with_reducible repeat (first | apply Kd.R_alloc | apply Kd.R_drewN | apply Kd.R_drew)); exact Kd.R_mono HO242.out (fun _ hk => hk.2)⟩, ⟨by (with_reducible repeat (first | apply Kd.R_alloc | apply Kd.R_drewN | apply Kd.R_drew)); exact HO245.out⟩, ⟨by (with_reducible repeat (first | apply Kd.R_alloc | apply Kd.R_drewN | apply Kd.R_drew)); exact HO_7.out⟩, ⟨by repeat (first | (with_reducible first | exact HB.out | apply below_alloc | apply pw_below_drewN | apply below_drew1) | exact HB.out)⟩⟩
            ·rw [if_neg c23] at H
             exact absurd H (by simp)
           ·rw [if_neg c22] at H
            exact absurd H (by simp)
         ·rw [if_neg c15] at H
          exact absurd H (by simp)
        ·rw [if_neg c14] at H
         exact absurd H (by simp)
       ·rw [if_neg c12] at H
        exact absurd H (by simp)
      ·rw [if_neg c11] at H
       have c11b0 : decide (x8_1 < (l0.length : Int)) = false := decide_eq_false c11
       clear c11
       replace H := Option.bind_eq_some_iff.mp H
       obtain ⟨⟨t247, t248⟩, A300, H⟩ := H
       replace H : ((copies_Row.f k1 x6_1 (wrap64 (1000 + (Int.tmod (wrap64 (a1)) 60000)))).bind fun bt251 => (if t248 = 0 then (if bt251.2 = 0 then (if (t247.length : Int) = 0 then (if (bt251.1.length : Int) = (x6_1.length : Int) then ((copies_Rings.f k1 x5_1).bind fun t255 => ((copies_Rings.f k1 x6_1).bind fun t256 => (davitlaw20_CopiesNone.j1 k1 x6_1 bt251.1 ((wrap64 (t255 + t256)) != 0)))) else (davitlaw20_CopiesNone.j1 k1 x6_1 bt251.1 true)) else (davitlaw20_CopiesNone.j1 k1 x6_1 bt251.1 true)) else (davitlaw20_CopiesNone.j1 k1 x6_1 bt251.1 true)) else (davitlaw20_CopiesNone.j1 k1 x6_1 bt251.1 true))) = some r := H
       have A30 := Aside0.mk A300
       clear A300
       replace H := Option.bind_eq_some_iff.mp H
       obtain ⟨⟨t251, t252⟩, A310, H⟩ := H
       replace H : (if t248 = 0 then (if t252 = 0 then (if (t247.length : Int) = 0 then (if (t251.length : Int) = (x6_1.length : Int) then ((copies_Rings.f k1 x5_1).bind fun t255 => ((copies_Rings.f k1 x6_1).bind fun t256 => (davitlaw20_CopiesNone.j1 k1 x6_1 t251 ((wrap64 (t255 + t256)) != 0)))) else (davitlaw20_CopiesNone.j1 k1 x6_1 t251 true)) else (davitlaw20_CopiesNone.j1 k1 x6_1 t251 true)) else (davitlaw20_CopiesNone.j1 k1 x6_1 t251 true)) else (davitlaw20_CopiesNone.j1 k1 x6_1 t251 true)) = some r := H
       have A31 := Aside0.mk A310
       clear A310
       have HC32 := Aside0.mk H
       clear H
       obtain ⟨Ao33, co33, eo33⟩ := Kd.R_slice HO_5.out
       subst eo33
       go_upto_region 18 with (first | (go_at_call 14; (with_reducible refine (copies_Row.calls k1 _ _ x5_1 (wrap64 (1000 + (Int.tmod (wrap64 (a1)) 60000))) t247 t248 _ ?side1 ?side2 A30.out).mono ?_); (case side1 => repeat (first | exact (Kd.R_reads' HO_5.out).2.2 | (with_reducible refine Kd.C_alloc ?_ _) | (with_reducible refine Kd.C_drewN ?_ _) | (with_reducible refine Kd.C_drew ?_))); (case side2 => exact (Kd.R_reads' HO_5.out).2.1); rintro e w34 ⟨v249, rfl, ho0, hb⟩; have n0_ := Aside0.mk (Kd.R_elder' (by (with_reducible repeat (first | apply Kd.R_alloc | apply Kd.R_drewN | apply Kd.R_drew)); exact HO_5.out) (Kd.R_base ho0) hb); have n1_ := Aside0.mk (Kd.R_elder' (by (with_reducible repeat (first | apply Kd.R_alloc | apply Kd.R_drewN | apply Kd.R_drew)); exact HO_6.out) (Kd.R_base ho0) hb); have n2_ := Aside0.mk (Kd.R_below (by (with_reducible repeat (first | apply Kd.R_alloc | apply Kd.R_drewN | apply Kd.R_drew)); exact HO_7.out) hb); have n3_ := Aside0.mk (Kd.R_lower (Kd.R_new' (Kd.R_new' ho0 (Kd.R_lt (by (with_reducible repeat (first | apply Kd.R_alloc | apply Kd.R_drewN | apply Kd.R_drew)); exact HO_5.out))) (Kd.R_lt (by (with_reducible repeat (first | apply Kd.R_alloc | apply Kd.R_drewN | apply Kd.R_drew)); exact HO_6.out))) (below_size (by repeat (first | (with_reducible first | exact HB.out | apply below_alloc | apply pw_below_drewN | apply below_drew1) | exact HB.out)))); have n4_ := Aside0.mk (below_step (by repeat (first | (with_reducible first | exact HB.out | apply below_alloc | apply pw_below_drewN | apply below_drew1) | exact HB.out)) hb); clear HO_5; clear HO_6; clear HO_7; clear HB; have HO_5 := n0_; have HO_6 := n1_; have HO_7 := n2_; have HO250 := n3_; have HB := n4_; clear n0_ n1_ n2_ n3_ n4_; (try clear hb); (try clear hb2); (try clear hk); (try clear hi); (try clear ho0); obtain ⟨Ao35, co35, eo35⟩ := Kd.R_slice HO_6.out; subst eo35) | (go_at_call 14; (with_reducible refine (copies_Row.calls k1 _ _ x6_1 (wrap64 (1000 + (Int.tmod (wrap64 (a1)) 60000))) t251 t252 _ ?side1 ?side2 A31.out).mono ?_); (case side1 => repeat (first | exact (Kd.R_reads' HO_6.out).2.2 | (with_reducible refine Kd.C_alloc ?_ _) | (with_reducible refine Kd.C_drewN ?_ _) | (with_reducible refine Kd.C_drew ?_))); (case side2 => exact (Kd.R_reads' HO_6.out).2.1); rintro e w36 ⟨v253, rfl, ho0, hb⟩; have n0_ := Aside0.mk (Kd.R_elder' (by (with_reducible repeat (first | apply Kd.R_alloc | apply Kd.R_drewN | apply Kd.R_drew)); exact HO_5.out) (Kd.R_base ho0) hb); have n1_ := Aside0.mk (Kd.R_elder' (by (with_reducible repeat (first | apply Kd.R_alloc | apply Kd.R_drewN | apply Kd.R_drew)); exact HO_6.out) (Kd.R_base ho0) hb); have n2_ := Aside0.mk (Kd.R_below (by (with_reducible repeat (first | apply Kd.R_alloc | apply Kd.R_drewN | apply Kd.R_drew)); exact HO_7.out) hb); have n3_ := Aside0.mk (Kd.R_elder' (by (with_reducible repeat (first | apply Kd.R_alloc | apply Kd.R_drewN | apply Kd.R_drew)); exact HO250.out) (Kd.R_base ho0) hb); have n4_ := Aside0.mk (Kd.R_lower (Kd.R_new' (Kd.R_new' (Kd.R_new' ho0 (Kd.R_lt (by (with_reducible repeat (first | apply Kd.R_alloc | apply Kd.R_drewN | apply Kd.R_drew)); exact HO_5.out))) (Kd.R_lt (by (with_reducible repeat (first | apply Kd.R_alloc | apply Kd.R_drewN | apply Kd.R_drew)); exact HO_6.out))) (Kd.R_lt (by (with_reducible repeat (first | apply Kd.R_alloc | apply Kd.R_drewN | apply Kd.R_drew)); exact HO250.out))) (below_size (by repeat (first | (with_reducible first | exact HB.out | apply below_alloc | apply pw_below_drewN | apply below_drew1) | exact HB.out)))); have n5_ := Aside0.mk (below_step (by repeat (first | (with_reducible first | exact HB.out | apply below_alloc | apply pw_below_drewN | apply below_drew1) | exact HB.out)) hb); clear HO_5; clear HO_6; clear HO_7; clear HO250; clear HB; have HO_5 := n0_; have HO_6 := n1_; have HO_7 := n2_; have HO250 := n3_; have HO254 := n4_; have HB := n5_; clear n0_ n1_ n2_ n3_ n4_ n5_; (try clear hb); (try clear hb2); (try clear hk); (try clear hi); (try clear ho0)))
       repeat (go_quiet (first | (go_at_call 14; (with_reducible refine (copies_Row.calls k1 _ _ x5_1 (wrap64 (1000 + (Int.tmod (wrap64 (a1)) 60000))) t247 t248 _ ?side1 ?side2 A30.out).mono ?_); (case side1 => repeat (first | exact (Kd.R_reads' HO_5.out).2.2 | (with_reducible refine Kd.C_alloc ?_ _) | (with_reducible refine Kd.C_drewN ?_ _) | (with_reducible refine Kd.C_drew ?_))); (case side2 => exact (Kd.R_reads' HO_5.out).2.1); rintro e w34 ⟨v249, rfl, ho0, hb⟩; have n0_ := Aside0.mk (Kd.R_elder' (by (with_reducible repeat (first | apply Kd.R_alloc | apply Kd.R_drewN | apply Kd.R_drew)); exact HO_5.out) (Kd.R_base ho0) hb); have n1_ := Aside0.mk (Kd.R_elder' (by (with_reducible repeat (first | apply Kd.R_alloc | apply Kd.R_drewN | apply Kd.R_drew)); exact HO_6.out) (Kd.R_base ho0) hb); have n2_ := Aside0.mk (Kd.R_below (by (with_reducible repeat (first | apply Kd.R_alloc | apply Kd.R_drewN | apply Kd.R_drew)); exact HO_7.out) hb); have n3_ := Aside0.mk (Kd.R_lower (Kd.R_new' (Kd.R_new' ho0 (Kd.R_lt (by (with_reducible repeat (first | apply Kd.R_alloc | apply Kd.R_drewN | apply Kd.R_drew)); exact HO_5.out))) (Kd.R_lt (by (with_reducible repeat (first | apply Kd.R_alloc | apply Kd.R_drewN | apply Kd.R_drew)); exact HO_6.out))) (below_size (by repeat (first | (with_reducible first | exact HB.out | apply below_alloc | apply pw_below_drewN | apply below_drew1) | exact HB.out)))); have n4_ := Aside0.mk (below_step (by repeat (first | (with_reducible first | exact HB.out | apply below_alloc | apply pw_below_drewN | apply below_drew1) | exact HB.out)) hb); clear HO_5; clear HO_6; clear HO_7; clear HB; have HO_5 := n0_; have HO_6 := n1_; have HO_7 := n2_; have HO250 := n3_; have HB := n4_; clear n0_ n1_ n2_ n3_ n4_; (try clear hb); (try clear hb2); (try clear hk); (try clear hi); (try clear ho0); obtain ⟨Ao35, co35, eo35⟩ := Kd.R_slice HO_6.out; subst eo35) | (go_at_call 14; (with_reducible refine (copies_Row.calls k1 _ _ x6_1 (wrap64 (1000 + (Int.tmod (wrap64 (a1)) 60000))) t251 t252 _ ?side1 ?side2 A31.out).mono ?_); (case side1 => repeat (first | exact (Kd.R_reads' HO_6.out).2.2 | (with_reducible refine Kd.C_alloc ?_ _) | (with_reducible refine Kd.C_drewN ?_ _) | (with_reducible refine Kd.C_drew ?_))); (case side2 => exact (Kd.R_reads' HO_6.out).2.1); rintro e w36 ⟨v253, rfl, ho0, hb⟩; have n0_ := Aside0.mk (Kd.R_elder' (by (with_reducible repeat (first | apply Kd.R_alloc | apply Kd.R_drewN | apply Kd.R_drew)); exact HO_5.out) (Kd.R_base ho0) hb); have n1_ := Aside0.mk (Kd.R_elder' (by (with_reducible repeat (first | apply Kd.R_alloc | apply Kd.R_drewN | apply Kd.R_drew)); exact HO_6.out) (Kd.R_base ho0) hb); have n2_ := Aside0.mk (Kd.R_below (by (with_reducible repeat (first | apply Kd.R_alloc | apply Kd.R_drewN | apply Kd.R_drew)); exact HO_7.out) hb); have n3_ := Aside0.mk (Kd.R_elder' (by (with_reducible repeat (first | apply Kd.R_alloc | apply Kd.R_drewN | apply Kd.R_drew)); exact HO250.out) (Kd.R_base ho0) hb); have n4_ := Aside0.mk (Kd.R_lower (Kd.R_new' (Kd.R_new' (Kd.R_new' ho0 (Kd.R_lt (by (with_reducible repeat (first | apply Kd.R_alloc | apply Kd.R_drewN | apply Kd.R_drew)); exact HO_5.out))) (Kd.R_lt (by (with_reducible repeat (first | apply Kd.R_alloc | apply Kd.R_drewN | apply Kd.R_drew)); exact HO_6.out))) (Kd.R_lt (by (with_reducible repeat (first | apply Kd.R_alloc | apply Kd.R_drewN | apply Kd.R_drew)); exact HO250.out))) (below_size (by repeat (first | (with_reducible first | exact HB.out | apply below_alloc | apply pw_below_drewN | apply below_drew1) | exact HB.out)))); have n5_ := Aside0.mk (below_step (by repeat (first | (with_reducible first | exact HB.out | apply below_alloc | apply pw_below_drewN | apply below_drew1) | exact HB.out)) hb); clear HO_5; clear HO_6; clear HO_7; clear HO250; clear HB; have HO_5 := n0_; have HO_6 := n1_; have HO_7 := n2_; have HO250 := n3_; have HO254 := n4_; have HB := n5_; clear n0_ n1_ n2_ n3_ n4_ n5_; (try clear hb); (try clear hb2); (try clear hk); (try clear hi); (try clear ho0))); go_upto_region 18 with (first | (go_at_call 14; (with_reducible refine (copies_Row.calls k1 _ _ x5_1 (wrap64 (1000 + (Int.tmod (wrap64 (a1)) 60000))) t247 t248 _ ?side1 ?side2 A30.out).mono ?_); (case side1 => repeat (first | exact (Kd.R_reads' HO_5.out).2.2 | (with_reducible refine Kd.C_alloc ?_ _) | (with_reducible refine Kd.C_drewN ?_ _) | (with_reducible refine Kd.C_drew ?_))); (case side2 => exact (Kd.R_reads' HO_5.out).2.1); rintro e w34 ⟨v249, rfl, ho0, hb⟩; have n0_ := Aside0.mk (Kd.R_elder' (by (with_reducible repeat (first | apply Kd.R_alloc | apply Kd.R_drewN | apply Kd.R_drew)); exact HO_5.out) (Kd.R_base ho0) hb); have n1_ := Aside0.mk (Kd.R_elder' (by (with_reducible repeat (first | apply Kd.R_alloc | apply Kd.R_drewN | apply Kd.R_drew)); exact HO_6.out) (Kd.R_base ho0) hb); have n2_ := Aside0.mk (Kd.R_below (by (with_reducible repeat (first | apply Kd.R_alloc | apply Kd.R_drewN | apply Kd.R_drew)); exact HO_7.out) hb); have n3_ := Aside0.mk (Kd.R_lower (Kd.R_new' (Kd.R_new' ho0 (Kd.R_lt (by (with_reducible repeat (first | apply Kd.R_alloc | apply Kd.R_drewN | apply Kd.R_drew)); exact HO_5.out))) (Kd.R_lt (by (with_reducible repeat (first | apply Kd.R_alloc | apply Kd.R_drewN | apply Kd.R_drew)); exact HO_6.out))) (below_size (by repeat (first | (with_reducible first | exact HB.out | apply below_alloc | apply pw_below_drewN | apply below_drew1) | exact HB.out)))); have n4_ := Aside0.mk (below_step (by repeat (first | (with_reducible first | exact HB.out | apply below_alloc | apply pw_below_drewN | apply below_drew1) | exact HB.out)) hb); clear HO_5; clear HO_6; clear HO_7; clear HB; have HO_5 := n0_; have HO_6 := n1_; have HO_7 := n2_; have HO250 := n3_; have HB := n4_; clear n0_ n1_ n2_ n3_ n4_; (try clear hb); (try clear hb2); (try clear hk); (try clear hi); (try clear ho0); obtain ⟨Ao35, co35, eo35⟩ := Kd.R_slice HO_6.out; subst eo35) | (go_at_call 14; (with_reducible refine (copies_Row.calls k1 _ _ x6_1 (wrap64 (1000 + (Int.tmod (wrap64 (a1)) 60000))) t251 t252 _ ?side1 ?side2 A31.out).mono ?_); (case side1 => repeat (first | exact (Kd.R_reads' HO_6.out).2.2 | (with_reducible refine Kd.C_alloc ?_ _) | (with_reducible refine Kd.C_drewN ?_ _) | (with_reducible refine Kd.C_drew ?_))); (case side2 => exact (Kd.R_reads' HO_6.out).2.1); rintro e w36 ⟨v253, rfl, ho0, hb⟩; have n0_ := Aside0.mk (Kd.R_elder' (by (with_reducible repeat (first | apply Kd.R_alloc | apply Kd.R_drewN | apply Kd.R_drew)); exact HO_5.out) (Kd.R_base ho0) hb); have n1_ := Aside0.mk (Kd.R_elder' (by (with_reducible repeat (first | apply Kd.R_alloc | apply Kd.R_drewN | apply Kd.R_drew)); exact HO_6.out) (Kd.R_base ho0) hb); have n2_ := Aside0.mk (Kd.R_below (by (with_reducible repeat (first | apply Kd.R_alloc | apply Kd.R_drewN | apply Kd.R_drew)); exact HO_7.out) hb); have n3_ := Aside0.mk (Kd.R_elder' (by (with_reducible repeat (first | apply Kd.R_alloc | apply Kd.R_drewN | apply Kd.R_drew)); exact HO250.out) (Kd.R_base ho0) hb); have n4_ := Aside0.mk (Kd.R_lower (Kd.R_new' (Kd.R_new' (Kd.R_new' ho0 (Kd.R_lt (by (with_reducible repeat (first | apply Kd.R_alloc | apply Kd.R_drewN | apply Kd.R_drew)); exact HO_5.out))) (Kd.R_lt (by (with_reducible repeat (first | apply Kd.R_alloc | apply Kd.R_drewN | apply Kd.R_drew)); exact HO_6.out))) (Kd.R_lt (by (with_reducible repeat (first | apply Kd.R_alloc | apply Kd.R_drewN | apply Kd.R_drew)); exact HO250.out))) (below_size (by repeat (first | (with_reducible first | exact HB.out | apply below_alloc | apply pw_below_drewN | apply below_drew1) | exact HB.out)))); have n5_ := Aside0.mk (below_step (by repeat (first | (with_reducible first | exact HB.out | apply below_alloc | apply pw_below_drewN | apply below_drew1) | exact HB.out)) hb); clear HO_5; clear HO_6; clear HO_7; clear HO250; clear HB; have HO_5 := n0_; have HO_6 := n1_; have HO_7 := n2_; have HO250 := n3_; have HO254 := n4_; have HB := n5_; clear n0_ n1_ n2_ n3_ n4_ n5_; (try clear hb); (try clear hb2); (try clear hk); (try clear hi); (try clear ho0))))
       (try simp only [Act.put, List.setIfInBounds_toArray, List.set_cons_zero, List.set_cons_succ])
       go_cut [97] (fun v97 wc => ∃ (kq : Nat) (x97_31 : Bool), v97 = .bool x97_31 ∧ Aside0 (davitlaw20_CopiesNone.j1 kq x6_1 t251 x97_31 = some r) ∧ Aside0 (kq ≤ k1) ∧ Aside0 (Kd.R k34 34 wc w.heap.size (fun k_ => some k_ ≠ (v253 : Value).ownBlock) (.slice Ao35 x6_1.length co35) x6_1) ∧ Aside0 (Kd.R k34 34 wc w.heap.size (fun k_ => some k_ ≠ ((.slice Ao35 x6_1.length co35) : Value).ownBlock) v253 t251) ∧ Aside0 (Below w.heap.size w wc))
       case first =>
        have H := HC32.out
        clear HC32
        by_cases c37 : t248 = 0
        ·rw [if_pos c37] at H
         have c37b0 : (t248 == 0) = true := beq_iff_eq.mpr c37
         have c37b1 : (t248 != 0) = false := bne_eq_false_iff_eq.mpr c37
         clear c37
         (first | rw [c37b0] | (simp only [i64_w, i32_w]; rw [c37b0]) | skip)
         by_cases c38 : t252 = 0
         ·rw [if_pos c38] at H
          have c38b0 : (t252 == 0) = true := beq_iff_eq.mpr c38
          have c38b1 : (t252 != 0) = false := bne_eq_false_iff_eq.mpr c38
          clear c38
          by_cases c39 : (t247.length : Int) = 0
          ·rw [if_pos c39] at H
           have c39b0 : ((t247.length : Int) == 0) = true := beq_iff_eq.mpr c39
           have c39b1 : ((t247.length : Int) != 0) = false := bne_eq_false_iff_eq.mpr c39
           clear c39
           by_cases c40 : (t251.length : Int) = (x6_1.length : Int)
           ·rw [if_pos c40] at H
            have c40b0 : ((t251.length : Int) == (x6_1.length : Int)) = true := beq_iff_eq.mpr c40
            have c40b1 : ((t251.length : Int) != (x6_1.length : Int)) = false := bne_eq_false_iff_eq.mpr c40
            have c40b2 : (t251.length == x6_1.length) = true := by first | simpa using c40 | (simp at c40 ⊢; omega)
            clear c40
            replace H := Option.bind_eq_some_iff.mp H
            obtain ⟨t255, A410, H⟩ := H
            replace H : ((copies_Rings.f k1 x6_1).bind fun t256 => (davitlaw20_CopiesNone.j1 k1 x6_1 t251 ((wrap64 (t255 + t256)) != 0))) = some r := H
            have A41 := Aside0.mk A410
            clear A410
            replace H := Option.bind_eq_some_iff.mp H
            obtain ⟨t256, A420, H⟩ := H
            replace H : (davitlaw20_CopiesNone.j1 k1 x6_1 t251 ((wrap64 (t255 + t256)) != 0)) = some r := H
            have A42 := Aside0.mk A420
            clear A420
            have H' := Aside0.mk H
            clear H
            obtain ⟨Ao43, co43, eo43⟩ := Kd.R_slice HO250.out
            subst eo43
            obtain ⟨Ao44, co44, eo44⟩ := Kd.R_slice HO254.out
            subst eo44
            go_wp2_with (first | (go_at_call 9; (with_reducible refine (copies_Rings.calls k1 _ _ x5_1 t255 _ ?side1 ?side2 A41.out).mono ?_); (case side1 => repeat (first | exact (Kd.R_reads' HO_5.out).2.2 | (with_reducible refine Kd.C_alloc ?_ _) | (with_reducible refine Kd.C_drewN ?_ _) | (with_reducible refine Kd.C_drew ?_))); (case side2 => exact (Kd.R_reads' HO_5.out).2.1); rintro e w45 ⟨rfl, hb⟩; have n0_ := Aside0.mk (Kd.R_below (by (with_reducible repeat (first | apply Kd.R_alloc | apply Kd.R_drewN | apply Kd.R_drew)); exact HO_5.out) hb); have n1_ := Aside0.mk (Kd.R_below (by (with_reducible repeat (first | apply Kd.R_alloc | apply Kd.R_drewN | apply Kd.R_drew)); exact HO_6.out) hb); have n2_ := Aside0.mk (Kd.R_below (by (with_reducible repeat (first | apply Kd.R_alloc | apply Kd.R_drewN | apply Kd.R_drew)); exact HO_7.out) hb); have n3_ := Aside0.mk (Kd.R_below (by (with_reducible repeat (first | apply Kd.R_alloc | apply Kd.R_drewN | apply Kd.R_drew)); exact HO250.out) hb); have n4_ := Aside0.mk (Kd.R_below (by (with_reducible repeat (first | apply Kd.R_alloc | apply Kd.R_drewN | apply Kd.R_drew)); exact HO254.out) hb); have n5_ := Aside0.mk (below_step (by repeat (first | (with_reducible first | exact HB.out | apply below_alloc | apply pw_below_drewN | apply below_drew1) | exact HB.out)) hb); clear HO_5; clear HO_6; clear HO_7; clear HO250; clear HO254; clear HB; have HO_5 := n0_; have HO_6 := n1_; have HO_7 := n2_; have HO250 := n3_; have HO254 := n4_; have HB := n5_; clear n0_ n1_ n2_ n3_ n4_ n5_; (try clear hb); (try clear hb2); (try clear hk); (try clear hi)) | (go_at_call 9; (with_reducible refine (copies_Rings.calls k1 _ _ x6_1 t256 _ ?side1 ?side2 A42.out).mono ?_); (case side1 => repeat (first | exact (Kd.R_reads' HO_6.out).2.2 | (with_reducible refine Kd.C_alloc ?_ _) | (with_reducible refine Kd.C_drewN ?_ _) | (with_reducible refine Kd.C_drew ?_))); (case side2 => exact (Kd.R_reads' HO_6.out).2.1); rintro e w46 ⟨rfl, hb⟩; have n0_ := Aside0.mk (Kd.R_below (by (with_reducible repeat (first | apply Kd.R_alloc | apply Kd.R_drewN | apply Kd.R_drew)); exact HO_5.out) hb); have n1_ := Aside0.mk (Kd.R_below (by (with_reducible repeat (first | apply Kd.R_alloc | apply Kd.R_drewN | apply Kd.R_drew)); exact HO_6.out) hb); have n2_ := Aside0.mk (Kd.R_below (by (with_reducible repeat (first | apply Kd.R_alloc | apply Kd.R_drewN | apply Kd.R_drew)); exact HO_7.out) hb); have n3_ := Aside0.mk (Kd.R_below (by (with_reducible repeat (first | apply Kd.R_alloc | apply Kd.R_drewN | apply Kd.R_drew)); exact HO250.out) hb); have n4_ := Aside0.mk (Kd.R_below (by (with_reducible repeat (first | apply Kd.R_alloc | apply Kd.R_drewN | apply Kd.R_drew)); exact HO254.out) hb); have n5_ := Aside0.mk (below_step (by repeat (first | (with_reducible first | exact HB.out | apply below_alloc | apply pw_below_drewN | apply below_drew1) | exact HB.out)) hb); clear HO_5; clear HO_6; clear HO_7; clear HO250; clear HO254; clear HB; have HO_5 := n0_; have HO_6 := n1_; have HO_7 := n2_; have HO250 := n3_; have HO254 := n4_; have HB := n5_; clear n0_ n1_ n2_ n3_ n4_ n5_; (try clear hb); (try clear hb2); (try clear hk); (try clear hi)))
            repeat (go_quiet (first | (go_at_call 9; (with_reducible refine (copies_Rings.calls k1 _ _ x5_1 t255 _ ?side1 ?side2 A41.out).mono ?_); (case side1 => repeat (first | exact (Kd.R_reads' HO_5.out).2.2 | (with_reducible refine Kd.C_alloc ?_ _) | (with_reducible refine Kd.C_drewN ?_ _) | (with_reducible refine Kd.C_drew ?_))); (case side2 => exact (Kd.R_reads' HO_5.out).2.1); rintro e w45 ⟨rfl, hb⟩; have n0_ := Aside0.mk (Kd.R_below (by (with_reducible repeat (first | apply Kd.R_alloc | apply Kd.R_drewN | apply Kd.R_drew)); exact HO_5.out) hb); have n1_ := Aside0.mk (Kd.R_below (by (with_reducible repeat (first | apply Kd.R_alloc | apply Kd.R_drewN | apply Kd.R_drew)); exact HO_6.out) hb); have n2_ := Aside0.mk (Kd.R_below (by (with_reducible repeat (first | apply Kd.R_alloc | apply Kd.R_drewN | apply Kd.R_drew)); exact HO_7.out) hb); have n3_ := Aside0.mk (Kd.R_below (by (with_reducible repeat (first | apply Kd.R_alloc | apply Kd.R_drewN | apply Kd.R_drew)); exact HO250.out) hb); have n4_ := Aside0.mk (Kd.R_below (by (with_reducible repeat (first | apply Kd.R_alloc | apply Kd.R_drewN | apply Kd.R_drew)); exact HO254.out) hb); have n5_ := Aside0.mk (below_step (by repeat (first | (with_reducible first | exact HB.out | apply below_alloc | apply pw_below_drewN | apply below_drew1) | exact HB.out)) hb); clear HO_5; clear HO_6; clear HO_7; clear HO250; clear HO254; clear HB; have HO_5 := n0_; have HO_6 := n1_; have HO_7 := n2_; have HO250 := n3_; have HO254 := n4_; have HB := n5_; clear n0_ n1_ n2_ n3_ n4_ n5_; (try clear hb); (try clear hb2); (try clear hk); (try clear hi)) | (go_at_call 9; (with_reducible refine (copies_Rings.calls k1 _ _ x6_1 t256 _ ?side1 ?side2 A42.out).mono ?_); (case side1 => repeat (first | exact (Kd.R_reads' HO_6.out).2.2 | (with_reducible refine Kd.C_alloc ?_ _) | (with_reducible refine Kd.C_drewN ?_ _) | (with_reducible refine Kd.C_drew ?_))); (case side2 => exact (Kd.R_reads' HO_6.out).2.1); rintro e w46 ⟨rfl, hb⟩; have n0_ := Aside0.mk (Kd.R_below (by (with_reducible repeat (first | apply Kd.R_alloc | apply Kd.R_drewN | apply Kd.R_drew)); exact HO_5.out) hb); have n1_ := Aside0.mk (Kd.R_below (by (with_reducible repeat (first | apply Kd.R_alloc | apply Kd.R_drewN | apply Kd.R_drew)); exact HO_6.out) hb); have n2_ := Aside0.mk (Kd.R_below (by (with_reducible repeat (first | apply Kd.R_alloc | apply Kd.R_drewN | apply Kd.R_drew)); exact HO_7.out) hb); have n3_ := Aside0.mk (Kd.R_below (by (with_reducible repeat (first | apply Kd.R_alloc | apply Kd.R_drewN | apply Kd.R_drew)); exact HO250.out) hb); have n4_ := Aside0.mk (Kd.R_below (by (with_reducible repeat (first | apply Kd.R_alloc | apply Kd.R_drewN | apply Kd.R_drew)); exact HO254.out) hb); have n5_ := Aside0.mk (below_step (by repeat (first | (with_reducible first | exact HB.out | apply below_alloc | apply pw_below_drewN | apply below_drew1) | exact HB.out)) hb); clear HO_5; clear HO_6; clear HO_7; clear HO250; clear HO254; clear HB; have HO_5 := n0_; have HO_6 := n1_; have HO_7 := n2_; have HO250 := n3_; have HO254 := n4_; have HB := n5_; clear n0_ n1_ n2_ n3_ n4_ n5_; (try clear hb); (try clear hb2); (try clear hk); (try clear hi))); try go_wp2_with (first | (go_at_call 9; (with_reducible refine (copies_Rings.calls k1 _ _ x5_1 t255 _ ?side1 ?side2 A41.out).mono ?_); (case side1 => repeat (first | exact (Kd.R_reads' HO_5.out).2.2 | (with_reducible refine Kd.C_alloc ?_ _) | (with_reducible refine Kd.C_drewN ?_ _) | (with_reducible refine Kd.C_drew ?_))); (case side2 => exact (Kd.R_reads' HO_5.out).2.1); rintro e w45 ⟨rfl, hb⟩; have n0_ := Aside0.mk (Kd.R_below (by (with_reducible repeat (first | apply Kd.R_alloc | apply Kd.R_drewN | apply Kd.R_drew)); exact HO_5.out) hb); have n1_ := Aside0.mk (Kd.R_below (by (with_reducible repeat (first | apply Kd.R_alloc | apply Kd.R_drewN | apply Kd.R_drew)); exact HO_6.out) hb); have n2_ := Aside0.mk (Kd.R_below (by (with_reducible repeat (first | apply Kd.R_alloc | apply Kd.R_drewN | apply Kd.R_drew)); exact HO_7.out) hb); have n3_ := Aside0.mk (Kd.R_below (by (with_reducible repeat (first | apply Kd.R_alloc | apply Kd.R_drewN | apply Kd.R_drew)); exact HO250.out) hb); have n4_ := Aside0.mk (Kd.R_below (by (with_reducible repeat (first | apply Kd.R_alloc | apply Kd.R_drewN | apply Kd.R_drew)); exact HO254.out) hb); have n5_ := Aside0.mk (below_step (by repeat (first | (with_reducible first | exact HB.out | apply below_alloc | apply pw_below_drewN | apply below_drew1) | exact HB.out)) hb); clear HO_5; clear HO_6; clear HO_7; clear HO250; clear HO254; clear HB; have HO_5 := n0_; have HO_6 := n1_; have HO_7 := n2_; have HO250 := n3_; have HO254 := n4_; have HB := n5_; clear n0_ n1_ n2_ n3_ n4_ n5_; (try clear hb); (try clear hb2); (try clear hk); (try clear hi)) | (go_at_call 9; (with_reducible refine (copies_Rings.calls k1 _ _ x6_1 t256 _ ?side1 ?side2 A42.out).mono ?_); (case side1 => repeat (first | exact (Kd.R_reads' HO_6.out).2.2 | (with_reducible refine Kd.C_alloc ?_ _) | (with_reducible refine Kd.C_drewN ?_ _) | (with_reducible refine Kd.C_drew ?_))); (case side2 => exact (Kd.R_reads' HO_6.out).2.1); rintro e w46 ⟨rfl, hb⟩; have n0_ := Aside0.mk (Kd.R_below (by (with_reducible repeat (first | apply Kd.R_alloc | apply Kd.R_drewN | apply Kd.R_drew)); exact HO_5.out) hb); have n1_ := Aside0.mk (Kd.R_below (by (with_reducible repeat (first | apply Kd.R_alloc | apply Kd.R_drewN | apply Kd.R_drew)); exact HO_6.out) hb); have n2_ := Aside0.mk (Kd.R_below (by (with_reducible repeat (first | apply Kd.R_alloc | apply Kd.R_drewN | apply Kd.R_drew)); exact HO_7.out) hb); have n3_ := Aside0.mk (Kd.R_below (by (with_reducible repeat (first | apply Kd.R_alloc | apply Kd.R_drewN | apply Kd.R_drew)); exact HO250.out) hb); have n4_ := Aside0.mk (Kd.R_below (by (with_reducible repeat (first | apply Kd.R_alloc | apply Kd.R_drewN | apply Kd.R_drew)); exact HO254.out) hb); have n5_ := Aside0.mk (below_step (by repeat (first | (with_reducible first | exact HB.out | apply below_alloc | apply pw_below_drewN | apply below_drew1) | exact HB.out)) hb); clear HO_5; clear HO_6; clear HO_7; clear HO250; clear HO254; clear HB; have HO_5 := n0_; have HO_6 := n1_; have HO_7 := n2_; have HO250 := n3_; have HO254 := n4_; have HB := n5_; clear n0_ n1_ n2_ n3_ n4_ n5_; (try clear hb); (try clear hb2); (try clear hk); (try clear hi))))
            go_meet
            case rel => exact ⟨_, (((wrap64 (t255 + t256)) != 0)), (by first | rfl | (simp; done) | (simp [*]; done)), H', ⟨by have := HK1.out; first | omega | exact Nat.le_refl _⟩, ⟨by (with_reducible repeat (first | apply Kd.R_alloc | apply Kd.R_drewN | apply Kd.R_drew)); exact Kd.R_mono HO_6.out (fun _ hk => hk.2)⟩, ⟨by (with_reducible repeat (first | apply Kd.R_alloc | apply Kd.R_drewN | apply Kd.R_drew)); exact Kd.R_mono HO254.out (fun _ hk => hk.1.2)⟩, ⟨by repeat (first | (with_reducible first | exact HB.out | apply below_alloc | apply pw_below_drewN | apply below_drew1) | exact HB.out)⟩⟩
           ·rw [if_neg c40] at H
            have c40b0 : ((t251.length : Int) == (x6_1.length : Int)) = false := beq_eq_false_iff_ne.mpr c40
            have c40b1 : ((t251.length : Int) != (x6_1.length : Int)) = true := bne_iff_ne.mpr c40
            have c40b2 : (t251.length == x6_1.length) = false := by first | simpa using c40 | (simp at c40 ⊢; omega)
            have H' := Aside0.mk H
            clear H
            obtain ⟨Ao47, co47, eo47⟩ := Kd.R_slice HO250.out
            subst eo47
            obtain ⟨Ao48, co48, eo48⟩ := Kd.R_slice HO254.out
            subst eo48
            go_wp2
            repeat (go_quiet (fail); try go_wp2)
            go_meet
            case rel => exact ⟨_, (true), (by first | rfl | (simp; done) | (simp [*]; done)), H', ⟨by have := HK1.out; first | omega | exact Nat.le_refl _⟩, ⟨by (with_reducible repeat (first | apply Kd.R_alloc | apply Kd.R_drewN | apply Kd.R_drew)); exact Kd.R_mono HO_6.out (fun _ hk => hk.2)⟩, ⟨by (with_reducible repeat (first | apply Kd.R_alloc | apply Kd.R_drewN | apply Kd.R_drew)); exact Kd.R_mono HO254.out (fun _ hk => hk.1.2)⟩, ⟨by repeat (first | (with_reducible first | exact HB.out | apply below_alloc | apply pw_below_drewN | apply below_drew1) | exact HB.out)⟩⟩
          ·rw [if_neg c39] at H
           have c39b0 : ((t247.length : Int) == 0) = false := beq_eq_false_iff_ne.mpr c39
           have c39b1 : ((t247.length : Int) != 0) = true := bne_iff_ne.mpr c39
           have c39b2 : ¬ (t247 = []) := fun h_ => c39 (by rw [h_]; rfl)
           have H' := Aside0.mk H
           clear H
           obtain ⟨Ao49, co49, eo49⟩ := Kd.R_slice HO250.out
           subst eo49
           go_wp2
           repeat (go_quiet (fail); try go_wp2)
           go_meet
           case rel => exact ⟨_, (true), (by first | rfl | (simp; done) | (simp [*]; done)), H', ⟨by have := HK1.out; first | omega | exact Nat.le_refl _⟩, ⟨by (with_reducible repeat (first | apply Kd.R_alloc | apply Kd.R_drewN | apply Kd.R_drew)); exact Kd.R_mono HO_6.out (fun _ hk => hk.2)⟩, ⟨by (with_reducible repeat (first | apply Kd.R_alloc | apply Kd.R_drewN | apply Kd.R_drew)); exact Kd.R_mono HO254.out (fun _ hk => hk.1.2)⟩, ⟨by repeat (first | (with_reducible first | exact HB.out | apply below_alloc | apply pw_below_drewN | apply below_drew1) | exact HB.out)⟩⟩
         ·rw [if_neg c38] at H
          have c38b0 : (t252 == 0) = false := beq_eq_false_iff_ne.mpr c38
          have c38b1 : (t252 != 0) = true := bne_iff_ne.mpr c38
          have H' := Aside0.mk H
          clear H
          go_wp2
          repeat (go_quiet (fail); try go_wp2)
          go_meet
          case rel => exact ⟨_, (true), (by first | rfl | (simp; done) | (simp [*]; done)), H', ⟨by have := HK1.out; first | omega | exact Nat.le_refl _⟩, ⟨by (with_reducible repeat (first | apply Kd.R_alloc | apply Kd.R_drewN | apply Kd.R_drew)); exact Kd.R_mono HO_6.out (fun _ hk => hk.2)⟩, ⟨by (with_reducible repeat (first | apply Kd.R_alloc | apply Kd.R_drewN | apply Kd.R_drew)); exact Kd.R_mono HO254.out (fun _ hk => hk.1.2)⟩, ⟨by repeat (first | (with_reducible first | exact HB.out | apply below_alloc | apply pw_below_drewN | apply below_drew1) | exact HB.out)⟩⟩
        ·rw [if_neg c37] at H
         have c37b0 : (t248 == 0) = false := beq_eq_false_iff_ne.mpr c37
         have c37b1 : (t248 != 0) = true := bne_iff_ne.mpr c37
         (first | rw [c37b0] | (simp only [i64_w, i32_w]; rw [c37b0]) | skip)
         have H' := Aside0.mk H
         clear H
         go_wp2
         repeat (go_quiet (fail); try go_wp2)
         go_meet
         case rel => exact ⟨_, (true), (by first | rfl | (simp; done) | (simp [*]; done)), H', ⟨by have := HK1.out; first | omega | exact Nat.le_refl _⟩, ⟨by (with_reducible repeat (first | apply Kd.R_alloc | apply Kd.R_drewN | apply Kd.R_drew)); exact Kd.R_mono HO_6.out (fun _ hk => hk.2)⟩, ⟨by (with_reducible repeat (first | apply Kd.R_alloc | apply Kd.R_drewN | apply Kd.R_drew)); exact Kd.R_mono HO254.out (fun _ hk => hk.1.2)⟩, ⟨by repeat (first | (with_reducible first | exact HB.out | apply below_alloc | apply pw_below_drewN | apply below_drew1) | exact HB.out)⟩⟩
       case rest =>
        clear HC32
        try clear c1
        try clear p1
        try clear q1
        try clear hx1
        try clear c2
        try clear p2
        try clear q2
        try clear hx2
        try clear hf2
        try clear c3
        try clear c4
        try clear c5
        try clear c5b0
        try clear c5b1
        try clear p6
        try clear c7
        try clear c7b0
        try clear c7b1
        try clear c11
        try clear c11b0
        try clear c12
        try clear c12b0
        try clear c14
        try clear c14b0
        try clear c15
        try clear c15b0
        try clear q16
        try clear c17
        try clear p18
        try clear q18
        try clear hx18
        try clear hf18
        try clear c22
        try clear c23
        try clear p23
        try clear q23
        try clear hx23
        try clear p24
        try clear q24
        try clear hx24
        try clear hf24
        try clear c37
        try clear c37b0
        try clear c37b1
        try clear c38
        try clear c38b0
        try clear c38b1
        try clear c39
        try clear c39b0
        try clear c39b1
        try clear c39b2
        try clear c40
        try clear c40b0
        try clear c40b1
        try clear c40b2
        try clear hx18_0
        try clear hx237_0
        try clear hx238_0
        try clear hx24_0
        try clear p18
        try clear p2
        try clear p237
        try clear p238
        try clear p24
        try clear q18
        try clear q237
        try clear q238
        try clear q24
        obtain ⟨kq, x97_31, rfl, HA, HJ31, HO_6, HO_13, HB⟩ := hcut
        cases kq with
        | zero => exact absurd HA.out (by simp [davitlaw20_CopiesNone.j1])
        | succ kj31 =>
         have H := HA.out
         clear HA
         simp only [davitlaw20_CopiesNone.j1] at H
         by_cases c50 : x97_31 = true
         ·subst c50
          have H1 : (some false) = some r := by rw [if_pos rfl] at H; exact H
          clear H
          have H := H1
          clear H1
          obtain rfl := Option.some.inj H
          go_wp2
          repeat (go_quiet (fail); try go_wp2)
          go_ret
          exact ⟨by first | rfl | (simp [errW_none, errW_some] <;> rfl) | (simp [*, errW_none, errW_some] <;> rfl), by repeat (first | (with_reducible first | exact HB.out | apply below_alloc | apply pw_below_drewN | apply below_drew1) | exact HB.out)⟩
         ·replace c50 := Bool.eq_false_iff.mpr c50
          subst c50
          have H1 : (davitlaw20_CopiesNone.l1 kj31 x6_1 t251 0) = some r := by rw [if_neg (show ¬ (false = true) by decide)] at H; exact H
          clear H
          have H := H1
          clear H1
          have H' := Aside0.mk H
          clear H
          go_wp2
          repeat (go_quiet (fail); try go_wp2)
          go_loopg [15] kj31 (fun kq v15 w' => ∃ (x15_3 : Int), v15 = .int .i64 x15_3 ∧ Aside0 (davitlaw20_CopiesNone.l1 kq x6_1 t251 x15_3 = some r) ∧ Aside0 (kq ≤ kj31) ∧ Aside0 (Kd.R k34 34 w' w.heap.size (fun k_ => some k_ ≠ (v253 : Value).ownBlock) (.slice Ao35 x6_1.length co35) x6_1) ∧ Aside0 (Kd.R k34 34 w' w.heap.size (fun k_ => some k_ ≠ ((.slice Ao35 x6_1.length co35) : Value).ownBlock) v253 t251) ∧ Aside0 (Below w.heap.size w w'))
          case atStart => exact ⟨(0), (by first | rfl | (simp; done) | (simp [*]; done)), H', ⟨Nat.le_refl _⟩, ⟨by (with_reducible repeat (first | apply Kd.R_alloc | apply Kd.R_drewN | apply Kd.R_drew)); exact HO_6.out⟩, ⟨by (with_reducible repeat (first | apply Kd.R_alloc | apply Kd.R_drewN | apply Kd.R_drew)); exact HO_13.out⟩, ⟨by repeat (first | (with_reducible first | exact HB.out | apply below_alloc | apply pw_below_drewN | apply below_drew1) | exact HB.out)⟩⟩
          case round =>
           clear H'
           try clear c1
           try clear p1
           try clear q1
           try clear hx1
           try clear c2
           try clear p2
           try clear q2
           try clear hx2
           try clear hf2
           try clear c3
           try clear c4
           try clear c5
           try clear c5b0
           try clear c5b1
           try clear p6
           try clear c7
           try clear c7b0
           try clear c7b1
           try clear c11
           try clear c11b0
           try clear c12
           try clear c12b0
           try clear c14
           try clear c14b0
           try clear c15
           try clear c15b0
           try clear q16
           try clear c17
           try clear p18
           try clear q18
           try clear hx18
           try clear hf18
           try clear c22
           try clear c23
           try clear p23
           try clear q23
           try clear hx23
           try clear p24
           try clear q24
           try clear hx24
           try clear hf24
           try clear c37
           try clear c37b0
           try clear c37b1
           try clear c38
           try clear c38b0
           try clear c38b1
           try clear c39
           try clear c39b0
           try clear c39b1
           try clear c39b2
           try clear c40
           try clear c40b0
           try clear c40b1
           try clear c40b2
           try clear c50
           try clear hx18_0
           try clear hx237_0
           try clear hx238_0
           try clear hx24_0
           try clear p1
           try clear p18
           try clear p2
           try clear p23
           try clear p237
           try clear p238
           try clear p24
           try clear p6
           try clear q1
           try clear q16
           try clear q18
           try clear q2
           try clear q23
           try clear q237
           try clear q238
           try clear q24
           obtain ⟨x15_3, rfl, HA, HK3, HO_6, HO_13, HB⟩ := hrel
           cases gk with
           | zero => exact absurd HA.out (by simp [davitlaw20_CopiesNone.l1])
           | succ k3 =>
            have H := HA.out
            clear HA
            simp only [davitlaw20_CopiesNone.l1] at H
            by_cases c51 : x15_3 < (t251.length : Int)
            ·rw [if_pos c51] at H
             have c51b0 : decide (x15_3 < (t251.length : Int)) = true := decide_eq_true c51
             clear c51
             have H' := Aside0.mk H
             clear H
             obtain ⟨Ao52, co52, eo52⟩ := Kd.R_slice HO_13.out
             subst eo52
             go_wp2
             repeat (go_quiet (fail); try go_wp2)
             go_loopg [16, 17] k3 (fun kq v16 v17 w' => ∃ (x16_4 : Bool) (x17_4 : Int), v16 = .bool x16_4 ∧ v17 = .int .i64 x17_4 ∧ Aside0 (davitlaw20_CopiesNone.l2 kq x6_1 t251 x15_3 x16_4 x17_4 = some r) ∧ Aside0 (kq ≤ k3) ∧ Aside0 (Kd.R k34 34 w' w.heap.size (fun k_ => some k_ ≠ ((.slice Ao52 t251.length co52) : Value).ownBlock) (.slice Ao35 x6_1.length co35) x6_1) ∧ Aside0 (Kd.R k34 34 w' w.heap.size (fun k_ => some k_ ≠ ((.slice Ao35 x6_1.length co35) : Value).ownBlock) (.slice Ao52 t251.length co52) t251) ∧ Aside0 (Below w.heap.size w w'))
             case atStart => exact ⟨(false), (0), (by first | rfl | (simp; done) | (simp [*]; done)), (by first | rfl | (simp; done) | (simp [*]; done)), H', ⟨Nat.le_refl _⟩, ⟨by (with_reducible repeat (first | apply Kd.R_alloc | apply Kd.R_drewN | apply Kd.R_drew)); exact HO_6.out⟩, ⟨by (with_reducible repeat (first | apply Kd.R_alloc | apply Kd.R_drewN | apply Kd.R_drew)); exact HO_13.out⟩, ⟨by repeat (first | (with_reducible first | exact HB.out | apply below_alloc | apply pw_below_drewN | apply below_drew1) | exact HB.out)⟩⟩
             case round =>
              clear H'
              try clear c1
              try clear p1
              try clear q1
              try clear hx1
              try clear c2
              try clear p2
              try clear q2
              try clear hx2
              try clear hf2
              try clear c3
              try clear c4
              try clear c5
              try clear c5b0
              try clear c5b1
              try clear p6
              try clear c7
              try clear c7b0
              try clear c7b1
              try clear c11
              try clear c11b0
              try clear c12
              try clear c12b0
              try clear c14
              try clear c14b0
              try clear c15
              try clear c15b0
              try clear q16
              try clear c17
              try clear p18
              try clear q18
              try clear hx18
              try clear hf18
              try clear c22
              try clear c23
              try clear p23
              try clear q23
              try clear hx23
              try clear p24
              try clear q24
              try clear hx24
              try clear hf24
              try clear c37
              try clear c37b0
              try clear c37b1
              try clear c38
              try clear c38b0
              try clear c38b1
              try clear c39
              try clear c39b0
              try clear c39b1
              try clear c39b2
              try clear c40
              try clear c40b0
              try clear c40b1
              try clear c40b2
              try clear c50
              try clear c51
              try clear c51b0
              try clear hx18_0
              try clear hx237_0
              try clear hx238_0
              try clear hx24_0
              try clear p1
              try clear p18
              try clear p2
              try clear p23
              try clear p237
              try clear p238
              try clear p24
              try clear p6
              try clear q1
              try clear q16
              try clear q18
              try clear q2
              try clear q23
              try clear q237
              try clear q238
              try clear q24
              obtain ⟨x16_4, x17_4, rfl, rfl, HA, HK4, HO_6, HO_13, HB⟩ := hrel
              cases gk with
              | zero => exact absurd HA.out (by simp [davitlaw20_CopiesNone.l2])
              | succ k4 =>
               have H := HA.out
               clear HA
               simp only [davitlaw20_CopiesNone.l2] at H
               by_cases c53 : x17_4 < (x6_1.length : Int)
               ·rw [if_pos c53] at H
                have c53b0 : decide (x17_4 < (x6_1.length : Int)) = true := decide_eq_true c53
                clear c53
                by_cases c54 : x16_4 = true
                ·subst c54
                 have H1 : (davitlaw20_CopiesNone.l2 k4 x6_1 t251 x15_3 true (wrap64 (x17_4 + 1))) = some r := by rw [if_pos rfl] at H; exact H
                 clear H
                 have H := H1
                 clear H1
                 have H' := Aside0.mk H
                 clear H
                 go_wp2
                 repeat (go_quiet (fail); try go_wp2)
                 go_roundg k4
                 case measure => have := HK1.out; have := HJ31.out; have := HK3.out; have := HK4.out; omega
                 case rel => exact ⟨(true), (wrap64 (x17_4 + 1)), (by first | rfl | (simp; done) | (simp [*]; done)), (by first | rfl | (simp; done) | (simp [*]; done)), H', ⟨by have := HK1.out; have := HJ31.out; have := HK3.out; have := HK4.out; omega⟩, ⟨by (with_reducible repeat (first | apply Kd.R_alloc | apply Kd.R_drewN | apply Kd.R_drew)); exact HO_6.out⟩, ⟨by (with_reducible repeat (first | apply Kd.R_alloc | apply Kd.R_drewN | apply Kd.R_drew)); exact HO_13.out⟩, ⟨by repeat (first | (with_reducible first | exact HB.out | apply below_alloc | apply pw_below_drewN | apply below_drew1) | exact HB.out)⟩⟩
                ·replace c54 := Bool.eq_false_iff.mpr c54
                 subst c54
                 have H1 : (if 0 ≤ x17_4 then (if 0 ≤ x15_3 then (if x15_3 < (t251.length : Int) then (davitlaw20_CopiesNone.l2 k4 x6_1 t251 x15_3 (((rd_T34 x6_1 x17_4).f0) == ((rd_T34 t251 x15_3).f0) && (((rd_T34 x6_1 x17_4).f1) == ((rd_T34 t251 x15_3).f1))) (wrap64 (x17_4 + 1))) else (none)) else (none)) else (none)) = some r := by rw [if_neg (show ¬ (false = true) by decide)] at H; exact H
                 clear H
                 have H := H1
                 clear H1
                 by_cases c55 : 0 ≤ x17_4
                 ·rw [if_pos c55] at H
                  have c55b0 : decide (0 ≤ x17_4) = true := decide_eq_true c55
                  clear c55
                  by_cases c56 : 0 ≤ x15_3
                  ·rw [if_pos c56] at H
                   have c56b0 : decide (0 ≤ x15_3) = true := decide_eq_true c56
                   clear c56
                   by_cases c57 : x15_3 < (t251.length : Int)
                   ·rw [if_pos c57] at H
                    have c57b0 : decide (x15_3 < (t251.length : Int)) = true := decide_eq_true c57
                    clear c57
                    have H' := Aside0.mk H
                    clear H
                    have p257 : 0 ≤ (x17_4 : Int) := of_decide_eq_true (by first | (with_reducible assumption) | assumption)
                    have q257 : x17_4 < (x6_1.length : Int) := of_decide_eq_true (by first | (with_reducible assumption) | assumption)
                    obtain ⟨ad257, e257, hx257_0, hx257_1⟩ := at_T34 (Kd.R_reads' HO_6.out).2.2 x17_4 p257 q257
                    cases e257
                    replace p257 := eq_true p257
                    replace q257 := eq_true q257
                    have p258 : 0 ≤ (x15_3 : Int) := of_decide_eq_true (by first | (with_reducible assumption) | assumption)
                    have q258 : x15_3 < (t251.length : Int) := of_decide_eq_true (by first | (with_reducible assumption) | assumption)
                    obtain ⟨ad258, e258, hx258_0, hx258_1⟩ := at_T34 (Kd.R_reads' HO_13.out).2.2 x15_3 p258 q258
                    cases e258
                    replace p258 := eq_true p258
                    replace q258 := eq_true q258
                    go_wp2
                    repeat (go_quiet (fail); try go_wp2)
                    go_roundg k4
                    case measure => have := HK1.out; have := HJ31.out; have := HK3.out; have := HK4.out; omega
                    case rel => exact ⟨((((rd_T34 x6_1 x17_4).f0) == ((rd_T34 t251 x15_3).f0) && (((rd_T34 x6_1 x17_4).f1) == ((rd_T34 t251 x15_3).f1)))), (wrap64 (x17_4 + 1)), (by first | rfl | (simp; done) | (simp [*]; done)), (by first | rfl | (simp; done) | (simp [*]; done)), H', ⟨by have := HK1.out; have := HJ31.out; have := HK3.out; have := HK4.out; omega⟩, ⟨by (with_reducible repeat (first | apply Kd.R_alloc | apply Kd.R_drewN | apply Kd.R_drew)); exact HO_6.out⟩, ⟨by (with_reducible repeat (first | apply Kd.R_alloc | apply Kd.R_drewN | apply Kd.R_drew)); exact HO_13.out⟩, ⟨by repeat (first | (with_reducible first | exact HB.out | apply below_alloc | apply pw_below_drewN | apply below_drew1) | exact HB.out)⟩⟩
                   ·rw [if_neg c57] at H
                    exact absurd H (by simp)
                  ·rw [if_neg c56] at H
                   exact absurd H (by simp)
                 ·rw [if_neg c55] at H
                  exact absurd H (by simp)
               ·rw [if_neg c53] at H
                have c53b0 : decide (x17_4 < (x6_1.length : Int)) = false := decide_eq_false c53
                clear c53
                by_cases c58 : x16_4 = true
                ·subst c58
                 have H1 : (davitlaw20_CopiesNone.l1 k4 x6_1 t251 (wrap64 (x15_3 + 1))) = some r := by rw [if_pos rfl] at H; exact H
                 clear H
                 have H := H1
                 clear H1
                 have H' := Aside0.mk H
                 clear H
                 go_wp2
                 repeat (go_quiet (fail); try go_wp2)
                 go_roundg k4
                 case measure => have := HK1.out; have := HJ31.out; have := HK3.out; have := HK4.out; omega
                 case rel => exact ⟨(wrap64 (x15_3 + 1)), (by first | rfl | (simp; done) | (simp [*]; done)), H', ⟨by have := HK1.out; have := HJ31.out; have := HK3.out; have := HK4.out; omega⟩, ⟨by (with_reducible repeat (first | apply Kd.R_alloc | apply Kd.R_drewN | apply Kd.R_drew)); exact HO_6.out⟩, ⟨by (with_reducible repeat (first | apply Kd.R_alloc | apply Kd.R_drewN | apply Kd.R_drew)); exact HO_13.out⟩, ⟨by repeat (first | (with_reducible first | exact HB.out | apply below_alloc | apply pw_below_drewN | apply below_drew1) | exact HB.out)⟩⟩
                ·replace c58 := Bool.eq_false_iff.mpr c58
                 subst c58
                 have H1 : (some false) = some r := by rw [if_neg (show ¬ (false = true) by decide)] at H; exact H
                 clear H
                 have H := H1
                 clear H1
                 obtain rfl := Option.some.inj H
                 go_wp2
                 repeat (go_quiet (fail); try go_wp2)
                 go_ret
                 exact ⟨by first | rfl | (simp [errW_none, errW_some] <;> rfl) | (simp [*, errW_none, errW_some] <;> rfl), by repeat (first | (with_reducible first | exact HB.out | apply below_alloc | apply pw_below_drewN | apply below_drew1) | exact HB.out)⟩
            ·rw [if_neg c51] at H
             have c51b0 : decide (x15_3 < (t251.length : Int)) = false := decide_eq_false c51
             clear c51
             obtain rfl := Option.some.inj H
             obtain ⟨Ao59, co59, eo59⟩ := Kd.R_slice HO_13.out
             subst eo59
             go_wp2
             repeat (go_quiet (fail); try go_wp2)
             go_ret
             exact ⟨by first | rfl | (simp [errW_none, errW_some] <;> rfl) | (simp [*, errW_none, errW_some] <;> rfl), by repeat (first | (with_reducible first | exact HB.out | apply below_alloc | apply pw_below_drewN | apply below_drew1) | exact HB.out)⟩
   ·rw [if_neg c7] at H
    exact absurd H (by simp)
 ·replace c4 := Bool.eq_false_iff.mpr c4
  subst c4
  have H1 : (some false) = some r := by rw [if_neg (show ¬ (false = true) by decide)] at H; exact H
  clear H
  have H := H1
  clear H1
  obtain rfl := Option.some.inj H
  go_enter Try.func5, Try.ntmps5
  go_wp2_with (first | (go_at_call 6; (with_reducible refine (davitlaw20_awake.calls k  false _ A3.out).mono ?_); rintro e w60 ⟨rfl, hb⟩; have n0_ := Aside0.mk (below_step (by repeat (first | (with_reducible first | exact HB.out | apply below_alloc | apply pw_below_drewN | apply below_drew1) | exact HB.out)) hb); clear HB; have HB := n0_; clear n0_; (try clear hb); (try clear hb2); (try clear hk); (try clear hi)))
  repeat (go_quiet (first | (go_at_call 6; (with_reducible refine (davitlaw20_awake.calls k  false _ A3.out).mono ?_); rintro e w60 ⟨rfl, hb⟩; have n0_ := Aside0.mk (below_step (by repeat (first | (with_reducible first | exact HB.out | apply below_alloc | apply pw_below_drewN | apply below_drew1) | exact HB.out)) hb); clear HB; have HB := n0_; clear n0_; (try clear hb); (try clear hb2); (try clear hk); (try clear hi))); try go_wp2_with (first | (go_at_call 6; (with_reducible refine (davitlaw20_awake.calls k  false _ A3.out).mono ?_); rintro e w60 ⟨rfl, hb⟩; have n0_ := Aside0.mk (below_step (by repeat (first | (with_reducible first | exact HB.out | apply below_alloc | apply pw_below_drewN | apply below_drew1) | exact HB.out)) hb); clear HB; have HB := n0_; clear n0_; (try clear hb); (try clear hb2); (try clear hk); (try clear hi))))
  go_ret
  exact ⟨by first | rfl | (simp [errW_none, errW_some] <;> rfl) | (simp [*, errW_none, errW_some] <;> rfl), by repeat (first | (with_reducible first | exact HB.out | apply below_alloc | apply pw_below_drewN | apply below_drew1) | exact HB.out)⟩
def davitlaw20_CopiesNone.Pure : Prop := ∀ (l0 : List Int) (a1 : Int), l0.length ≤ maxLen → l0.length * 1 ≤ 140737488351232 → (∀ x ∈ l0, (Lit.int .u8 x).wf = true) → (Lit.int .u16 a1).wf = true → ∃ k, davitlaw20_CopiesNone.f k l0 a1 = some true
end
end Go.Proofs.Ytfbbfnadmnejeaa.X
namespace Go.Proofs.Ytfbbfnadmnejeaa.G
open Go.Proofs.Ytfbbfnadmnejeaa.X
set_option linter.all false
def ds (l : List S34) : List Int := l.map (·.f0)
def ss (l : List S34) : List Int := l.map (·.f1)
theorem mem_ds {l : List S34} {m : S34} (h : m ∈ l) : m.f0 ∈ ds l := List.mem_map.2 ⟨m, h, rfl⟩
theorem mem_ss {l : List S34} {m : S34} (h : m ∈ l) : m.f1 ∈ ss l := List.mem_map.2 ⟨m, h, rfl⟩
theorem of_ds {l : List S34} {p : Int} (h : p ∈ ds l) : ∃ m ∈ l, m.f0 = p := List.mem_map.1 h
theorem of_ss {l : List S34} {p : Int} (h : p ∈ ss l) : ∃ m ∈ l, m.f1 = p := List.mem_map.1 h
section
variable {l : List S34}
end
end Go.Proofs.Ytfbbfnadmnejeaa.G
namespace Go.Proofs.Ytfbbfnadmnejeaa.G
open Go.Proofs.Ytfbbfnadmnejeaa.X Go.RowKit Go.Proofs.YtfbbfnadmnejeaaW.PrintWords
set_option linter.all false
def Evt {α : Type} (g : Nat → Option α) (r : α) : Prop := ∃ k0, ∀ k, k0 ≤ k → g k = some r
theorem Evt.succ {α : Type} {g : Nat → Option α} {r : α} (h : Evt (fun k => g (k + 1)) r) : Evt g r := by
 obtain ⟨k0, h⟩ := h
 refine ⟨k0 + 1, fun k hk => ?_⟩
 obtain ⟨j, rfl⟩ : ∃ j, k = j + 1 := ⟨k - 1, by omega⟩
 exact h j (by omega)
theorem Evt.bind {α β : Type} {g : Nat → Option α} {h : Nat → α → Option β} {a : α} {r : β} (h1 : Evt g a) (h2 : Evt (fun k => h k a) r) : Evt (fun k => (g k).bind (h k)) r := by
 obtain ⟨k1, h1⟩ := h1
 obtain ⟨k2, h2⟩ := h2
 refine ⟨k1 + k2, fun k hk => ?_⟩
 show (g k).bind (h k) = some r
 rw [h1 k (by omega)]
 exact h2 k (by omega)
theorem Evt.pure {α : Type} (r : α) : Evt (fun _ => some r) r := ⟨0, fun _ _ => rfl⟩
theorem Evt.congr {α : Type} {g g' : Nat → Option α} {r : α} (h : Evt g' r) (e : ∀ k, g k = g' k) : Evt g r := by
 obtain ⟨k0, h⟩ := h
 exact ⟨k0, fun k hk => (e k).trans (h k hk)⟩
theorem Evt.inj {α : Type} {g : Nat → Option α} {r s : α} (h1 : Evt g r) (h2 : Evt g s) : r = s := by
 obtain ⟨k1, h1⟩ := h1
 obtain ⟨k2, h2⟩ := h2
 have e1 := h1 (k1 + k2) (by omega)
 have e2 := h2 (k1 + k2) (by omega)
 rw [e1] at e2
 exact Option.some.inj e2
theorem Evt.ex {α : Type} {g : Nat → Option α} {r : α} (h : Evt g r) : ∃ k, g k = some r := by
 obtain ⟨k0, h⟩ := h
 exact ⟨k0, h k0 (Nat.le_refl _)⟩
def wd (w : List Int) (p : Int) : Int := if 0 ≤ p ∧ p < (w.length : Int) then w.getD p.toNat 0 else 0
def put (w : List Int) (d v : Int) : List Int := if 0 ≤ d ∧ d < (w.length : Int) then w.set d.toNat v else w
def onceGo (w : List Int) : List S34 → List Int → List Int
 | [], out => out
 | m :: r, out => onceGo w r (put out m.f0 (wd w m.f1))
def once (l : List S34) (w : List Int) : List Int := onceGo w l w
def made : List S34 → List Int → List Int
 | [], w => w
 | m :: r, w => made r (put w m.f0 (wd w m.f1))
def Sem (N : Nat) (l : List S34) (apart : Int) (r : List S34) : Prop := ∀ w : List Int, w.length = N → ∀ p, p ≠ apart → wd (made r w) p = wd (once l w) p
theorem wrap_small (n : Int) (h0 : -9223372036854775808 ≤ n) (h1 : n ≤ 9223372036854775807) : wrap64 n = n := by unfold wrap64; omega
theorem rd_nat (l : List S34) (i : Nat) : rd_T34 l (i : Int) = l.getD i z34 := by unfold rd_T34; rw [Int.toNat_natCast]
theorem freeP_iff (l : List S34) (m : S34) : freeP l m = true ↔ m.f0 ∉ ss l := by
 unfold freeP
 rcases idxF_spec (fun n : S34 => n.f1 == m.f0) z34 l with ⟨e, hall⟩ | ⟨k, hk, e, hp, _⟩
 ·rw [e]
  constructor
  ·intro _ h
   obtain ⟨x, hx, hxe⟩ := of_ss h
   obtain ⟨j, hj, rfl⟩ := List.getElem_of_mem hx
   have := hall j hj
   rw [List.getD_eq_getElem?_getD, List.getElem?_eq_getElem hj] at this
   simp at this
   exact this hxe
  ·intro _; decide
 ·rw [e]
  constructor
  ·intro h
   exfalso
   simp at h
  ·intro h
   exfalso
   apply h
   have : (l.getD k z34).f1 = m.f0 := by simpa using hp
   rw [← this]
   exact mem_ss (getD_mem l k z34 hk)
end Go.Proofs.Ytfbbfnadmnejeaa.G
namespace Go.Proofs.Ytfbbfnadmnejeaa.G
open Go.Proofs.Ytfbbfnadmnejeaa.X Go.RowKit Go.Proofs.YtfbbfnadmnejeaaW.PrintWords
set_option linter.all false
theorem Evt.of_mono {α : Type} {g : Nat → Option α} {r : α} (hm : ∀ k, LeO (g k) (g (k + 1))) {k : Nat} (h : g k = some r) : Evt g r := by
 refine ⟨k, fun j hj => ?_⟩
 obtain ⟨d, rfl⟩ := Nat.exists_eq_add_of_le hj
 clear hj
 induction d with
 | zero => exact h
 | succ d ih => exact hm (k + d) _ ih
structure MayIs (l : List S34) : Prop where
 len : l.length ≤ 64
 pl : ∀ m ∈ l, (0 ≤ m.f0 ∧ m.f0 ≤ 65535) ∧ (0 ≤ m.f1 ∧ m.f1 ≤ 65535)
 nd : (ds l).Nodup
theorem placeB_iff (a : Int) : placeB a = true ↔ 0 ≤ a ∧ a ≤ 65535 := by unfold placeB; simp
theorem mayGo_iff : ∀ (l : List S34) (S : List Int), mayGo S l = true ↔ (∀ m ∈ l, (0 ≤ m.f0 ∧ m.f0 ≤ 65535) ∧ (0 ≤ m.f1 ∧ m.f1 ≤ 65535)) ∧ (ds l).Nodup ∧ ∀ m ∈ l, m.f0 ∉ S
 | [], S => by simp [mayGo, ds]
 | m :: r, S => by
  rw [mayGo]
  have ih := mayGo_iff r (m.f0 :: S)
  constructor
  ·intro h
   split at h
   ·rename_i hc
    obtain ⟨h1, h2, h3⟩ := ih.1 h
    refine ⟨fun x hx => ?_, ?_, fun x hx => ?_⟩
    ·rcases List.mem_cons.1 hx with rfl | hx
     ·exact ⟨(placeB_iff _).1 hc.1, (placeB_iff _).1 hc.2.1⟩
     ·exact h1 x hx
    ·simp only [ds, List.map_cons, List.nodup_cons]
     refine ⟨fun hin => ?_, h2⟩
     obtain ⟨x, hx, e⟩ := of_ds hin
     exact h3 x hx (by rw [e]; simp)
    ·rcases List.mem_cons.1 hx with rfl | hx
     ·exact hc.2.2
     ·exact fun hin => h3 x hx (List.mem_cons_of_mem _ hin)
   ·cases h
  ·rintro ⟨h1, h2, h3⟩
   simp only [ds, List.map_cons, List.nodup_cons] at h2
   rw [if_pos ⟨(placeB_iff _).2 (h1 m (by simp)).1, (placeB_iff _).2 (h1 m (by simp)).2, h3 m (by simp)⟩]
   refine ih.2 ⟨fun x hx => h1 x (by simp [hx]), h2.2, fun x hx hin => ?_⟩
   rcases List.mem_cons.1 hin with e | hin
   ·exact h2.1 (by rw [← e]; exact mem_ds hx)
   ·exact h3 x (by simp [hx]) hin
theorem mayL_iff (l : List S34) : mayL l = true ↔ MayIs l := by
 unfold mayL
 rw [Bool.and_eq_true, mayGo_iff, decide_eq_true_eq]
 exact ⟨fun ⟨⟨h1, h2, _⟩, h3⟩ => ⟨h3, h1, h2⟩, fun h => ⟨⟨h.pl, h.nd, fun _ _ => by simp⟩, h.len⟩⟩
def realL (l : List S34) : List S34 := l.filter fun m => !(m.f0 == m.f1)
theorem realL_mem {l : List S34} {m : S34} : m ∈ realL l ↔ m ∈ l ∧ m.f0 ≠ m.f1 := by unfold realL; rw [List.mem_filter]; simp
end Go.Proofs.Ytfbbfnadmnejeaa.G
namespace Go.Proofs.Ytfbbfnadmnejeaa.G
open Go.Proofs.Ytfbbfnadmnejeaa.X Go.RowKit Go.Proofs.YtfbbfnadmnejeaaW.PrintWords
set_option linter.all false
theorem awake_ev : Evt (fun k => davitlaw20_awake.f k) true := Evt.of_mono (fun k => davitlaw20_awake.mono k) (k := 40) (by decide +kernel)
end Go.Proofs.Ytfbbfnadmnejeaa.G
namespace Go.Proofs.Ytfbbfnadmnejeaa.Pure
open Go.RowKit Go.Proofs.Ytfbbfnadmnejeaa.X Go.Proofs.Ytfbbfnadmnejeaa.G Go.Proofs.YtfbbfnadmnejeaaW.PrintWords Go.Proofs.YtfbbfnadmnejeaaW.PrintLast
set_option linter.all false
theorem row_free (a : Int) : ∀ (l out : List S34) (rings : Int), l.length ≤ 1000 → out.length + l.length ≤ 1000 → (∀ m ∈ l, m.f0 ∉ ss l) → Evt (fun k => copies_row.l0 k l a out rings) (out ++ l, rings)
 | [], out, rings, _, _, _ => by
  refine Evt.succ (Evt.congr (Evt.pure _) fun k => ?_)
  rw [copies_row.l0, if_neg (by simp), List.append_nil]
 | m :: l, out, rings, h1, h2, h => by
  have ih := row_free a l (out ++ [m]) rings (by simp at h1; omega) (by simp at h2 ⊢; omega) (fun x hx hin => h x (by simp [hx]) (by simp only [ss, List.map_cons, List.mem_cons]; exact .inr hin))
  have hf : freeP (m :: l) m = true := (freeP_iff _ _).2 (h m (by simp))
  have hi : idxF (freeP (m :: l)) (m :: l) 0 = 0 := by rw [idxF, if_pos hf]
  rw [show out ++ m :: l = out ++ [m] ++ l by simp]
  refine Evt.succ (Evt.congr ih fun k => ?_)
  rw [copies_row.l0, if_pos (by simp)]
  show ((some (idxF (freeP (m :: l)) (m :: l) 0)).bind _) = _
  rw [hi, Option.bind_some, if_pos (by omega), if_pos (by omega), if_pos (by simp), if_pos (by simp at h2; omega), G.wrap_small _ (by omega) (by omega)]
  unfold api_Move.f
  rw [if_pos ⟨by omega, by omega, by simp; omega, by simp at h1 ⊢; omega⟩, Option.bind_some]
  rfl
theorem none_row (l : List S34) (a : Int) (hl : l.length ≤ 64) (hf : ∀ m ∈ realL l, m.f0 ∉ ss (realL l)) : Evt (fun k => copies_row.f k l a) (realL l, 0) := by
 have hle : (realL l).length ≤ l.length := List.length_filter_le _ _
 refine Evt.congr (r := (realL l, 0)) (by have := row_free a (realL l) [] 0 (by omega) (by simp; omega) hf; rwa [List.nil_append] at this) fun k => ?_
 unfold copies_row.f copies_real.f
 rw [if_pos (by omega)]
 rfl
theorem none_rings (l : List S34) (hM : MayIs l) (hf : ∀ m ∈ realL l, m.f0 ∉ ss (realL l)) : Evt (fun k => copies_Rings.f k l) 0 := by
 have := hM.len
 refine Evt.congr (g' := fun k => (copies_row.f k l (-1)).bind fun p => some p.2) (Evt.bind (none_row l (-1) (by omega) hf) (Evt.pure _)) fun k => ?_
 unfold copies_Rings.f copies_May.f
 rw [if_pos (by omega), Option.bind_some, if_pos ((mayL_iff l).2 hM)]
theorem none_Row (l : List S34) (a : Int) (ha : 0 ≤ a ∧ a ≤ 65535) (hM : MayIs l) (hn : ∀ m ∈ l, m.f0 ≠ a ∧ m.f1 ≠ a) (hf : ∀ m ∈ realL l, m.f0 ∉ ss (realL l)) : Evt (fun k => copies_Row.f k l a) (realL l, 0) := by
 have := hM.len
 have hnm : ¬ namedB l a = true := by
  unfold namedB
  rw [idxF_miss _ z34 l 0 (fun j hj => ?_)]
  ·simp
  ·have := hn _ (getD_mem l j z34 hj)
   simp only [Bool.or_eq_false_iff, beq_eq_false_iff_ne]
   exact this
 refine Evt.congr (Evt.bind (h := fun _ p => some (p.1, 0)) (none_row l a (by omega) hf) (Evt.pure ((realL l, (0 : Int)) : List S34 × Int))) fun k => ?_
 unfold copies_Row.f
 rw [if_pos (by omega), if_pos ((mayL_iff l).2 hM), if_pos ((placeB_iff a).2 ha), if_neg hnm]
structure Gath (i : Nat) (still far : List S34) (seen : List Bool) : Prop where
 ln : seen.length = 256
 st : ∀ m ∈ still, m.f0 = m.f1
 eq : ds still = ds far
 rg : ∀ m ∈ far, (0 ≤ m.f0 ∧ m.f0 ≤ 255) ∧ (300 ≤ m.f1 ∧ m.f1 < 300 + i)
 nd : (ds far).Nodup
 sn : ∀ m ∈ far, seen.getD m.f0.toNat false = true
 le : far.length ≤ i
theorem Gath.step {i : Nat} {still far : List S34} {seen : List Bool} (h : Gath i still far seen) (p : Int) (hp : 0 ≤ p ∧ p ≤ 255) (hs : seen.getD p.toNat false = false) :
  Gath (i + 1) (still ++ [⟨p, p⟩]) (far ++ [⟨p, 300 + i⟩]) (seen.set p.toNat true) := by
 refine ⟨by rw [List.length_set]; exact h.ln, fun m hm => ?_, ?_, fun m hm => ?_, ?_, fun m hm => ?_, by simp; exact h.le⟩
 ·rcases List.mem_append.1 hm with hm | hm
  ·exact h.st m hm
  ·obtain rfl := List.mem_singleton.1 hm; rfl
 ·have := h.eq
  simp only [ds, List.map_append, List.map_cons, List.map_nil] at this ⊢
  rw [this]
 ·rcases List.mem_append.1 hm with hm | hm
  ·have := h.rg m hm; omega
  ·obtain rfl := List.mem_singleton.1 hm
   exact ⟨hp, by show 300 ≤ 300 + (i : Int) ∧ 300 + (i : Int) < _; omega⟩
 ·simp only [ds, List.map_append, List.map_cons, List.map_nil]
  rw [List.nodup_append]
  refine ⟨h.nd, by simp, fun x hx y hy e => ?_⟩
  obtain rfl := List.mem_singleton.1 hy
  obtain ⟨m, hm, e2⟩ := of_ds (l := far) hx
  have := h.sn m hm
  rw [e2, e, hs] at this
  cases this
 ·rcases List.mem_append.1 hm with hm | hm
  ·have h1 := h.sn m hm
   have hne : m.f0.toNat ≠ p.toNat := fun e => by rw [e, hs] at h1; cases h1
   rw [List.getD_eq_getElem?_getD, List.getElem?_set_ne (fun e => hne e.symm), ← List.getD_eq_getElem?_getD]
   exact h1
  ·obtain rfl := List.mem_singleton.1 hm
   rw [List.getD_eq_getElem?_getD, List.getElem?_set_self (by have := h.ln; show p.toNat < _; omega)]
   rfl
theorem Gath.skip {i : Nat} {still far : List S34} {seen : List Bool} (h : Gath i still far seen) (p : Int) : Gath (i + 1) still far (seen.set p.toNat true) := by
 refine ⟨by rw [List.length_set]; exact h.ln, h.st, h.eq, fun m hm => by have := h.rg m hm; omega, h.nd, fun m hm => ?_, by have := h.le; omega⟩
 have h1 := h.sn m hm
 by_cases e : p.toNat = m.f0.toNat
 ·rw [← e, List.getD_eq_getElem?_getD, List.getElem?_set_self (by have := h.ln; have := h.rg m hm; omega)]; rfl
 ·rw [List.getD_eq_getElem?_getD, List.getElem?_set_ne e, ← List.getD_eq_getElem?_getD]
  exact h1
theorem Gath.far {i : Nat} {still far : List S34} {seen : List Bool} (h : Gath i still far seen) (hi : i ≤ 60) : MayIs far ∧ (∀ m ∈ realL far, m.f0 ∉ ss (realL far)) ∧ realL far = far := by
 refine ⟨⟨by have := h.le; omega, fun m hm => by have := h.rg m hm; omega, h.nd⟩, fun m hm hin => ?_, ?_⟩
 ·obtain ⟨x, hx, e⟩ := of_ss hin
  have h1 := h.rg m (realL_mem.1 hm).1
  have h2 := h.rg x (realL_mem.1 hx).1
  omega
 ·unfold realL
  rw [List.filter_eq_self]
  intro m hm
  have := h.rg m hm
  simp; omega
theorem Gath.still {i : Nat} {still far : List S34} {seen : List Bool} (h : Gath i still far seen) (hi : i ≤ 60) : MayIs still ∧ realL still = [] := by
 refine ⟨⟨?_, fun m hm => ?_, by rw [h.eq]; exact h.nd⟩, ?_⟩
 ·have := congrArg List.length h.eq
  simp [ds] at this
  have := h.le
  omega
 ·have h1 : m.f0 ∈ ds far := by rw [← h.eq]; exact mem_ds hm
  obtain ⟨x, hx, e⟩ := of_ds h1
  have := h.rg x hx
  have := h.st m hm
  omega
 ·unfold realL
  rw [List.filter_eq_nil_iff]
  intro m hm
  simp [h.st m hm]
theorem found_loop (l s : List S34) (i : Nat) (hi : i < s.length) (hs : s.length ≤ 1000) (hl : l.length ≤ 1000) (x : S34) (hx : s.getD i z34 = x) (hin : x ∈ l) (hnext : Evt (fun k => davitlaw20_CopiesNone.l1 k l s ((i : Int) + 1)) true) :
  ∀ (d j : Nat) (b : Bool), j + d = l.length → (b = true ∨ ∃ q, j ≤ q ∧ q < l.length ∧ l.getD q z34 = x) → Evt (fun k => davitlaw20_CopiesNone.l2 k l s (i : Int) b (j : Int)) true := by
 intro d
 induction d with
 | zero =>
  intro j b hj hb
  have hbt : b = true := by
   rcases hb with hb | ⟨q, h1, h2, _⟩
   ·exact hb
   ·omega
  subst hbt
  refine Evt.succ (Evt.congr hnext fun k => ?_)
  rw [davitlaw20_CopiesNone.l2, if_neg (by omega), if_pos rfl, G.wrap_small _ (by omega) (by omega)]
 | succ d ih =>
  intro j b hj hb
  have hw1 : wrap64 ((j : Int) + 1) = (j : Int) + 1 := G.wrap_small _ (by omega) (by omega)
  cases b with
  | true =>
   have := ih (j + 1) true (by omega) (.inl rfl)
   rw [show (((j + 1 : Nat)) : Int) = (j : Int) + 1 by omega] at this
   refine Evt.succ (Evt.congr this fun k => ?_)
   rw [davitlaw20_CopiesNone.l2, if_pos (by omega), if_pos rfl, hw1]
  | false =>
   have := ih (j + 1) ((l.getD j z34).f0 == x.f0 && ((l.getD j z34).f1 == x.f1)) (by omega) (by
    rcases hb with hb | ⟨q, h1, h2, h3⟩
    ·cases hb
    ·rcases Nat.lt_or_ge j q with h | h
     ·exact .inr ⟨q, by omega, h2, h3⟩
     ·obtain rfl : q = j := by omega
      rw [h3]; exact .inl (by simp))
   rw [show (((j + 1 : Nat)) : Int) = (j : Int) + 1 by omega] at this
   refine Evt.succ (Evt.congr this fun k => ?_)
   rw [davitlaw20_CopiesNone.l2, if_pos (by omega), if_neg (by simp), if_pos (by omega), if_pos (by omega), if_pos (by omega), hw1, rd_nat, rd_nat, hx]
theorem all_found (l : List S34) (hl : l.length ≤ 1000) : Evt (fun k => davitlaw20_CopiesNone.l1 k l l 0) true := by
 have key : ∀ (d i : Nat), i + d = l.length → Evt (fun k => davitlaw20_CopiesNone.l1 k l l (i : Int)) true := by
  intro d
  induction d with
  | zero =>
   intro i hi
   refine Evt.succ (Evt.congr (Evt.pure _) fun k => ?_)
   rw [davitlaw20_CopiesNone.l1, if_neg (by omega)]
  | succ d ih =>
   intro i hi
   have nx := ih (i + 1) (by omega)
   rw [show (((i + 1 : Nat)) : Int) = (i : Int) + 1 by omega] at nx
   have := found_loop l l i (by omega) hl hl _ rfl (getD_mem l i z34 (by omega)) nx l.length 0 false (by omega) (.inr ⟨i, by omega, by omega, rfl⟩)
   refine Evt.succ (Evt.congr this fun k => ?_)
   rw [davitlaw20_CopiesNone.l1, if_pos (by omega)]
   rfl
 exact key l.length 0 (by omega)
theorem gather_loop (ps : List Int) (a : Int) (hps : ps.length ≤ 60) (hwf : ∀ x ∈ ps, (Lit.int .u8 x).wf = true) (ha : (Lit.int .u16 a).wf = true) :
  ∀ (d i : Nat) (still far : List S34) (seen : List Bool), i + d = ps.length → Gath i still far seen → Evt (fun k => davitlaw20_CopiesNone.l0 k ps a still far seen (i : Int)) true := by
 intro d
 induction d with
 | zero =>
  intro i still far seen hi hG
  have ha2 : 0 ≤ a ∧ a ≤ 65535 := by simp [Lit.wf, IntKind.min, IntKind.max, IntKind.signed, IntKind.bits] at ha; omega
  obtain ⟨b, hb⟩ : ∃ b, b = wrap64 (1000 + (Int.tmod (wrap64 a) 60000)) := ⟨_, rfl⟩
  have hbr : 1000 ≤ b ∧ b ≤ 65535 := by
   have h1 : wrap64 a = a := G.wrap_small _ (by omega) (by omega)
   have h2 : Int.tmod a 60000 = a % 60000 := Int.tmod_eq_emod_of_nonneg ha2.1
   rw [hb, h1, h2, G.wrap_small _ (by omega) (by omega)]
   omega
  obtain ⟨f1, f2, f3⟩ := hG.far (by omega)
  obtain ⟨s1, s2⟩ := hG.still (by omega)
  have snone : ∀ m ∈ realL still, m.f0 ∉ ss (realL still) := by rw [s2]; intro m hm; cases hm
  have r1 := none_Row still b (by omega) s1 (fun m hm => by
   have h1 : m.f0 ∈ ds far := by rw [← hG.eq]; exact mem_ds hm
   obtain ⟨x, hx, e⟩ := of_ds h1
   have := hG.rg x hx
   have := hG.st m hm
   omega) snone
  have r2 := none_Row far b (by omega) f1 (fun m hm => by have := hG.rg m hm; omega) f2
  rw [f3] at r2
  rw [s2] at r1
  have g1 := none_rings still s1 snone
  have g2 := none_rings far f1 f2
  have fin : Evt (fun k => davitlaw20_CopiesNone.j1 k far far (wrap64 ((0 : Int) + 0) != 0)) true := by
   refine Evt.succ (Evt.congr (all_found far (by have := f1.len; omega)) fun k => ?_)
   rw [davitlaw20_CopiesNone.j1, G.wrap_small _ (by omega) (by omega), if_neg (by simp)]
  refine Evt.succ (Evt.congr (Evt.bind r1 (Evt.bind r2 ?_)) fun k => by rw [davitlaw20_CopiesNone.l0, if_neg (by omega), ← hb])
  refine Evt.congr (Evt.bind (h := fun k t255 => (copies_Rings.f k far).bind fun t256 => davitlaw20_CopiesNone.j1 k far far (wrap64 (t255 + t256) != 0)) g1 (Evt.bind (h := fun k t256 => davitlaw20_CopiesNone.j1 k far far (wrap64 (0 + t256) != 0)) g2 fin)) fun k => ?_
  rw [if_pos rfl, if_pos rfl, if_pos (show ((([] : List S34).length : Nat) : Int) = 0 from rfl), if_pos rfl]
 | succ d ih =>
  intro i still far seen hi hG
  have hil : i < ps.length := by omega
  have hmem : ps.getD i 0 ∈ ps := getD_mem ps i 0 hil
  have hr : 0 ≤ ps.getD i 0 ∧ ps.getD i 0 ≤ 255 := by
   have := hwf _ hmem
   simp only [Lit.wf, IntKind.min, IntKind.max, IntKind.signed, IntKind.bits, Bool.and_eq_true, decide_eq_true_eq] at this
   simp at this
   simpa using this
  obtain ⟨p, hp⟩ : ∃ p, p = ps.getD i 0 := ⟨_, rfl⟩
  have hrd : rd ps (i : Int) = p := by unfold rd; rw [Int.toNat_natCast, hp]
  rw [← hp] at hr
  have hwp : wrap64 p = p := G.wrap_small _ (by omega) (by omega)
  have hw1 : wrap64 ((i : Int) + 1) = (i : Int) + 1 := G.wrap_small _ (by omega) (by omega)
  have hw3 : wrap64 (300 + (i : Int)) = 300 + (i : Int) := G.wrap_small _ (by omega) (by omega)
  have hln := hG.ln
  have hle := hG.le
  have hse : still.length = far.length := by
   have := congrArg List.length hG.eq
   simpa [ds] using this
  cases hs : seen.getD p.toNat false with
  | true =>
   have nx := ih (i + 1) _ _ _ (by omega) (hG.skip p)
   rw [show (((i + 1 : Nat)) : Int) = (i : Int) + 1 by omega] at nx
   refine Evt.succ (Evt.congr nx fun k => ?_)
   rw [davitlaw20_CopiesNone.l0, if_pos (by omega), if_pos (by omega), hrd, hwp, if_pos (by omega), if_pos (by omega), if_pos (show rdOf false seen p = true from hs), hw1]
  | false =>
   have nx := ih (i + 1) _ _ _ (by omega) (hG.step p hr hs)
   rw [show (((i + 1 : Nat)) : Int) = (i : Int) + 1 by omega] at nx
   refine Evt.succ (Evt.congr nx fun k => ?_)
   rw [davitlaw20_CopiesNone.l0, if_pos (by omega), if_pos (by omega), hrd, hwp, if_pos (by omega), if_pos (by omega), if_neg (show ¬ rdOf false seen p = true by unfold rdOf; rw [hs]; simp), if_pos (by omega), if_pos (by omega), hw1, hw3]
theorem CopiesNone (ps : List Int) (hwf : ∀ x ∈ ps, (Lit.int .u8 x).wf = true) (a : Int) (ha : (Lit.int .u16 a).wf = true) : ∃ k, davitlaw20_CopiesNone.f k ps a = some true := by
 refine Evt.ex (Evt.congr (g' := fun k => (davitlaw20_awake.f k).bind fun t => if t = true then (if (ps.length : Int) > 60 then some true else (if 256 ≤ 281474976710656 then (davitlaw20_CopiesNone.l0 k ps a ([] : List S34) ([] : List S34) (List.replicate 256 false) 0) else none)) else some false) (Evt.bind awake_ev ?_) fun k => rfl)
 by_cases h : ps.length ≤ 60
 ·refine Evt.congr (gather_loop ps a h hwf ha ps.length 0 [] [] (List.replicate 256 false) (by omega) ⟨List.length_replicate, (fun m hm => by cases hm), rfl, (fun m hm => by cases hm), List.nodup_nil, (fun m hm => by cases hm), Nat.le_refl _⟩) fun k => ?_
  rw [if_pos rfl, if_neg (by omega), if_pos (by omega)]
  rfl
 ·refine Evt.congr (Evt.pure _) fun k => ?_
  rw [if_pos rfl, if_pos (by omega)]
end Go.Proofs.Ytfbbfnadmnejeaa.Pure
namespace Go.Proofs.Ytfbbfnadmnejeaa.X
open Go.ChangeShapes Go.WideShapes Go.ChangeAt Go.RowKit Go.Proofs.YtfbbfnadmnejeaaW.PrintWords Go.Proofs.YtfbbfnadmnejeaaW.PrintLast Go.Proofs.YtfbbfnadmnejeaaW.PrintMore
set_option linter.all false
def OpensP {α : Type} (d : Kd α) (t : TypeId) (Q : α → Prop) : Prop := ∀ (H : Type) (enc : TypeId × Value → H) (w : World) (fuel : Nat) (cs : List Value) (x : DataW H × List MemPlace),
 DataW.trod enc Try.prog w 0 (fun _ => true) true fuel t cs = some x → ∃ a, d.K w a cs ∧ Q a
theorem OpensP.int {k : IntKind} {t : TypeId} (ht : Try.prog.underlying t = some (.int k)) : OpensP (Kd.int k) t (fun n => (Lit.int k n).wf = true) := fun H enc w fuel cs x h => by
 obtain ⟨n, rfl, _, hw⟩ := DataW.trod_int ht h
 exact ⟨n, rfl, hw⟩
theorem OpensP.slice {α : Type} {d : Kd α} {t e : TypeId} {Q : α → Prop} (e' : Nat) (ht : Try.prog.underlying t = some (.slice e)) (hd : OpensP d e Q) (hs : d.sz = Try.prog.cellsOf e) : OpensP (Kd.slice e' d) t (fun xs => ∀ x ∈ xs, Q x) := fun H enc w fuel cs x h => by
 rcases Go.Deep.open_slice ht h with ⟨rfl, _⟩ | ⟨a, len, cap, m, n, D, Pl, rfl, _, hl, hm, hmm, _, hx⟩
 ·exact ⟨[], ⟨none, 0, rfl, Nat.le_refl _, ⟨rfl, by simp, fun h => absurd h (by simp)⟩⟩, by simp⟩
 ·have hlm : len ≤ m := by rw [hmm]; split <;> omega
  have key : ∀ j, j ≤ len → ∃ xs : List α, xs.length = j ∧ (∀ x ∈ xs, Q x) ∧ ∀ i p, xs[i]? = some p → ∃ c, c.length = d.sz ∧ d.K w p c ∧ ∀ q u, c[q]? = some u → w.cell? (a.add (i * d.sz + q)) = some u := by
   intro j
   induction j with
   | zero => exact fun _ => ⟨[], rfl, by simp, fun i p h => by simp at h⟩
   | succ j ih =>
    intro hj
    obtain ⟨xs, h1, hq, h2⟩ := ih (by omega)
    obtain ⟨cs', h3, h4⟩ := hx j (by omega)
    obtain ⟨p, hp, hqp⟩ := hd H enc w n cs' _ h4
    obtain ⟨_, h5, h6⟩ := World.cells?_some h3
    refine ⟨xs ++ [p], by simp [h1], fun x hx => (List.mem_append.1 hx).elim (hq x) (fun h => (List.mem_singleton.1 h) ▸ hqp), fun i q hq => ?_⟩
    by_cases hi : i < j
    ·rw [List.getElem?_append_left (by omega)] at hq
     exact h2 i q hq
    ·have hi' : i = j := by
      have := (List.getElem?_eq_some_iff.1 hq).1
      simp [h1] at this; omega
     subst hi'
     rw [List.getElem?_append_right (by omega), h1, Nat.sub_self] at hq
     simp at hq
     subst hq
     refine ⟨cs', by rw [h5, hs], hp, fun z u hz => ?_⟩
     have hzl := (List.getElem?_eq_some_iff.1 hz).1
     have := h6 z (by omega)
     rw [Go.Deep.add_add, ← hs] at this
     rw [this, hz]
  obtain ⟨xs, h1, hq, h2⟩ := key len (Nat.le_refl _)
  have hmx : maxLen ≤ 9223372036854775807 := by decide
  exact ⟨xs, ⟨some a, cap, by rw [h1], by rw [h1]; exact hl, ⟨rfl, by omega, fun _ => ⟨a, rfl, h2⟩⟩⟩, hq⟩
theorem open_slP {α : Type} {d : Kd α} {Q : α → Prop} {t e e' : TypeId} (ht : Try.prog.underlying t = some (.slice e)) (ho : OpensP (Kd.slice e' d) t (fun xs => ∀ x ∈ xs, Q x)) {H : Type} {enc : TypeId × Value → H} {W : World} {r : Reach} {b0 : Nat} {v : Value} {dd : DataW H} {p : List MemPlace} (hv : Value.okWide Try.prog W r b0 t v) (h : DataW.Trod enc Try.prog W 0 (fun _ => true) true t v dd p) :
  ∃ (A : Option Addr) (c : Nat) (l : List α), v = .slice A l.length c ∧ Kd.C d W A l.length l ∧ l.length ≤ c ∧ ∀ x ∈ l, Q x := by
 obtain ⟨A, n, c, rfl⟩ := okWide_slice ht hv
 obtain ⟨fuel, hf⟩ := h
 obtain ⟨l, ⟨A', c', e, hc, hC⟩, hq⟩ := ho H enc W fuel _ _ hf
 simp only [Value.cells] at e
 injection e with e _
 injection e with e1 e2 e3
 subst e1
 subst e2
 subst e3
 exact ⟨A, c, l, rfl, hC, hc, hq⟩
end Go.Proofs.Ytfbbfnadmnejeaa.X
namespace Go.Proofs.Ytfbbfnadmnejeaa.X
open Go.RowKit Go.Proofs.YtfbbfnadmnejeaaW.PrintWords Go.Proofs.YtfbbfnadmnejeaaW.PrintLast Go.Proofs.YtfbbfnadmnejeaaW.PrintMore
set_option linter.all false
set_option maxRecDepth 100000
theorem oBytes : OpensP (Kd.slice 5 (Kd.int .u8)) 37 (fun xs => ∀ x ∈ xs, (Lit.int .u8 x).wf = true) := OpensP.slice 5 Try.underlying37 (OpensP.int Try.underlying5) (by kernel_rfl)
end Go.Proofs.Ytfbbfnadmnejeaa.X
namespace Go.Proofs.Ytfbbfnadmnejeaa.copiesNone
open Go.ChangeShapes Go.WideShapes Go.ChangeAt Go.RowKit Go.Proofs.Ytfbbfnadmnejeaa.X Go.Proofs.YtfbbfnadmnejeaaW.PrintWords
set_option linter.all false
theorem own : ownKnob Try.prog.godebug = none := by kernel_rfl
theorem laidOut : laidOutB Try.prog = true := by kernel_rfl
set_option maxRecDepth 100000 in
theorem lifted (os : Os) (started : os.Started) (H : Type) (enc : TypeId × Value → H) :
  ReturnsInHanded {} Try.checked os 5 .any (Rows.copiesNoneSpec.pre6 enc Try.prog Try.f5 Rows.copiesNoneRow.domain false) (Rows.copiesNoneSpec.post enc Try.prog Try.f5 false true false false) := by
 refine returnsInHanded_of_change_sized (C := Try.checked) own started (by kernel_rfl) Try.func5
  (ChangeSpec.witness6 (enc := enc) (C := Try.checked) false ⟨#[], #[.slice none 0 0, .int .u16 0], []⟩ 8 (by kernel_rfl) (by kernel_rfl) (by kernel_rfl) (by kernel_rfl)) ?_
 intro W base args ds gs before hval0 hW hcnd hsz0 _
 have hval : ∀ (j : Nat) t v, Try.f5.params[j]? = some t → args[j]? = some v → Value.okWide Try.prog W .any base t v := hval0
 have hW' := hW
 obtain ⟨p, q, hA0, hV, rfl, hfz, hnd⟩ := hW
 have hA : DataW.TrodAll enc Try.prog W 0 (fun _ => true) true Try.f5.params.toList args.toList ds p := hA0
 rw [Try.params5] at hA hval
 obtain ⟨v0, vs0, d0, ds0, p0, q0, hargs, rfl, rfl, h0, r0⟩ := trodAll_cons hA
 obtain ⟨v1, vs1, d1, ds1, p1, q1, rfl, rfl, rfl, h1, r1⟩ := trodAll_cons r0
 obtain ⟨rfl, rfl, rfl⟩ := trodAll_nil r1
 obtain rfl : args = #[v0, v1] := by cases args; simp_all
 obtain ⟨rfl, rfl⟩ := trodVars_none hV
 have k0 := h0
 have lt0 : ∀ x ∈ p0, x.block < W.heap.size := by obtain ⟨m, hm⟩ := k0; exact DataW.trod_lt m _ _ _ hm
 obtain ⟨A0, c0, l0, rfl, hr0, hc0, wl0⟩ := open_slP Try.underlying37 oBytes (hval 0 37 v0 rfl rfl) h0
 obtain ⟨a1, rfl, rfl, rfl, w1⟩ := open_int Try.underlying35 (hval 1 35 v1 rfl rfl) h1
 clear hA0 hval0 hsz0
 obtain ⟨k, hk⟩ := Pure.CopiesNone l0 wl0 a1 w1
 refine (davitlaw20_CopiesNone.calls k A0 c0 l0 a1 true W hr0 hc0 hk).mono fun e W' ⟨he, bel⟩ => ?_
 subst he
 exact ⟨_, rfl, _, _, _, [], _, [], hW', trodAll_mk1 (shut_bool Try.underlying4 _), (trodAll_cons_mk (Below.trod laidOut (by kernel_rfl) (of_decide_eq_true (by kernel_rfl)) k0 bel lt0) (trodAll_cons_mk (shut_int Try.underlying35 w1) trodAll_mk0)), rfl, bel.frame _, fun h => by cases h⟩
theorem over : Rows.copiesNoneRow.holds Try.pinned (OpenSpec.ofChange Rows.copiesNoneSpec) :=
 OpenClaim.holds_of_wide 5 Try.f5 rfl rfl rfl rfl rfl rfl rfl ⟨rfl, rfl, rfl, rfl, rfl⟩ rfl rfl rfl rfl rfl (by kernel_rfl) Try.func5 (by kernel_rfl)
  (of_decide_eq_true (by kernel_rfl)) (by unfold Func.isWrapper; first | (rw [if_pos (by decide +kernel)]; kernel_rfl) | (rw [if_neg (by decide +kernel)]; exact ⟨rfl, rfl⟩))
  (fun os started H enc _ => lifted os started H enc)
theorem proved : Rows.CopiesNoneSaid := over
#print axioms proved
end Go.Proofs.Ytfbbfnadmnejeaa.copiesNone
namespace Go.Proofs.Ytfbbfnadmnejeaa
theorem copiesNone_holds : Rows.CopiesNoneSaid := copiesNone.proved
end Go.Proofs.Ytfbbfnadmnejeaa
