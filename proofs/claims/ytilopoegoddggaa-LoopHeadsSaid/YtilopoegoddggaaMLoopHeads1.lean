/- Part 2 of the proof of the statement LoopHeads: the words of the walks, the walks through the functions that it reaches, and the plain laws of what they compute. -/
import Derived.Test.YtilopoegoddggaaMLoopHeads0
import Derived.BigQuiet
import Derived.Deep.QuietTactic
import Derived.Maps.OwnOps
import Derived.Maps.OwnSet
import Derived.Maps.Views
namespace Go.Proofs.Ytilopoegoddggaa.X
open Go.RowKit Go.Proofs.YtilopoegoddggaaW.PrintWords Go.Proofs.YtilopoegoddggaaW.PrintLast Go.Proofs.YtilopoegoddggaaW.PrintMore
attribute [local go_sem] max2_int min2_int max_two min_two max_three min_three max_four min_four
set_option linter.all false
noncomputable section
def slices_Reverse_int_int.l0 : Nat → List Int → Int → Int → Option (List Int)
 | 0, _, _, _ => none
 | k + 1, x0, x2, x3 => if x2 < x3 then (if 0 ≤ x3 then (if x3 < (x0.length : Int) then (if 0 ≤ x2 then (if x2 < (x0.length : Int) then (slices_Reverse_int_int.l0 k ((x0.set (x2 : Int).toNat (rd x0 x3)).set (x3 : Int).toNat (rd x0 x2)) (wrap64 (x2 + 1)) (wrap64 (x3 - 1))) else (none)) else (none)) else (none)) else (none)) else (some x0)
def slices_Reverse_int_int.f (k : Nat) (l0 : List Int) : Option (List Int) := slices_Reverse_int_int.l0 k l0 0 (wrap64 ((l0.length : Int) - 1))
theorem slices_Reverse_int_int.mono_l : ∀ k, (∀ y0 y1 y2, LeO (slices_Reverse_int_int.l0 k y0 y1 y2) (slices_Reverse_int_int.l0 (k + 1) y0 y1 y2))
 | 0 => fun _ _ _ r h => by simp [slices_Reverse_int_int.l0] at h
 | k + 1 => by
  have ih0 := slices_Reverse_int_int.mono_l k
  ·intro y0 y1 y2
   unfold slices_Reverse_int_int.l0
   repeat' first
   | (with_reducible exact ih0 _ _ _)
   | (with_reducible exact LeO.refl _)
   | (with_reducible exact LeO.none _)
   | (with_reducible refine LeO.ite ?_ ?_)
   | (with_reducible refine LeO.bind ?_ (fun _ => ?_))
   | exact ih0 _ _ _
   | exact LeO.none _
   | refine LeO.ite ?_ ?_
   | refine LeO.bind ?_ (fun _ => ?_)
theorem slices_Reverse_int_int.mono : ∀ a0 k, LeO (slices_Reverse_int_int.f k a0) (slices_Reverse_int_int.f (k + 1) a0) := by
 intro a0 k
 have ih0 := slices_Reverse_int_int.mono_l k
 unfold slices_Reverse_int_int.f
 repeat' first
   | (with_reducible exact ih0 _ _ _)
   | (with_reducible exact LeO.refl _)
   | (with_reducible exact LeO.none _)
   | (with_reducible refine LeO.ite ?_ ?_)
   | (with_reducible refine LeO.bind ?_ (fun _ => ?_))
   | exact ih0 _ _ _
   | exact LeO.none _
   | refine LeO.ite ?_ ?_
   | refine LeO.bind ?_ (fun _ => ?_)
def slices_Reverse_int_int.T3 : Bool × List (List Nat × List Nat) := (true, [([], []), ([], []), ([], []), ([], []), ([], []), ([], []), ([4, 5], [4, 5]), ([6], [6]), ([], []), ([], []), ([8, 9], [8, 9]), ([10], [10]), ([0, 1, 0, 1, 4, 5, 6, 7, 11], [0, 1]), ([12, 7, 0, 1, 4, 5, 6, 7, 11], [7, 12]), ([2, 3, 0, 1, 2, 3, 4, 5, 6, 7, 8, 9, 10, 11, 12, 13], [2, 3]), ([14, 11, 13, 0, 1, 2, 3, 4, 5, 6, 7, 8, 9, 10, 11, 12, 13], [11, 14])])
def slices_Reverse_int_int.B3 : List Nat := [0, 0, 0, 0, 0, 0, 48, 112, 0, 0, 768, 1792, 4083, 8179, 16383, 32767]
theorem slices_Reverse_int_int.tab3 : rtab .any (opsOf Try.f52 3) = slices_Reverse_int_int.T3 := by kernel_rfl
theorem slices_Reverse_int_int.bits3 : waitsOk slices_Reverse_int_int.T3.2 slices_Reverse_int_int.B3 = true := by kernel_rfl
set_option maxHeartbeats 8000000 in
set_option maxRecDepth 100000 in
theorem slices_Reverse_int_int.calls (k : Nat) (P0_ : Nat → Prop) (u9000_ : Value) (l0 : List Int) (r : List Int) (w0 w : World) (hB : Below w0.heap.size w0 w) (ho0 : Kd.R (Kd.int .i64) 3 w w0.heap.size P0_ u9000_ l0) (h : slices_Reverse_int_int.f k l0 = some r) :
  Calls Try.prog 52 #[u9000_] w fun e w' => e = .returned (.tuple #[]) ∧ Kd.R (Kd.int .i64) 3 w' w0.heap.size (fun k_ => (P0_ k_ ∨ w.heap.size ≤ k_)) u9000_ r ∧ Below w0.heap.size w0 w' ∧ Kept w w' (fun k_ => P0_ k_) := by
 have HO0 := Aside0.mk (show Kd.R (Kd.int .i64) 3 w w0.heap.size (fun k_ => (P0_ k_ ∨ w.heap.size ≤ k_)) u9000_ l0 from Kd.R_mono ho0 (fun k_ hk => (.inl hk)))
 have HK := Aside0.mk (Kept.refl w (fun k_ => P0_ k_))
 have HW0 := Aside0.mk hB.size
 have HB := Aside0.mk hB
 clear hB
 have H : (slices_Reverse_int_int.l0 k l0 0 (wrap64 ((l0.length : Int) - 1))) = some r := h
 clear h
 have H' := Aside0.mk H
 clear H
 obtain ⟨Ao2, co2, eo2⟩ := Kd.R_slice HO0.out
 subst eo2
 go_enter Try.func52, Try.ntmps52
 go_wp2
 go_loopg [2, 3] k (fun kq v2 v3 w' => ∃ (x0_1 : List Int) (x2_1 : Int) (x3_1 : Int), v2 = .int .i64 x2_1 ∧ v3 = .int .i64 x3_1 ∧ Aside0 (slices_Reverse_int_int.l0 kq x0_1 x2_1 x3_1 = some r) ∧ Aside0 (kq ≤ k) ∧ Aside0 (Kd.R (Kd.int .i64) 3 w' w0.heap.size (fun k_ => (P0_ k_ ∨ w.heap.size ≤ k_)) (.slice Ao2 l0.length co2) x0_1) ∧ Aside0 (Kept w w' (fun k_ => P0_ k_)) ∧ Aside0 (Below w0.heap.size w0 w'))
 case atStart => exact ⟨(l0), (0), (wrap64 ((l0.length : Int) - 1)), (by first | rfl | (simp; done) | (simp [*]; done)), (by first | rfl | (simp; done) | (simp [*]; done)), H', ⟨Nat.le_refl _⟩, ⟨by (with_reducible repeat (first | apply Kd.R_alloc | apply Kd.R_drewN | apply Kd.R_drew)); exact HO0.out⟩, ⟨by repeat (first | (with_reducible first | exact HK.out | apply Kept.alloc | apply Kept.drewN | apply Kept.drew) | exact HK.out)⟩, ⟨by repeat (first | (with_reducible first | exact HB.out | apply below_alloc | apply pw_below_drewN | apply below_drew1) | exact HB.out)⟩⟩
 case round =>
  clear H'
  try clear p2
  obtain ⟨x0_1, x2_1, x3_1, rfl, rfl, HA, HK1, HO_0, HK, HB⟩ := hrel
  have hl0_1 := (Kd.R_reads' HO_0.out).1
  rw [hl0_1] at HO_0
  (try simp only [hl0_1])
  cases gk with
  | zero => exact absurd HA.out (by simp [slices_Reverse_int_int.l0])
  | succ k1 =>
   have H := HA.out
   clear HA
   simp only [slices_Reverse_int_int.l0] at H
   by_cases c3 : x2_1 < x3_1
   ·rw [if_pos c3] at H
    have c3b0 : decide (x2_1 < x3_1) = true := decide_eq_true c3
    clear c3
    by_cases c4 : 0 ≤ x3_1
    ·rw [if_pos c4] at H
     have c4b0 : decide (0 ≤ x3_1) = true := decide_eq_true c4
     clear c4
     by_cases c5 : x3_1 < (x0_1.length : Int)
     ·rw [if_pos c5] at H
      have c5b0 : decide (x3_1 < (x0_1.length : Int)) = true := decide_eq_true c5
      clear c5
      by_cases c6 : 0 ≤ x2_1
      ·rw [if_pos c6] at H
       have c6b0 : decide (0 ≤ x2_1) = true := decide_eq_true c6
       clear c6
       by_cases c7 : x2_1 < (x0_1.length : Int)
       ·rw [if_pos c7] at H
        have c7b0 : decide (x2_1 < (x0_1.length : Int)) = true := decide_eq_true c7
        clear c7
        obtain ⟨y490, hy490⟩ : ∃ y_ : List Int, y_ = (x0_1.set (x2_1 : Int).toNat (rd x0_1 x3_1)) := ⟨_, rfl⟩
        replace H : (slices_Reverse_int_int.l0 k1 (y490.set (x3_1 : Int).toNat (rd x0_1 x2_1)) (wrap64 (x2_1 + 1)) (wrap64 (x3_1 - 1))) = some r := by first | (rw [hy490]; with_reducible exact H) | (have H2_ := (Option.bind_some _ _).symm.trans H; rw [hy490]; with_reducible exact H2_) | (have H2_ := (Option.bind_some _ _).symm.trans H; with_reducible exact H2_) | with_reducible exact H | (rw [hy490]; exact H) | exact H
        have Ny490 := Aside0.mk hy490
        clear hy490
        obtain ⟨y491, hy491⟩ : ∃ y_ : List Int, y_ = (y490.set (x3_1 : Int).toNat (rd x0_1 x2_1)) := ⟨_, rfl⟩
        replace H : (slices_Reverse_int_int.l0 k1 y491 (wrap64 (x2_1 + 1)) (wrap64 (x3_1 - 1))) = some r := by first | (rw [hy491]; with_reducible exact H) | (have H2_ := (Option.bind_some _ _).symm.trans H; rw [hy491]; with_reducible exact H2_) | (have H2_ := (Option.bind_some _ _).symm.trans H; with_reducible exact H2_) | with_reducible exact H | (rw [hy491]; exact H) | exact H
        have Ny491 := Aside0.mk hy491
        clear hy491
        have H' := Aside0.mk H
        clear H
        try go_wp2
        have n0_ := Aside0.mk (Kd.R_drew HO_0.out)
        have n1_ := Aside0.mk (Kept.drew HK.out)
        have n2_ := Aside0.mk (below_drew1 HB.out)
        clear HO_0
        clear HK
        clear HB
        have HO_0 := n0_
        have HK := n1_
        have HB := n2_
        clear n0_ n1_ n2_
        have p488 : 0 ≤ (x3_1 : Int) := of_decide_eq_true (by first | (with_reducible assumption) | assumption)
        have q488 : x3_1 < (x0_1.length : Int) := of_decide_eq_true (by first | (with_reducible assumption) | assumption)
        obtain ⟨ad488, e488, hx488_0⟩ := Kd.at_int (Kd.R_reads' HO_0.out).2.2 x3_1 p488 q488
        cases e488
        replace p488 := eq_true p488
        replace q488 := eq_true q488
        have p489 : 0 ≤ (x2_1 : Int) := of_decide_eq_true (by first | (with_reducible assumption) | assumption)
        have q489 : x2_1 < (x0_1.length : Int) := of_decide_eq_true (by first | (with_reducible assumption) | assumption)
        obtain ⟨ad489, e489, hx489_0⟩ := Kd.at_int (Kd.R_reads' HO_0.out).2.2 x2_1 p489 q489
        obtain rfl : ad488 = ad489 := (by injection e489)
        replace p489 := eq_true p489
        replace q489 := eq_true q489
        have p8 : 0 ≤ (x2_1 : Int) := of_decide_eq_true (by first | (with_reducible assumption) | assumption)
        have q8 : (x2_1 : Int) < ((x0_1.length : Int) : Int) := of_decide_eq_true (by first | (with_reducible assumption) | assumption)
        obtain ⟨go8, co8, eo8, gb8, gl8, cl8, HG8⟩ := Kd.R_form HO_0.out (by omega)
        (first | cases eo8 | (injection eo8 with ea_ en_ ec_; (first | subst ea_ | (injection ea_ with ea_; subst ea_)); subst ec_; clear en_))
        have GB8 := Aside0.mk gb8
        have GG8 := Aside0.mk HG8
        clear gb8 gl8 HG8
        have HMgo8 := Aside0.mk (show (P0_ go8 ∨ w.heap.size ≤ go8) from (HO_0.out.1 _ rfl))
        (first | simp only [add_plain] at hx488_0 | skip)
        (first | simp only [add_plain] at hx489_0 | skip)
        obtain ⟨hx8_0, hf8_0⟩ := Kd.R_celln 0 HO_0.out (x2_1 : Int) p8 q8
        replace p8 := eq_true p8
        replace q8 := eq_true q8
        have HP11 := Kd.R_putn HO_0.out (x2_1 : Int) (rd x0_1 x3_1)
        rw [← Ny490.out] at HP11
        have HQ11 := Aside0.mk HP11
        clear HP11
        have p9 : 0 ≤ (x3_1 : Int) := of_decide_eq_true (by first | (with_reducible assumption) | assumption)
        have q9 : (x3_1 : Int) < ((x0_1.length : Int) : Int) := of_decide_eq_true (by first | (with_reducible assumption) | assumption)
        obtain ⟨hx9_0, hf9_0⟩ := Kd.R_celln 0 HQ11.out (x3_1 : Int) p9 q9
        replace p9 := eq_true p9
        replace q9 := eq_true q9
        have HP12 := Kd.R_putn HQ11.out (x3_1 : Int) (rd x0_1 x2_1)
        rw [← Ny491.out] at HP12
        have HQ12 := Aside0.mk HP12
        clear HP12
        refine start_ (n := 16) (S := fun w' => w'.cell? ⟨go8, (x3_1).toNat, none⟩ = some (.int .i64 (rd x0_1 x3_1)) ∧ w'.cell? ⟨go8, (x2_1).toNat, none⟩ = some (.int .i64 (rd x0_1 x2_1))) (ds := [13, 15]) #[false, false, false, false, false, false, false, false, false, false, false, false, false, false, false, false] (by kernel_rfl) rfl rfl ⟨hx488_0, hx489_0⟩ (fun hHeld => ?_); refine with_tabW slices_Reverse_int_int.tab3 slices_Reverse_int_int.bits3 (fun HT_ HW_ => ?_)
        generalize wr.drew = w10 at HO_0 HK HB GG8 HQ11 HQ12 hf8_0 hf9_0 hx488_0 hx489_0 hx8_0 hx9_0 hHeld ⊢
        refine pure_ (i := 0) (N := some 14) (v := ?_) (a' := ?_) #[true, false, false, false, false, false, false, false, false, false, false, false, false, false, false, false] rfl rfl (any_of HT_.out (by kernel_rfl)) (fun _ _ _ h => h) (Or.inl ⟨by rfl, ?_⟩) ?_ ?_
        rotate_left
        ·intro w'
         go_simp
         with_reducible rfl
        rotate_left
        ·simp only [Act.put, List.setIfInBounds_toArray, List.set_cons_zero, List.set_cons_succ, i64_w, i32_w]
         rfl
        refine pure_ (i := 1) (N := some 15) (v := ?_) (a' := ?_) #[true, true, false, false, false, false, false, false, false, false, false, false, false, false, false, false] rfl rfl (any_of HT_.out (by kernel_rfl)) (fun _ _ _ h => h) (Or.inl ⟨by rfl, ?_⟩) ?_ ?_
        rotate_left
        ·intro w'
         go_simp
         with_reducible rfl
        rotate_left
        ·simp only [Act.put, List.setIfInBounds_toArray, List.set_cons_zero, List.set_cons_succ, i64_w, i32_w]
         rfl
        refine pure_ (i := 2) (N := some 16) (v := ?_) (a' := ?_) #[true, true, true, false, false, false, false, false, false, false, false, false, false, false, false, false] rfl rfl (any_of HT_.out (by kernel_rfl)) (fun _ _ _ h => h) (Or.inl ⟨by rfl, ?_⟩) ?_ ?_
        rotate_left
        ·intro w'
         go_simp
         with_reducible rfl
        rotate_left
        ·simp only [Act.put, List.setIfInBounds_toArray, List.set_cons_zero, List.set_cons_succ, i64_w, i32_w]
         rfl
        refine pure_ (i := 3) (N := some 17) (v := ?_) (a' := ?_) #[true, true, true, true, false, false, false, false, false, false, false, false, false, false, false, false] rfl rfl (any_of HT_.out (by kernel_rfl)) (fun _ _ _ h => h) (Or.inl ⟨by rfl, ?_⟩) ?_ ?_
        rotate_left
        ·intro w'
         go_simp
         with_reducible rfl
        rotate_left
        ·simp only [Act.put, List.setIfInBounds_toArray, List.set_cons_zero, List.set_cons_succ, i64_w, i32_w]
         rfl
        refine pure_ (i := 4) (N := some 18) (v := ?_) (a' := ?_) #[true, true, true, true, true, false, false, false, false, false, false, false, false, false, false, false] rfl rfl (any_of HT_.out (by kernel_rfl)) (fun _ _ _ h => h) (Or.inl ⟨by rfl, ?_⟩) ?_ ?_
        rotate_left
        ·intro w'
         go_simp
         with_reducible rfl
        rotate_left
        ·simp only [Act.put, List.setIfInBounds_toArray, List.set_cons_zero, List.set_cons_succ, i64_w, i32_w]
         rfl
        refine pure_ (i := 5) (N := some 19) (v := ?_) (a' := ?_) #[true, true, true, true, true, true, false, false, false, false, false, false, false, false, false, false] rfl rfl (any_of HT_.out (by kernel_rfl)) (fun _ _ _ h => h) (Or.inl ⟨by rfl, ?_⟩) ?_ ?_
        rotate_left
        ·intro w'
         go_simp
         with_reducible rfl
        rotate_left
        ·simp only [Act.put, List.setIfInBounds_toArray, List.set_cons_zero, List.set_cons_succ, i64_w, i32_w]
         rfl
        refine pure_ (i := 6) (N := some 20) (v := ?_) (a' := ?_) #[true, true, true, true, true, true, true, false, false, false, false, false, false, false, false, false] rfl rfl (any_of HT_.out (by kernel_rfl)) (fun _ _ _ h => h) (Or.inl ⟨by rfl, ?_⟩) ?_ ?_
        rotate_left
        ·intro w'
         go_simp
         with_reducible rfl
        rotate_left
        ·simp only [Act.put, List.setIfInBounds_toArray, List.set_cons_zero, List.set_cons_succ, i64_w, i32_w]
         rfl
        refine pure_ (i := 8) (N := some 22) (v := ?_) (a' := ?_) #[true, true, true, true, true, true, true, false, true, false, false, false, false, false, false, false] rfl rfl (any_of HT_.out (by kernel_rfl)) (fun _ _ _ h => h) (Or.inl ⟨by rfl, ?_⟩) ?_ ?_
        rotate_left
        ·intro w'
         go_simp
         with_reducible rfl
        rotate_left
        ·simp only [Act.put, List.setIfInBounds_toArray, List.set_cons_zero, List.set_cons_succ, i64_w, i32_w]
         rfl
        refine pure_ (i := 9) (N := some 23) (v := ?_) (a' := ?_) #[true, true, true, true, true, true, true, false, true, true, false, false, false, false, false, false] rfl rfl (any_of HT_.out (by kernel_rfl)) (fun _ _ _ h => h) (Or.inl ⟨by rfl, ?_⟩) ?_ ?_
        rotate_left
        ·intro w'
         go_simp
         with_reducible rfl
        rotate_left
        ·simp only [Act.put, List.setIfInBounds_toArray, List.set_cons_zero, List.set_cons_succ, i64_w, i32_w]
         rfl
        refine pure_ (i := 10) (N := some 24) (v := ?_) (a' := ?_) #[true, true, true, true, true, true, true, false, true, true, true, false, false, false, false, false] rfl rfl (any_of HT_.out (by kernel_rfl)) (fun _ _ _ h => h) (Or.inl ⟨by rfl, ?_⟩) ?_ ?_
        rotate_left
        ·intro w'
         go_simp
         with_reducible rfl
        rotate_left
        ·simp only [Act.put, List.setIfInBounds_toArray, List.set_cons_zero, List.set_cons_succ, i64_w, i32_w]
         rfl
        refine take_ (i := 7) (N := some 21) (v := ?_) (a' := ?_) #[true, true, true, true, true, true, true, true, true, true, true, false, false, false, false, false] rfl rfl (take_ofW HT_.out HW_.out (by kernel_rfl)) (fun _ _ _ h => h) (Or.inl ⟨by rfl, ?_⟩) hHeld ?_ ?_
        rotate_left
        ·rintro w' ⟨s0, s1⟩
         go_simp
         with_reducible rfl
        rotate_left
        ·simp only [Act.put, List.setIfInBounds_toArray, List.set_cons_zero, List.set_cons_succ, i64_w, i32_w]
         rfl
        refine take_ (i := 11) (N := some 25) (v := ?_) (a' := ?_) #[true, true, true, true, true, true, true, true, true, true, true, true, false, false, false, false] rfl rfl (take_ofW HT_.out HW_.out (by kernel_rfl)) (fun _ _ _ h => h) (Or.inl ⟨by rfl, ?_⟩) hHeld ?_ ?_
        rotate_left
        ·rintro w' ⟨s0, s1⟩
         go_simp
         with_reducible rfl
        rotate_left
        ·simp only [Act.put, List.setIfInBounds_toArray, List.set_cons_zero, List.set_cons_succ, i64_w, i32_w]
         rfl
        refine pure_ (i := 12) (N := some 26) (v := ?_) (a' := ?_) #[true, true, true, true, true, true, true, true, true, true, true, true, true, false, false, false] rfl rfl (any_of HT_.out (by kernel_rfl)) (fun _ _ _ h => h) (Or.inl ⟨by rfl, ?_⟩) ?_ ?_
        rotate_left
        ·intro w'
         go_simp
         with_reducible rfl
        rotate_left
        ·simp only [Act.put, List.setIfInBounds_toArray, List.set_cons_zero, List.set_cons_succ, i64_w, i32_w]
         rfl
        refine last_ (i := 13) (N := none) #[true, true, true, true, true, true, true, true, true, true, true, true, true, true, false, false] rfl rfl (one_of HT_.out (by kernel_rfl)) (by decide) (fun K hK => ?_)
        refine skip_ (w1 := ?_) (by rfl) rfl ?_ ?_
        rotate_left
        ·go_simp
         rfl
        refine hK.out _ _ ?_
        clear hK K
        refine pure_ (i := 14) (N := some 27) (v := ?_) (a' := ?_) #[true, true, true, true, true, true, true, true, true, true, true, true, true, true, true, false] rfl rfl (any_of HT_.out (by kernel_rfl)) (fun _ _ _ h => h) (Or.inl ⟨by rfl, ?_⟩) ?_ ?_
        rotate_left
        ·intro w'
         go_simp
         with_reducible rfl
        rotate_left
        ·simp only [Act.put, List.setIfInBounds_toArray, List.set_cons_zero, List.set_cons_succ, i64_w, i32_w]
         rfl
        refine last_ (i := 15) (N := none) #[true, true, true, true, true, true, true, true, true, true, true, true, true, true, true, true] rfl rfl (one_of HT_.out (by kernel_rfl)) (by decide) (fun K hK => ?_)
        refine skip_ (w1 := ?_) (by rfl) rfl ?_ ?_
        rotate_left
        ·go_simp
         rfl
        refine hK.out _ _ ?_
        clear hK K
        refine done_ (done_of HT_.out (by kernel_rfl)) ?_
        try go_wp2
        (try simp only [← hl0_1])
        go_roundg k1
        case measure => have := HK1.out; omega
        case rel => exact ⟨(y491), (wrap64 (x2_1 + 1)), (wrap64 (x3_1 - 1)), (by first | rfl | (simp; done) | (simp [*]; done)), (by first | rfl | (simp; done) | (simp [*]; done)), H', ⟨by have := HK1.out; omega⟩, ⟨by (try simp only [hl0_1]); (with_reducible repeat (first | apply Kd.R_alloc | apply Kd.R_drewN | apply Kd.R_drew)); exact HQ12.out⟩, ⟨by repeat (first | (with_reducible first | exact HK.out | apply Kept.alloc | apply Kept.drewN | apply Kept.drew | refine Kept.setCell ?_ HMgo8.out _ | refine Kept.setCell ?_ HMgo8.out _) | exact HK.out)⟩, ⟨by repeat (first | (with_reducible first | exact HB.out | apply below_alloc | apply pw_below_drewN | apply below_drew1 | refine below_set ?_ GB8.out | refine below_set ?_ GB8.out) | exact HB.out)⟩⟩
       ·rw [if_neg c7] at H
        exact absurd H (by simp)
      ·rw [if_neg c6] at H
       exact absurd H (by simp)
     ·rw [if_neg c5] at H
      exact absurd H (by simp)
    ·rw [if_neg c4] at H
     exact absurd H (by simp)
   ·rw [if_neg c3] at H
    have c3b0 : decide (x2_1 < x3_1) = false := decide_eq_false c3
    clear c3
    obtain rfl := Option.some.inj H
    go_wp2
    first | go_end0 | ((try simp only [Exit.inBlock, Exit.then]); refine bodyPost_ret (results_none rfl _ _ _) rfl ?_)
    exact ⟨by first | rfl | (simp [errW_none, errW_some] <;> rfl) | (simp [*, errW_none, errW_some] <;> rfl), (by first | exact (by (with_reducible repeat (first | apply Kd.R_alloc | apply Kd.R_drewN | apply Kd.R_drew)); exact HO_0.out) | (simp only [hl0_1]; exact (by (with_reducible repeat (first | apply Kd.R_alloc | apply Kd.R_drewN | apply Kd.R_drew)); exact HO_0.out))), by repeat (first | (with_reducible first | exact HB.out | apply below_alloc | apply pw_below_drewN | apply below_drew1) | exact HB.out), by repeat (first | (with_reducible first | exact HK.out | apply Kept.alloc | apply Kept.drewN | apply Kept.drew) | exact HK.out)⟩
end
end Go.Proofs.Ytilopoegoddggaa.X
namespace Go.Proofs.Ytilopoegoddggaa.X
open Go.Shelf Go.RowKit Go.Proofs.YtilopoegoddggaaW.PrintWords Go.Proofs.YtilopoegoddggaaW.PrintLast Go.Proofs.YtilopoegoddggaaW.PrintMore
set_option linter.all false
def walkO (bs : List S50) (k : Nat) : Option (List Bool × List Int) :=
 if bs.length = 0 then some ([], []) else intoO bs k 0 (List.replicate bs.length false) []
set_option maxHeartbeats 8000000 in
set_option maxRecDepth 100000 in
theorem walked_calls (a0 a1 : Int) (A : Option Addr) (c : Nat) (bs : List S50) (k : Nat) (seen : List Bool) (left : List Int) (w : World) (hr : Kd.C k50 w A bs.length bs) (hc : bs.length ≤ c) (hl : bs.length ≤ 1000) (h : walkO bs k = some (seen, left)) :
  Calls Try.prog 34 #[.agg #[.int .i64 a0, .int .i64 a1, .slice A bs.length c]] w fun e w' => ∃ g vs vl, e = .returned (.pointer (some ⟨g, 0, none⟩)) ∧ w.heap.size ≤ g ∧ WS w.heap.size w' g a0 a1 A bs.length c vs vl seen left ∧ Below w.heap.size w w' := by
 have HR := Aside0.mk hr
 have HE := Aside0.mk h
 clear hr h
 have hu24 := Try.underlying24
 have hu62 := Try.underlying62
 have hmk := print_make_of (P := Try.prog) 32 4 (.bool false) 1 Try.underlying32 info4 rfl (by decide) bs.length (by omega)
 go_enter Try.func34, Try.ntmps34
 go_wp2_with (first | ((with_reducible refine gate_dst (N := 1) rfl ?_); refine box_event ?hg (N := 1) ?hd (cs := #[.int .i64 a0, .int .i64 a1, .slice A bs.length c]) (t := 24) ?hr ?_; (case hd => rfl); (case hg => rfl); (case hr => first | (go_simp; done) | (go_simp; rfl)); intro gb hg w4 hbox hb; have BK := Aside0.mk hbox; have HB := Aside0.mk hb; have GE := Aside0.mk (show w.heap.size ≤ gb by omega); clear hbox hb hg; have hcz0 : w4.cell? ⟨gb, 0, none⟩ = some (.int .i64 a0) := (blk_cell BK.out 0).trans rfl; have hcz1 : w4.cell? ⟨gb, 1, none⟩ = some (.int .i64 a1) := (blk_cell BK.out 1).trans rfl; have hcz2 : w4.cell? ⟨gb, 2, none⟩ = some (.slice A bs.length c) := (blk_cell BK.out 2).trans rfl))
 have ha0 := fun o : Obj => pw_cell_below (below_alloc (Below.refl w4.heap.size w4) o) hcz0
 have ha1 := fun o : Obj => pw_cell_below (below_alloc (Below.refl w4.heap.size w4) o) hcz1
 have ha2 := fun o : Obj => pw_cell_below (below_alloc (Below.refl w4.heap.size w4) o) hcz2
 go_region
 generalize hW : World.drew _ = w5
 have hsz : (w4.alloc (.cells (madeCells #[.bool false] bs.length) 4)).heap.size = w4.heap.size + 1 := by simp
 have BG : w5.heap[w4.heap.size + 1]? = some (.cells #[.int .i64 a0, .int .i64 a1, .slice A bs.length c, .slice (some ⟨w4.heap.size, 0, none⟩) bs.length bs.length, .slice none 0 0] 62 (0, 0)) := by
  rw [← hW, ← hsz]; exact blk_new _ _
 have RS : Kd.R Kd.bool 4 w5 w.heap.size (fun _ => True) (.slice (some ⟨w4.heap.size, 0, none⟩) bs.length bs.length) (List.replicate bs.length false) := by
  rw [← hW]
  refine Kd.R_drew (Kd.R_alloc (Kd.R_of_own ?_ (fun _ _ => trivial)) _)
  exact own_made_of' w4 w.heap.size 4 bs.length (below_size HB.out) (by omega)
 have HB5 : Below w.heap.size w w5 := by
  rw [← hW]; exact below_drew (below_alloc (below_alloc HB.out _) _)
 have HS5 : WS w.heap.size w5 (w4.heap.size + 1) a0 a1 A bs.length c (.slice (some ⟨w4.heap.size, 0, none⟩) bs.length bs.length) (.slice none 0 0) (List.replicate bs.length false) [] := ⟨BG, RS, Kd.R_nil _ _ _ _ _⟩
 have HS5 := Aside0.mk HS5
 have HB5 := Aside0.mk HB5
 have HG5 := Aside0.mk (show w.heap.size ≤ w4.heap.size + 1 by have := below_size HB.out; omega)
 have hc2 : w5.cell? ⟨gb, 2, none⟩ = some (.slice A bs.length c) := by rw [← hW]; exact pw_cell_below (below_drew (below_alloc (below_alloc (Below.refl _ _) _) _)) hcz2
 clear hsz BG RS hW ha0 ha1 ha2 hcz0 hcz1 hcz2
 generalize w4.heap.size = g4 at HS5 HG5 ⊢
 have h := HE.out
 unfold walkO at h
 by_cases h0 : bs.length = 0
 ·rw [if_pos h0] at h
  obtain ⟨rfl, rfl⟩ := Prod.mk.inj (Option.some.inj h)
  have hd : decide ((0 : Int) < (bs.length : Int)) = false := decide_eq_false (by omega)
  have hd' : decide (0 < bs.length) = false := decide_eq_false (by omega)
  have H0 := Aside0.mk h0
  clear h0 h
  go_wp2
  go_ret
  have := HS5.out
  rw [H0.out] at this ⊢
  exact ⟨_, _, _, rfl, HG5.out, this, HB5.out⟩
 ·rw [if_neg h0] at h
  have hd : decide ((0 : Int) < (bs.length : Int)) = true := decide_eq_true (by omega)
  have hd' : decide (0 < bs.length) = true := decide_eq_true (by omega)
  have H := Aside0.mk h
  clear h0 h
  go_wp2_with (go_at_call 48; refine (into_calls bs k 0 (List.replicate bs.length false) [] seen left w _ _ a0 a1 A c _ _ HR.out hc HB5.out HG5.out HS5.out H.out).mono ?_; rintro e w6 ⟨rfl, hpost⟩; have HP := Aside0.mk hpost; clear hpost)
  go_ret
  obtain ⟨vl, hS, _, _, hB⟩ := HP.out
  exact ⟨_, _, _, rfl, HG5.out, hS, hB⟩
end Go.Proofs.Ytilopoegoddggaa.X
namespace Go.Proofs.Ytilopoegoddggaa.X
open Go.Shelf Go.RowKit Go.Proofs.YtilopoegoddggaaW.PrintWords Go.Proofs.YtilopoegoddggaaW.PrintLast Go.Proofs.YtilopoegoddggaaW.PrintMore
set_option linter.all false
def flow_Reached.f (a0_0 : Int) (a0_1 : Int) (l0_2 : List S50) : Option (List Bool) :=
 if l0_2.length ≤ 1000 then (walkO l0_2 (l0_2.length + 2)).map (·.1) else none
def flow_Order.f (a0_0 : Int) (a0_1 : Int) (l0_2 : List S50) : Option (List Int) :=
 if l0_2.length ≤ 1000 then (walkO l0_2 (l0_2.length + 2)).map (·.2.reverse) else none
theorem set_app {α : Type} (a : List α) (x y : α) (b : List α) : (a ++ x :: b).set a.length y = a ++ y :: b := by
 rw [List.set_append_right _ _ (Nat.le_refl _), Nat.sub_self]; rfl
theorem rd_app (a : List Int) (x : Int) (b : List Int) (i : Int) (h : i.toNat = a.length) : rd (a ++ x :: b) i = x := by
 simp [rd, h, List.getD_eq_getElem?_getD]
theorem rev_l0 (n : Nat) : ∀ (k : Nat) (a m b : List Int), m.length = n → n < k → (a ++ m ++ b).length ≤ 9223372036854775807 →
  slices_Reverse_int_int.l0 k (a ++ m ++ b) a.length (a.length + m.length - 1) = some (a ++ m.reverse ++ b) := by
 induction n using Nat.strongRecOn with
 | _ n ih =>
 intro k a m b hm hk hlen
 obtain ⟨k, rfl⟩ : ∃ q, k = q + 1 := ⟨k - 1, by omega⟩
 match m, hm with
 | [], _ =>
  simp only [slices_Reverse_int_int.l0]
  rw [if_neg (by simp; omega)]; simp
 | [y], _ =>
  simp only [slices_Reverse_int_int.l0]
  rw [if_neg (by simp)]; simp
 | y :: z :: r, hm =>
  obtain ⟨m', e, hme⟩ : ∃ m' e, z :: r = m' ++ [e] := ⟨(z :: r).dropLast, (z :: r).getLast (by simp), (List.dropLast_concat_getLast (by simp)).symm⟩
  rw [hme] at hm hlen ⊢
  have hl : (y :: (m' ++ [e])).length = m'.length + 2 := by simp
  have hj : (a.length : Int) + ((y :: (m' ++ [e])).length : Int) - 1 = a.length + m'.length + 1 := by rw [hl]; omega
  rw [hj]
  simp only [List.length_append, List.length_cons, List.length_nil] at hlen
  have hL : (a ++ y :: (m' ++ [e]) ++ b).length = a.length + m'.length + 2 + b.length := by simp; omega
  simp only [slices_Reverse_int_int.l0]
  rw [if_pos (by omega), if_pos (by omega), if_pos (by rw [hL]; omega), if_pos (by omega), if_pos (by rw [hL]; omega)]
  have e1 : a ++ y :: (m' ++ [e]) ++ b = (a ++ y :: m') ++ e :: b := by simp
  have r1 : rd (a ++ y :: (m' ++ [e]) ++ b) ((a.length : Int) + m'.length + 1) = e := by
   rw [e1]; exact rd_app _ _ _ _ (by simp; omega)
  have r2 : rd (a ++ y :: (m' ++ [e]) ++ b) (a.length : Int) = y := by
   rw [List.append_assoc]; exact rd_app _ _ _ _ (by simp)
  rw [r1, r2]
  have s1 : (a ++ y :: (m' ++ [e]) ++ b).set ((a.length : Int)).toNat e = a ++ e :: m' ++ e :: b := by
   rw [show ((a.length : Int)).toNat = a.length by simp, List.append_assoc]
   show (a ++ y :: (m' ++ [e] ++ b)).set a.length e = _
   rw [set_app]; simp
  rw [s1]
  have s2 : (a ++ e :: m' ++ e :: b).set ((a.length : Int) + m'.length + 1).toNat y = (a ++ [e]) ++ m' ++ (y :: b) := by
   rw [show ((a.length : Int) + m'.length + 1).toNat = (a ++ e :: m').length by simp; omega, set_app]; simp
  rw [s2]
  have w1 : wrap64 ((a.length : Int) + 1) = ((a ++ [e]).length : Int) := by simp [wrap64]; omega
  have w2 : wrap64 ((a.length : Int) + m'.length + 1 - 1) = ((a ++ [e]).length : Int) + m'.length - 1 := by simp [wrap64]; omega
  rw [w1, w2]
  have := ih m'.length (by simp at hm; omega) k (a ++ [e]) m' (y :: b) rfl (by simp at hm; omega) (by simp; omega)
  rw [this]; simp
theorem rev_eq (l : List Int) (k : Nat) (hk : l.length < k) (hl : l.length ≤ 9223372036854775807) : slices_Reverse_int_int.f k l = some l.reverse := by
 have := rev_l0 l.length k [] l [] rfl hk (by simpa using hl)
 unfold slices_Reverse_int_int.f
 simp only [List.nil_append, List.append_nil, List.length_nil, Int.natCast_zero, Int.zero_add] at this
 rw [show wrap64 ((l.length : Int) - 1) = (l.length : Int) - 1 by unfold wrap64; omega]
 exact this
set_option maxHeartbeats 8000000 in
set_option maxRecDepth 100000 in
theorem flow_Reached.calls (a0_0 : Int) (a0_1 : Int) (A0_2 : Option Addr) (c0_2 : Nat) (l0_2 : List S50) (r : List Bool) (w : World) (hr0_2 : Kd.C k50 w A0_2 l0_2.length l0_2) (hc0_2 : l0_2.length ≤ c0_2) (h : flow_Reached.f a0_0 a0_1 l0_2 = some r) :
  Calls Try.prog 19 #[.agg #[.int .i64 a0_0, .int .i64 a0_1, .slice A0_2 l0_2.length c0_2]] w fun e w' => ∃ v0_ : Value, e = .returned (v0_) ∧ Kd.R Kd.bool 4 w' w.heap.size (fun _ => True) v0_ r ∧ Below w.heap.size w w' := by
 unfold flow_Reached.f at h
 by_cases hl : l0_2.length ≤ 1000
 ·rw [if_pos hl] at h
  obtain ⟨s, hs, rfl⟩ := Option.map_eq_some_iff.1 h
  have HE := Aside0.mk hs
  have HR := Aside0.mk hr0_2
  clear h hs hr0_2
  have hu24 := Try.underlying24
  have hu62 := Try.underlying62
  go_enter Try.func19, Try.ntmps19
  go_wp2_with (first | ((with_reducible refine gate_dst (N := 1) rfl ?_); refine box_event ?hg (N := 1) ?hd (cs := #[.int .i64 a0_0, .int .i64 a0_1, .slice A0_2 l0_2.length c0_2]) (t := 24) ?hr ?_; (case hd => rfl); (case hg => rfl); (case hr => first | (go_simp; done) | (go_simp; rfl)); intro gb hg w4 hbox hb; have BK := Aside0.mk hbox; have HB := Aside0.mk hb; clear hbox hb hg; have hcz0 : w4.cell? ⟨gb, 0, none⟩ = some (.int .i64 a0_0) := (blk_cell BK.out 0).trans rfl; have hcz1 : w4.cell? ⟨gb, 1, none⟩ = some (.int .i64 a0_1) := (blk_cell BK.out 1).trans rfl; have hcz2 : w4.cell? ⟨gb, 2, none⟩ = some (.slice A0_2 l0_2.length c0_2) := (blk_cell BK.out 2).trans rfl) | (go_at_call 34; refine (walked_calls a0_0 a0_1 A0_2 c0_2 l0_2 _ s.1 s.2 w4 (Kd.C_below HR.out HB.out) hc0_2 hl HE.out).mono ?_; rintro e w5 ⟨g, vs, vl, rfl, hg, hS, hb⟩; obtain ⟨As, cs, hvs⟩ := Kd.R_slice hS.rs; subst hvs; have HS := Aside0.mk hS; have HB5 := Aside0.mk (below_step HB.out hb); have hz3 : w5.cell? ⟨g, 3, none⟩ = some (.slice As s.1.length cs) := (blk_cell HS.out.blk 3).trans rfl; clear hg hS hb))
  go_ret
  exact ⟨_, rfl, Kd.R_lower HS.out.rs (below_size HB.out), HB5.out⟩
 ·rw [if_neg hl] at h; cases h
set_option maxHeartbeats 8000000 in
set_option maxRecDepth 100000 in
theorem flow_Order.calls (a0_0 : Int) (a0_1 : Int) (A0_2 : Option Addr) (c0_2 : Nat) (l0_2 : List S50) (r : List Int) (w : World) (hr0_2 : Kd.C k50 w A0_2 l0_2.length l0_2) (hc0_2 : l0_2.length ≤ c0_2) (h : flow_Order.f a0_0 a0_1 l0_2 = some r) :
  Calls Try.prog 44 #[.agg #[.int .i64 a0_0, .int .i64 a0_1, .slice A0_2 l0_2.length c0_2]] w fun e w' => ∃ v0_ : Value, e = .returned (v0_) ∧ Kd.R (Kd.int .i64) 3 w' w.heap.size (fun _ => True) v0_ r ∧ Below w.heap.size w w' := by
 unfold flow_Order.f at h
 by_cases hl : l0_2.length ≤ 1000
 ·rw [if_pos hl] at h
  obtain ⟨s, hs, rfl⟩ := Option.map_eq_some_iff.1 h
  have HE := Aside0.mk hs
  have HR := Aside0.mk hr0_2
  clear h hs hr0_2
  have hu24 := Try.underlying24
  have hu62 := Try.underlying62
  go_enter Try.func44, Try.ntmps44
  go_wp2_with (first | ((with_reducible refine gate_dst (N := 1) rfl ?_); refine box_event ?hg (N := 1) ?hd (cs := #[.int .i64 a0_0, .int .i64 a0_1, .slice A0_2 l0_2.length c0_2]) (t := 24) ?hr ?_; (case hd => rfl); (case hg => rfl); (case hr => first | (go_simp; done) | (go_simp; rfl)); intro gb hg w4 hbox hb; have BK := Aside0.mk hbox; have HB := Aside0.mk hb; clear hbox hb hg; have hcz0 : w4.cell? ⟨gb, 0, none⟩ = some (.int .i64 a0_0) := (blk_cell BK.out 0).trans rfl; have hcz1 : w4.cell? ⟨gb, 1, none⟩ = some (.int .i64 a0_1) := (blk_cell BK.out 1).trans rfl; have hcz2 : w4.cell? ⟨gb, 2, none⟩ = some (.slice A0_2 l0_2.length c0_2) := (blk_cell BK.out 2).trans rfl) | (go_at_call 34; refine (walked_calls a0_0 a0_1 A0_2 c0_2 l0_2 _ s.1 s.2 w4 (Kd.C_below HR.out HB.out) hc0_2 hl HE.out).mono ?_; rintro e w5 ⟨g, vs, vl, rfl, hg, hS, hb⟩; obtain ⟨As, cs, hvs⟩ := Kd.R_slice hS.rl; subst hvs; have hlen := (Kd.R_reads' hS.rl).2.2.2.1; have HS := Aside0.mk hS; have HB5 := Aside0.mk (below_step HB.out hb); have hz4 : w5.cell? ⟨g, 4, none⟩ = some (.slice As s.2.length cs) := (blk_cell HS.out.blk 4).trans rfl; clear hg hS hb hcz0 hcz1 hcz2) | (go_at_call 52; refine (slices_Reverse_int_int.calls (s.2.length + 1) (fun _ => True) _ s.2 s.2.reverse w w5 HB5.out (Kd.R_lower HS.out.rl (below_size HB.out)) (rev_eq s.2 _ (by omega) hlen)).mono ?_; rintro e w6 ⟨rfl, ho, hb, _⟩; have HO := Aside0.mk ho; have HB6 := Aside0.mk hb; clear ho hb))
  go_ret
  exact ⟨_, rfl, Kd.R_mono HO.out (fun _ _ => trivial), HB6.out⟩
 ·rw [if_neg hl] at h; cases h
end Go.Proofs.Ytilopoegoddggaa.X
namespace Go.Proofs.Ytilopoegoddggaa.X
open Go.Shelf Go.RowKit Go.Proofs.YtilopoegoddggaaW.PrintWords Go.Proofs.YtilopoegoddggaaW.PrintLast Go.Proofs.YtilopoegoddggaaW.PrintMore
set_option linter.all false
def inL (l : List Int) (i : Int) : Prop := 0 ≤ i ∧ i < (l.length : Int)
instance (l : List Int) (i : Int) : Decidable (inL l i) := inferInstanceAs (Decidable (_ ∧ _))
def meetO (over place : List Int) : Nat → Nat → Int → Int → Option Int
 | 0, _, _, _ => none
 | k + 1, 0, a, b => if a = b then some a else meetO over place k 1 a b
 | k + 1, 1, a, b => if inL place a ∧ inL place b then (if rd place a > rd place b then (if inL over a then meetO over place k 1 (rd over a) b else none) else meetO over place k 2 a b) else none
 | k + 1, _ + 2, a, b => if inL place a ∧ inL place b then (if rd place b > rd place a then (if inL over b then meetO over place k 2 a (rd over b) else none) else meetO over place k 0 a b) else none
set_option maxHeartbeats 8000000 in
set_option maxRecDepth 100000 in
theorem meet_calls (over place : List Int) (k : Nat) (a b r : Int) (g : Nat) (Ao Ap : Option Addr) (co cp : Nat) (w : World)
  (hb : w.heap[g]? = some (.cells #[.slice Ao over.length co, .slice Ap place.length cp] 53 (0, 0))) (hro : Kd.C (Kd.int .i64) w Ao over.length over) (hrp : Kd.C (Kd.int .i64) w Ap place.length place) (h : meetO over place k 0 a b = some r) :
  Calls Try.prog 45 #[.pointer (some ⟨g, 0, none⟩), .int .i64 a, .int .i64 b] w fun e w' => e = .returned (.int .i64 r) ∧ Drawn0 w w' := by
 have HB := Aside0.mk hb
 have HRO := Aside0.mk hro
 have HRP := Aside0.mk hrp
 have HE := Aside0.mk h
 have hu53 := Try.underlying53
 have hz0 : w.cell? ⟨g, 0, none⟩ = some (.slice Ao over.length co) := (blk_cell HB.out 0).trans rfl
 have hz1 : w.cell? ⟨g, 1, none⟩ = some (.slice Ap place.length cp) := (blk_cell HB.out 1).trans rfl
 clear hb hro hrp h
 go_enter Try.func45, Try.ntmps45
 go_wp2
 go_loopg [1, 2] k (fun kq s1 s2 wr => ∃ a b : Int, s1 = .int .i64 a ∧ s2 = .int .i64 b ∧ Aside0 (meetO over place kq 0 a b = some r) ∧ Drawn0 w wr)
 case atStart => exact ⟨a, b, rfl, rfl, HE, Drawn0.refl _⟩
 case round =>
  clear HE
  obtain ⟨a, b, rfl, rfl, HX, ⟨m0, rfl⟩⟩ := hrel
  cases gk with
  | zero => exact absurd HX.out (by simp [meetO])
  | succ k1 =>
   have H := HX.out
   simp only [meetO] at H
   by_cases hab : a = b
   ·rw [if_pos hab] at H
    obtain rfl := Option.some.inj H
    have hd : (a != b) = false := bne_eq_false_iff_eq.mpr hab
    have hd2 : (a == b) = true := beq_iff_eq.mpr hab
    clear hab H
    go_wp2
    go_ret
    exact ⟨rfl, by repeat (first | exact Drawn0.refl _ | apply Drawn0.step)⟩
   ·rw [if_neg hab] at H
    have hd : (a != b) = true := bne_iff_ne.mpr hab
    have hd2 : (a == b) = false := beq_eq_false_iff_ne.mpr hab
    have H1 := Aside0.mk H
    have HD1 := Aside0.mk (show Drawn0 w (w.drewN m0) from by repeat (first | exact Drawn0.refl _ | apply Drawn0.step))
    clear hab H HX
    go_wp2
    clear hd hd2
    go_loopg [1] k1 (fun kq s wr' => ∃ x : Int, s = .int .i64 x ∧ Aside0 (meetO over place kq 1 x b = some r) ∧ Aside0 (kq ≤ k1) ∧ Drawn0 w wr')
    case atStart => exact ⟨a, rfl, ⟨H1.out⟩, ⟨Nat.le_refl _⟩, HD1.out⟩
    case round =>
     clear HD1
     obtain ⟨x, rfl, HX, HK, ⟨m1, rfl⟩⟩ := hrel
     cases gk with
     | zero => exact absurd HX.out (by simp [meetO])
     | succ j1 =>
      have H := HX.out
      simp only [meetO] at H
      by_cases hin : inL place x ∧ inL place b
      ·rw [if_pos hin] at H
       obtain ⟨⟨p0, q0⟩, ⟨p1, q1⟩⟩ := hin
       obtain ⟨ad, e1, hx⟩ := Kd.at_int HRP.out x p0 q0
       obtain ⟨ad', e2, hy⟩ := Kd.at_int HRP.out b p1 q1
       have ead := Option.some.inj (e1.symm.trans e2)
       subst ead
       clear e2
       cases e1
       have p0' := eq_true p0
       have q0' := eq_true q0
       have p1' := eq_true p1
       have q1' := eq_true q1
       clear p0 q0 p1 q1
       by_cases hgt : rd place x > rd place b
       ·rw [if_pos hgt] at H
        have hd : decide (rd place b < rd place x) = true := decide_eq_true hgt
        by_cases hio : inL over x
        ·rw [if_pos hio] at H
         obtain ⟨p2, q2⟩ := hio
         obtain ⟨ao, e3, hz⟩ := Kd.at_int HRO.out x p2 q2
         cases e3
         have p2' := eq_true p2
         have q2' := eq_true q2
         have H' := Aside0.mk H
         clear H hgt p2 q2
         go_wp2
         go_quiet (fail)
         go_wp2
         go_roundg j1
         case measure => have := HK.out; omega
         case rel => exact ⟨rd over x, rfl, H', ⟨by have := HK.out; omega⟩, by repeat (first | exact Drawn0.refl _ | apply Drawn0.step)⟩
        ·rw [if_neg hio] at H; cases H
       ·rw [if_neg hgt] at H
        have hd : decide (rd place b < rd place x) = false := decide_eq_false hgt
        have H' := Aside0.mk H
        clear H hgt
        go_wp2
        go_quiet (fail)
        go_wp2
        obtain ⟨a2, rfl⟩ : ∃ a2, a2 = x := ⟨_, rfl⟩
        have H2 := H'
        obtain ⟨k2, rfl⟩ : ∃ k2, k2 = j1 := ⟨_, rfl⟩
        have HK2 := Aside0.mk (show k2 < k1 + 1 by have := HK.out; omega)
        clear HX HK H' hd
        go_loopg [2] k2 (fun kq s wr' => ∃ x : Int, s = .int .i64 x ∧ Aside0 (meetO over place kq 2 a2 x = some r) ∧ Aside0 (kq ≤ k2) ∧ Drawn0 w wr')
        case atStart => exact ⟨b, rfl, ⟨H2.out⟩, ⟨Nat.le_refl _⟩, by repeat (first | exact Drawn0.refl _ | apply Drawn0.step)⟩
        case round =>
         obtain ⟨x, rfl, HX, HK, ⟨m2, rfl⟩⟩ := hrel
         cases gk with
         | zero => exact absurd HX.out (by simp [meetO])
         | succ j2 =>
          have H := HX.out
          simp only [meetO] at H
          by_cases hin : inL place a2 ∧ inL place x
          ·rw [if_pos hin] at H
           obtain ⟨⟨p0, q0⟩, ⟨p1, q1⟩⟩ := hin
           obtain ⟨ad, e1, hx⟩ := Kd.at_int HRP.out x p1 q1
           obtain ⟨ad', e2, hy⟩ := Kd.at_int HRP.out a2 p0 q0
           have ead := Option.some.inj (e1.symm.trans e2)
           subst ead
           clear e2
           cases e1
           have p0' := eq_true p0
           have q0' := eq_true q0
           have p1' := eq_true p1
           have q1' := eq_true q1
           clear p0 q0 p1 q1
           by_cases hgt : rd place x > rd place a2
           ·rw [if_pos hgt] at H
            have hd : decide (rd place a2 < rd place x) = true := decide_eq_true hgt
            by_cases hio : inL over x
            ·rw [if_pos hio] at H
             obtain ⟨p2, q2⟩ := hio
             obtain ⟨ao, e3, hz⟩ := Kd.at_int HRO.out x p2 q2
             cases e3
             have p2' := eq_true p2
             have q2' := eq_true q2
             have H' := Aside0.mk H
             clear H hgt p2 q2
             go_wp2
             go_quiet (fail)
             go_wp2
             go_roundg j2
             case measure => have := HK.out; omega
             case rel => exact ⟨rd over x, rfl, H', ⟨by have := HK.out; omega⟩, by repeat (first | exact Drawn0.refl _ | apply Drawn0.step)⟩
            ·rw [if_neg hio] at H; cases H
           ·rw [if_neg hgt] at H
            have hd : decide (rd place a2 < rd place x) = false := decide_eq_false hgt
            have H' := Aside0.mk H
            clear H hgt
            go_wp2
            go_quiet (fail)
            go_wp2
            go_roundg j2
            case measure => have := HK.out; have := HK2.out; omega
            case rel => exact ⟨a2, x, rfl, rfl, H', by repeat (first | exact Drawn0.refl _ | apply Drawn0.step)⟩
          ·rw [if_neg hin] at H; cases H
      ·rw [if_neg hin] at H; cases H
end Go.Proofs.Ytilopoegoddggaa.X
namespace Go.Proofs.Ytilopoegoddggaa.X
open Go.RowKit Go.Proofs.YtilopoegoddggaaW.PrintWords Go.Proofs.YtilopoegoddggaaW.PrintLast Go.Proofs.YtilopoegoddggaaW.PrintMore
attribute [local go_sem] max2_int min2_int max_two min_two max_three min_three max_four min_four
set_option linter.all false
noncomputable section
def slices_Index_int_int.l0 : Nat → List Int → Int → Int → Int → Option (Int)
 | 0, _, _, _, _ => none
 | k + 1, x0, x1, x7, x8 => if x8 < x7 then (if 0 ≤ x8 then (if x8 < (x0.length : Int) then (if x1 = (rd x0 x8) then (some x8) else (slices_Index_int_int.l0 k x0 x1 x7 (wrap64 (x8 + 1)))) else (none)) else (none)) else (some (-1))
def slices_Index_int_int.f (k : Nat) (l0 : List Int) (a1 : Int) : Option (Int) := slices_Index_int_int.l0 k l0 a1 (l0.length : Int) 0
theorem slices_Index_int_int.mono_l : ∀ k, (∀ y0 y1 y2 y3, LeO (slices_Index_int_int.l0 k y0 y1 y2 y3) (slices_Index_int_int.l0 (k + 1) y0 y1 y2 y3))
 | 0 => fun _ _ _ _ r h => by simp [slices_Index_int_int.l0] at h
 | k + 1 => by
  have ih0 := slices_Index_int_int.mono_l k
  ·intro y0 y1 y2 y3
   unfold slices_Index_int_int.l0
   repeat' first
   | (with_reducible exact ih0 _ _ _ _)
   | (with_reducible exact LeO.refl _)
   | (with_reducible exact LeO.none _)
   | (with_reducible refine LeO.ite ?_ ?_)
   | (with_reducible refine LeO.bind ?_ (fun _ => ?_))
   | exact ih0 _ _ _ _
   | exact LeO.none _
   | refine LeO.ite ?_ ?_
   | refine LeO.bind ?_ (fun _ => ?_)
theorem slices_Index_int_int.mono : ∀ a0 a1 k, LeO (slices_Index_int_int.f k a0 a1) (slices_Index_int_int.f (k + 1) a0 a1) := by
 intro a0 a1 k
 have ih0 := slices_Index_int_int.mono_l k
 unfold slices_Index_int_int.f
 repeat' first
   | (with_reducible exact ih0 _ _ _ _)
   | (with_reducible exact LeO.refl _)
   | (with_reducible exact LeO.none _)
   | (with_reducible refine LeO.ite ?_ ?_)
   | (with_reducible refine LeO.bind ?_ (fun _ => ?_))
   | exact ih0 _ _ _ _
   | exact LeO.none _
   | refine LeO.ite ?_ ?_
   | refine LeO.bind ?_ (fun _ => ?_)
set_option maxHeartbeats 8000000 in
set_option maxRecDepth 100000 in
theorem slices_Index_int_int.calls (k : Nat) (A0 : Option Addr) (c0 : Nat) (l0 : List Int) (a1 : Int) (r : Int) (w : World) (hr0 : Kd.C (Kd.int .i64) w A0 l0.length l0) (hc0 : l0.length ≤ c0) (h : slices_Index_int_int.f k l0 a1 = some r) :
  Calls Try.prog 51 #[.slice A0 l0.length c0, .int .i64 a1] w fun e w' => e = .returned (.int .i64 r) ∧ Drawn0 w w' := by
 have HR0 := Aside0.mk hr0
 have HC0 := Aside0.mk hc0
 clear hr0 hc0
 have H : (slices_Index_int_int.l0 k l0 a1 (l0.length : Int) 0) = some r := h
 clear h
 have H' := Aside0.mk H
 clear H
 go_enter Try.func51, Try.ntmps51
 go_wp2
 go_loopg [8] k (fun kq v8 w' => ∃ (x8_1 : Int), v8 = .int .i64 x8_1 ∧ Aside0 (slices_Index_int_int.l0 kq l0 a1 (l0.length : Int) x8_1 = some r) ∧ Aside0 (kq ≤ k) ∧ Drawn0 w w')
 case atStart => exact ⟨(0), (by first | rfl | (simp; done) | (simp [*]; done)), H', ⟨Nat.le_refl _⟩, by repeat (first | exact Drawn0.refl _ | apply Drawn0.step)⟩
 case round =>
  clear H'
  try clear p2
  obtain ⟨x8_1, rfl, HA, HK1, ⟨m1, rfl⟩⟩ := hrel
  cases gk with
  | zero => exact absurd HA.out (by simp [slices_Index_int_int.l0])
  | succ k1 =>
   have H := HA.out
   clear HA
   simp only [slices_Index_int_int.l0] at H
   by_cases c3 : x8_1 < (l0.length : Int)
   ·rw [if_pos c3] at H
    have c3b0 : decide (x8_1 < (l0.length : Int)) = true := decide_eq_true c3
    clear c3
    by_cases c4 : 0 ≤ x8_1
    ·rw [if_pos c4] at H
     have c4b0 : decide (0 ≤ x8_1) = true := decide_eq_true c4
     clear c4
     by_cases c5 : x8_1 < (l0.length : Int)
     ·rw [if_pos c5] at H
      have c5b0 : decide (x8_1 < (l0.length : Int)) = true := decide_eq_true c5
      clear c5
      by_cases c6 : a1 = (rd l0 x8_1)
      ·rw [if_pos c6] at H
       have c6b0 : (a1 == (rd l0 x8_1)) = true := beq_iff_eq.mpr c6
       have c6b1 : (a1 != (rd l0 x8_1)) = false := bne_eq_false_iff_eq.mpr c6
       clear c6
       obtain rfl := Option.some.inj H
       have p343 : 0 ≤ (x8_1 : Int) := of_decide_eq_true (by first | (with_reducible assumption) | assumption)
       have q343 : x8_1 < (l0.length : Int) := of_decide_eq_true (by first | (with_reducible assumption) | assumption)
       obtain ⟨ad343, e343, hx343_0⟩ := Kd.at_int HR0.out x8_1 p343 q343
       cases e343
       replace p343 := eq_true p343
       replace q343 := eq_true q343
       go_wp2
       go_ret
       exact ⟨by first | rfl | (simp; done) | (simp [*]; done), by repeat (first | exact Drawn0.refl _ | apply Drawn0.step)⟩
      ·rw [if_neg c6] at H
       have c6b0 : (a1 == (rd l0 x8_1)) = false := beq_eq_false_iff_ne.mpr c6
       have c6b1 : (a1 != (rd l0 x8_1)) = true := bne_iff_ne.mpr c6
       have H' := Aside0.mk H
       clear H
       have p343 : 0 ≤ (x8_1 : Int) := of_decide_eq_true (by first | (with_reducible assumption) | assumption)
       have q343 : x8_1 < (l0.length : Int) := of_decide_eq_true (by first | (with_reducible assumption) | assumption)
       obtain ⟨ad343, e343, hx343_0⟩ := Kd.at_int HR0.out x8_1 p343 q343
       cases e343
       replace p343 := eq_true p343
       replace q343 := eq_true q343
       go_wp2
       go_roundg k1
       case measure => have := HK1.out; omega
       case rel => exact ⟨(wrap64 (x8_1 + 1)), (by first | rfl | (simp; done) | (simp [*]; done)), H', ⟨by have := HK1.out; omega⟩, by repeat (first | exact Drawn0.refl _ | apply Drawn0.step)⟩
     ·rw [if_neg c5] at H
      exact absurd H (by simp)
    ·rw [if_neg c4] at H
     exact absurd H (by simp)
   ·rw [if_neg c3] at H
    have c3b0 : decide (x8_1 < (l0.length : Int)) = false := decide_eq_false c3
    clear c3
    obtain rfl := Option.some.inj H
    go_wp2
    go_ret
    exact ⟨by first | rfl | (simp; done) | (simp [*]; done), by repeat (first | exact Drawn0.refl _ | apply Drawn0.step)⟩
end
end Go.Proofs.Ytilopoegoddggaa.X
namespace Go.Proofs.Ytilopoegoddggaa.X
open Go.RowKit Go.Proofs.YtilopoegoddggaaW.PrintWords Go.Proofs.YtilopoegoddggaaW.PrintLast Go.Proofs.YtilopoegoddggaaW.PrintMore
attribute [local go_sem] max2_int min2_int max_two min_two max_three min_three max_four min_four
set_option linter.all false
noncomputable section
def slices_Contains_int_int.f (k : Nat) (l0 : List Int) (a1 : Int) : Option (Bool) := (slices_Index_int_int.f k l0 a1).bind fun t344 => (some (decide (t344 ≥ 0)))
theorem slices_Contains_int_int.mono : ∀ a0 a1 k, LeO (slices_Contains_int_int.f k a0 a1) (slices_Contains_int_int.f (k + 1) a0 a1) := by
 intro a0 a1 k
 unfold slices_Contains_int_int.f
 repeat' first
   | (with_reducible exact slices_Index_int_int.mono _ _ _)
   | (with_reducible exact LeO.refl _)
   | (with_reducible exact LeO.none _)
   | (with_reducible refine LeO.ite ?_ ?_)
   | (with_reducible refine LeO.bind ?_ (fun _ => ?_))
   | exact slices_Index_int_int.mono _ _ _
   | exact LeO.none _
   | refine LeO.ite ?_ ?_
   | refine LeO.bind ?_ (fun _ => ?_)
set_option maxHeartbeats 8000000 in
set_option maxRecDepth 100000 in
theorem slices_Contains_int_int.calls (k : Nat) (A0 : Option Addr) (c0 : Nat) (l0 : List Int) (a1 : Int) (r : Bool) (w : World) (hr0 : Kd.C (Kd.int .i64) w A0 l0.length l0) (hc0 : l0.length ≤ c0) (h : slices_Contains_int_int.f k l0 a1 = some r) :
  Calls Try.prog 43 #[.slice A0 l0.length c0, .int .i64 a1] w fun e w' => e = .returned (.bool r) ∧ Drawn0 w w' := by
 have HR0 := Aside0.mk hr0
 have HC0 := Aside0.mk hc0
 clear hr0 hc0
 have H : ((slices_Index_int_int.f k l0 a1).bind fun t344 => (some (decide (t344 ≥ 0)))) = some r := h
 clear h
 replace H := Option.bind_eq_some_iff.mp H
 obtain ⟨t344, A30, H⟩ := H
 replace H : (some (decide (t344 ≥ 0))) = some r := H
 have A3 := Aside0.mk A30
 clear A30
 obtain rfl := Option.some.inj H
 go_enter Try.func43, Try.ntmps43
 go_wp2_with (first | ((with_reducible refine gate_callee (f := 51) rfl ?_); refine goesL_ (some 7) rfl rfl Try.func51 (by kernel_rfl) rfl #[.slice A0 l0.length c0, .int .i64 a1] rfl (by (try simp only [List.map_toArray, List.map_cons, List.map_nil]); first | done | rfl | (simp only [List.length_drop, List.length_take]; rfl)) ?_; (with_reducible refine (slices_Index_int_int.calls k _ _ l0 a1 t344 _ ?side1 ?side2 A3.out).mono ?_); (case side1 => repeat (first | exact HR0.out | (with_reducible refine Kd.C_alloc ?_ _) | (with_reducible refine Kd.C_drewN ?_ _) | (with_reducible refine Kd.C_drew ?_))); (case side2 => exact HC0.out); rintro e w' ⟨rfl, ⟨nd, rfl⟩⟩; refine ⟨_, rfl, ?_⟩))
 go_ret
 exact ⟨by first | rfl | (simp; done) | (simp [*]; done), by repeat (first | exact Drawn0.refl _ | apply Drawn0.step)⟩
end
end Go.Proofs.Ytilopoegoddggaa.X
namespace Go.Proofs.Ytilopoegoddggaa.X
open Go.RowKit Go.Proofs.YtilopoegoddggaaW.PrintWords Go.Proofs.YtilopoegoddggaaW.PrintLast Go.Proofs.YtilopoegoddggaaW.PrintMore
attribute [local go_sem] max2_int min2_int max_two min_two max_three min_three max_four min_four
set_option linter.all false
noncomputable section
def flow_Before.l0 : Nat → Int → List Int → Int → Int → Int → Int → List (S50) → Option (List Int)
 | 0, _, _, _, _, _, _, _ => none
 | k + 1, x1, x5, x9, x10, x428000, x428001, x428002 => if x10 < x9 then ((flow_Next.f x428000 x428001 x428002 x10).bind fun t428 => ((slices_Contains_int_int.f k t428 x1).bind fun t431 => (if t431 = true then (if x5.length < 17592186044416 then (flow_Before.l0 k x1 (x5 ++ [x10]) x9 (wrap64 (x10 + 1)) x428000 x428001 x428002) else (none)) else (flow_Before.l0 k x1 x5 x9 (wrap64 (x10 + 1)) x428000 x428001 x428002)))) else (some x5)
def flow_Before.f (k : Nat) (a0_0 : Int) (a0_1 : Int) (l0_2 : List (S50)) (a1 : Int) : Option (List Int) := flow_Before.l0 k a1 ([] : List Int) (l0_2.length : Int) 0 a0_0 a0_1 l0_2
theorem flow_Before.mono_l : ∀ k, (∀ y0 y1 y2 y3 y4 y5 y6, LeO (flow_Before.l0 k y0 y1 y2 y3 y4 y5 y6) (flow_Before.l0 (k + 1) y0 y1 y2 y3 y4 y5 y6))
 | 0 => fun _ _ _ _ _ _ _ r h => by simp [flow_Before.l0] at h
 | k + 1 => by
  have ih0 := flow_Before.mono_l k
  ·intro y0 y1 y2 y3 y4 y5 y6
   unfold flow_Before.l0
   repeat' first
   | (with_reducible exact ih0 _ _ _ _ _ _ _)
   | (with_reducible exact slices_Contains_int_int.mono _ _ _)
   | (with_reducible exact LeO.refl _)
   | (with_reducible exact LeO.none _)
   | (with_reducible refine LeO.ite ?_ ?_)
   | (with_reducible refine LeO.bind ?_ (fun _ => ?_))
   | exact ih0 _ _ _ _ _ _ _
   | exact slices_Contains_int_int.mono _ _ _
   | exact LeO.none _
   | refine LeO.ite ?_ ?_
   | refine LeO.bind ?_ (fun _ => ?_)
theorem flow_Before.mono : ∀ a0 a1 a2 a3 k, LeO (flow_Before.f k a0 a1 a2 a3) (flow_Before.f (k + 1) a0 a1 a2 a3) := by
 intro a0 a1 a2 a3 k
 have ih0 := flow_Before.mono_l k
 unfold flow_Before.f
 repeat' first
   | (with_reducible exact ih0 _ _ _ _ _ _ _)
   | (with_reducible exact slices_Contains_int_int.mono _ _ _)
   | (with_reducible exact LeO.refl _)
   | (with_reducible exact LeO.none _)
   | (with_reducible refine LeO.ite ?_ ?_)
   | (with_reducible refine LeO.bind ?_ (fun _ => ?_))
   | exact ih0 _ _ _ _ _ _ _
   | exact slices_Contains_int_int.mono _ _ _
   | exact LeO.none _
   | refine LeO.ite ?_ ?_
   | refine LeO.bind ?_ (fun _ => ?_)
set_option maxHeartbeats 8000000 in
set_option maxRecDepth 100000 in
theorem flow_Before.calls (k : Nat) (a0_0 : Int) (a0_1 : Int) (A0_2 : Option Addr) (c0_2 : Nat) (l0_2 : List (S50)) (a1 : Int) (r : List Int) (w : World) (hr0_2 : Kd.C k50 w A0_2 l0_2.length l0_2) (hc0_2 : l0_2.length ≤ c0_2) (h : flow_Before.f k a0_0 a0_1 l0_2 a1 = some r) :
  Calls Try.prog 26 #[.agg #[.int .i64 a0_0, .int .i64 a0_1, .slice A0_2 l0_2.length c0_2], .int .i64 a1] w fun e w' => ∃ v0_ : Value, e = .returned (v0_) ∧ Kd.R (Kd.int .i64) 3 w' w.heap.size (fun _ => True) v0_ r ∧ Below w.heap.size w w' := by
 have hu24 := Try.underlying24
 have HR0_2 := Aside0.mk hr0_2
 have HC0_2 := Aside0.mk hc0_2
 clear hr0_2 hc0_2
 have HB := Aside0.mk (Below.refl w.heap.size w)
 have H : (flow_Before.l0 k a1 ([] : List Int) (l0_2.length : Int) 0 a0_0 a0_1 l0_2) = some r := h
 clear h
 have H' := Aside0.mk H
 clear H
 go_enter Try.func26, Try.ntmps26
 go_wp2_with (first | ((with_reducible refine gate_dst (N := 2) rfl ?_); refine box_event ?hg (N := 2) ?hd (cs := #[.int .i64 a0_0, .int .i64 a0_1, .slice A0_2 l0_2.length c0_2]) (t := 24) ?hr ?_; (case hd => rfl); (case hg => rfl); (case hr => first | (go_simp; done) | (go_simp; rfl)); intro gb427 hg w3 hbox hb; have n0_ := Aside0.mk (below_step (by repeat (first | (with_reducible first | exact HB.out | apply below_alloc | apply pw_below_drewN | apply below_drew1) | exact HB.out)) hb); have n1_ := Aside0.mk (hbox); have n2_ := Aside0.mk ((by rw [hg]; exact (below_size (by repeat (first | (with_reducible first | exact HB.out | apply below_alloc | apply pw_below_drewN | apply below_drew1) | exact HB.out))) : w.heap.size ≤ gb427)); have n3_ := Aside0.mk ((by rw [hg]; exact (below_size (by repeat (first | (with_reducible first | exact HB.out | apply below_alloc | apply pw_below_drewN | apply below_drew1) | exact HB.out))) : w.heap.size ≤ gb427)); clear HB; have HB := n0_; have BK427 := n1_; have GW427 := n2_; have GE427 := n3_; clear n0_ n1_ n2_ n3_; clear hb hbox hg; have hcz4_0 : w3.cell? ⟨gb427, 0, none⟩ = some (.int .i64 a0_0) := (blk_cell BK427.out 0).trans rfl; have hcz4_1 : w3.cell? ⟨gb427, 1, none⟩ = some (.int .i64 a0_1) := (blk_cell BK427.out 1).trans rfl; have hcz4_2 : w3.cell? ⟨gb427, 2, none⟩ = some (.slice A0_2 l0_2.length c0_2) := (blk_cell BK427.out 2).trans rfl; have hfz4_0 := blk_frozen BK427.out 0; have hfz4_1 := blk_frozen BK427.out 1; have hfz4_2 := blk_frozen BK427.out 2))
 go_loopg [5, 10] k (fun kq v5 v10 w' => ∃ (x5_1 : List Int) (x10_1 : Int), v10 = .int .i64 x10_1 ∧ Aside0 (flow_Before.l0 kq a1 x5_1 (l0_2.length : Int) x10_1 a0_0 a0_1 l0_2 = some r) ∧ Aside0 (kq ≤ k) ∧ Aside0 (Kd.R (Kd.int .i64) 3 w' w.heap.size (fun _ => True) v5 x5_1) ∧ Aside0 (w'.heap[gb427]? = some (.cells #[.int .i64 a0_0, .int .i64 a0_1, (.slice A0_2 l0_2.length c0_2)] 24 (0, 0))) ∧ Aside0 (Below w.heap.size w w'))
 case atStart => exact ⟨(([] : List Int)), (0), (by first | rfl | (simp; done) | (simp [*]; done)), H', ⟨Nat.le_refl _⟩, ⟨by first | exact Kd.R_nil _ _ _ _ _ | exact Kd.N_nil _ _ _ _ _ | exact Kd.V_nil _ _ _ _ _ | exact Kd.Q_nil _ _ _ _ _ | exact Kd.S_nil _ _ _ _ _⟩, ⟨by (with_reducible repeat (first | refine blk_drewN ?_ _ | refine blk_drew ?_ | refine blk_alloc ?_ _)); exact BK427.out⟩, ⟨by repeat (first | (with_reducible first | exact HB.out | apply below_alloc | apply pw_below_drewN | apply below_drew1 | refine below_set ?_ GE427.out) | exact HB.out)⟩⟩
 case round =>
  clear H'
  try clear c2
  try clear p2
  try clear hcz4_0
  try clear hcz4_1
  try clear hcz4_2
  try clear hfz4_0
  try clear hfz4_1
  try clear hfz4_2
  obtain ⟨x5_1, x10_1, rfl, HA, HK1, HO_5, BK427, HB⟩ := hrel
  cases gk with
  | zero => exact absurd HA.out (by simp [flow_Before.l0])
  | succ k1 =>
   have H := HA.out
   clear HA
   simp only [flow_Before.l0] at H
   by_cases c5 : x10_1 < (l0_2.length : Int)
   ·rw [if_pos c5] at H
    have c5b0 : decide (x10_1 < (l0_2.length : Int)) = true := decide_eq_true c5
    clear c5
    replace H := Option.bind_eq_some_iff.mp H
    obtain ⟨t428, A60, H⟩ := H
    replace H : ((slices_Contains_int_int.f k1 t428 a1).bind fun t431 => (if t431 = true then (if x5_1.length < 17592186044416 then (flow_Before.l0 k1 a1 (x5_1 ++ [x10_1]) (l0_2.length : Int) (wrap64 (x10_1 + 1)) a0_0 a0_1 l0_2) else (none)) else (flow_Before.l0 k1 a1 x5_1 (l0_2.length : Int) (wrap64 (x10_1 + 1)) a0_0 a0_1 l0_2))) = some r := H
    have A6 := Aside0.mk A60
    clear A60
    replace H := Option.bind_eq_some_iff.mp H
    obtain ⟨t431, A70, H⟩ := H
    replace H : (if t431 = true then (if x5_1.length < 17592186044416 then (flow_Before.l0 k1 a1 (x5_1 ++ [x10_1]) (l0_2.length : Int) (wrap64 (x10_1 + 1)) a0_0 a0_1 l0_2) else (none)) else (flow_Before.l0 k1 a1 x5_1 (l0_2.length : Int) (wrap64 (x10_1 + 1)) a0_0 a0_1 l0_2)) = some r := H
    have A7 := Aside0.mk A70
    clear A70
    by_cases c8 : t431 = true
    ·subst c8
     have H1 : (if x5_1.length < 17592186044416 then (flow_Before.l0 k1 a1 (x5_1 ++ [x10_1]) (l0_2.length : Int) (wrap64 (x10_1 + 1)) a0_0 a0_1 l0_2) else (none)) = some r := by rw [if_pos rfl] at H; exact H
     clear H
     have H := H1
     clear H1
     by_cases c9 : x5_1.length < 17592186044416
     ·rw [if_pos c9] at H
      have LMc9 := Aside0.mk c9
      clear c9
      obtain ⟨y432, hy432⟩ : ∃ y_ : List Int, y_ = (x5_1 ++ [x10_1]) := ⟨_, rfl⟩
      replace H : (flow_Before.l0 k1 a1 y432 (l0_2.length : Int) (wrap64 (x10_1 + 1)) a0_0 a0_1 l0_2) = some r := by first | (rw [hy432]; with_reducible exact H) | (have H2_ := (Option.bind_some _ _).symm.trans H; rw [hy432]; with_reducible exact H2_) | (have H2_ := (Option.bind_some _ _).symm.trans H; with_reducible exact H2_) | with_reducible exact H | (rw [hy432]; exact H) | exact H
      have Ny432 := Aside0.mk hy432
      clear hy432
      have H' := Aside0.mk H
      clear H
      have hcz10_0 : wr.cell? ⟨gb427, 0, none⟩ = some (.int .i64 a0_0) := (blk_cell BK427.out 0).trans rfl
      have hcz10_1 : wr.cell? ⟨gb427, 1, none⟩ = some (.int .i64 a0_1) := (blk_cell BK427.out 1).trans rfl
      have hcz10_2 : wr.cell? ⟨gb427, 2, none⟩ = some (.slice A0_2 l0_2.length c0_2) := (blk_cell BK427.out 2).trans rfl
      have hfz10_0 := blk_frozen BK427.out 0
      have hfz10_1 := blk_frozen BK427.out 1
      have hfz10_2 := blk_frozen BK427.out 2
      go_wp2_with (first | ((with_reducible refine gate_callee (f := 20) rfl ?_); refine goesL_ (some 15) rfl rfl Try.func20 (by kernel_rfl) rfl #[.agg #[.int .i64 a0_0, .int .i64 a0_1, .slice A0_2 l0_2.length c0_2], .int .i64 x10_1] rfl (by (try simp only [List.map_toArray, List.map_cons, List.map_nil]); first | done | rfl | (simp only [List.length_drop, List.length_take]; rfl)) ?_; (with_reducible refine (flow_Next.calls a0_0 a0_1 _ _ l0_2 x10_1 t428 _ ?side1 ?side2 A6.out).mono ?_); (case side1 => repeat (first | exact (Kd.C_below HR0_2.out HB.out) | (with_reducible refine Kd.C_alloc ?_ _) | (with_reducible refine Kd.C_drewN ?_ _) | (with_reducible refine Kd.C_drew ?_))); (case side2 => exact HC0_2.out); rintro e w11 ⟨v429, rfl, ho0, hb⟩; refine ⟨_, rfl, ?_⟩; have n0_ := Aside0.mk (Kd.R_elder' (by (with_reducible repeat (first | apply Kd.R_alloc | apply Kd.R_drewN | apply Kd.R_drew)); exact HO_5.out) (Kd.R_base ho0) hb); have n1_ := Aside0.mk (Kd.R_lower (Kd.R_new' ho0 (Kd.R_lt (by (with_reducible repeat (first | apply Kd.R_alloc | apply Kd.R_drewN | apply Kd.R_drew)); exact HO_5.out))) (below_size (by repeat (first | (with_reducible first | exact HB.out | apply below_alloc | apply pw_below_drewN | apply below_drew1 | refine below_set ?_ GE427.out) | exact HB.out)))); have n2_ := Aside0.mk (blk_below (g := gb427) (o := .cells #[.int .i64 a0_0, .int .i64 a0_1, .slice A0_2 l0_2.length c0_2] 24 (0, 0)) (by (with_reducible repeat (first | refine blk_drewN ?_ _ | refine blk_drew ?_ | refine blk_alloc ?_ _)); exact BK427.out) hb); have n3_ := Aside0.mk (below_step (by repeat (first | (with_reducible first | exact HB.out | apply below_alloc | apply pw_below_drewN | apply below_drew1 | refine below_set ?_ GE427.out) | exact HB.out)) hb); clear HO_5; clear BK427; clear HB; have HO_5 := n0_; have HO430 := n1_; have BK427 := n2_; have HB := n3_; clear n0_ n1_ n2_ n3_; (try clear hb); (try clear hb2); (try clear hk); (try clear hi); (try clear ho0); obtain ⟨Ao12, co12, eo12⟩ := Kd.R_slice HO430.out; subst eo12) | ((with_reducible refine gate_callee (f := 43) rfl ?_); refine goesL_ (some 17) rfl rfl Try.func43 (by kernel_rfl) rfl #[.slice Ao12 t428.length co12, .int .i64 a1] rfl (by (try simp only [List.map_toArray, List.map_cons, List.map_nil]); first | done | rfl | (simp only [List.length_drop, List.length_take]; rfl)) ?_; (with_reducible refine (slices_Contains_int_int.calls k1 _ _ t428 a1 true _ ?side1 ?side2 A7.out).mono ?_); (case side1 => repeat (first | exact (Kd.R_reads' HO430.out).2.2 | (with_reducible refine Kd.C_alloc ?_ _) | (with_reducible refine Kd.C_drewN ?_ _) | (with_reducible refine Kd.C_drew ?_))); (case side2 => exact (Kd.R_reads' HO430.out).2.1); rintro e w' ⟨rfl, ⟨nd, rfl⟩⟩; refine ⟨_, rfl, ?_⟩) | ((with_reducible refine gate_builtin (b := .append) (xs := #[.tmp 18, .tmp 20]) rfl ?_); at_builtin; refine Kd.R_append (Kd.int .i64) (w0 := w) w.heap.size rfl (.tmp 18) (.tmp 20) 27 3 (.int .i64 0) 8 rfl Try.underlying27 info3 rfl (by decide) (by omega) u5 x5_1 x10_1 [.int .i64 x10_1] (fun k_ => some k_ ≠ (.slice Ao12 t428.length co12 : Value).ownBlock) (fun _ => False) rfl rfl ?aP (fun _ hk => hk.elim) ?aF ?aO ?aB ?aS ?aL ?_; (case aP => exact rfl); (case aB => exact (by repeat (first | (with_reducible first | exact HB.out | apply below_alloc | apply pw_below_drewN | apply below_drew1 | refine below_set ?_ GE427.out) | exact HB.out))); (case aF => exact (fun k_ hk => Kd.fresh' (Kd.R_lt (by (with_reducible repeat (first | apply Kd.R_alloc | apply Kd.R_drewN | apply Kd.R_drew)); exact HO430.out)) k_ hk)); (case aO => exact (by (with_reducible repeat (first | apply Kd.R_alloc | apply Kd.R_drewN | apply Kd.R_drew)); exact Kd.R_mono HO_5.out (fun _ hk => hk.2))); (case aS => exact (below_size (by repeat (first | (with_reducible first | exact HB.out | apply below_alloc | apply pw_below_drewN | apply below_drew1 | refine below_set ?_ GE427.out) | exact HB.out)))); (case aL => have := LMc9.out; omega); intro v433 w13 ho hb hg hat; rw [← Ny432.out] at ho; have n0_ := Aside0.mk (blk_grown (g := gb427) (o := .cells #[.int .i64 a0_0, .int .i64 a0_1, .slice A0_2 l0_2.length c0_2] 24 (0, 0)) (by (with_reducible repeat (first | refine blk_drewN ?_ _ | refine blk_drew ?_ | refine blk_alloc ?_ _)); exact BK427.out) hg (Kd.R_ne HO_5.out BK427.out (by decide))); have n1_ := Aside0.mk (Kd.R_after (ok := (fun _ => True)) (by (with_reducible repeat (first | apply Kd.R_alloc | apply Kd.R_drewN | apply Kd.R_drew)); exact HO430.out) hg hat); have n2_ := Aside0.mk (hb); have n3_ := Aside0.mk (ho); clear BK427; clear HO430; clear HB; clear HO_5; have BK427 := n0_; have HO430 := n1_; have HB := n2_; have HO434 := n3_; clear n0_ n1_ n2_ n3_; clear ho hb hg hat))
      go_roundg k1
      case measure => have := HK1.out; omega
      case rel => exact ⟨(y432), (wrap64 (x10_1 + 1)), (by first | rfl | (simp; done) | (simp [*]; done)), H', ⟨by have := HK1.out; omega⟩, ⟨by (with_reducible repeat (first | apply Kd.R_alloc | apply Kd.R_drewN | apply Kd.R_drew)); exact Kd.R_mono HO434.out (fun _ hk => trivial)⟩, ⟨by (with_reducible repeat (first | refine blk_drewN ?_ _ | refine blk_drew ?_ | refine blk_alloc ?_ _)); exact BK427.out⟩, ⟨by repeat (first | (with_reducible first | exact HB.out | apply below_alloc | apply pw_below_drewN | apply below_drew1 | refine below_set ?_ GE427.out) | exact HB.out)⟩⟩
     ·rw [if_neg c9] at H
      exact absurd H (by simp)
    ·replace c8 := Bool.eq_false_iff.mpr c8
     subst c8
     have H1 : (flow_Before.l0 k1 a1 x5_1 (l0_2.length : Int) (wrap64 (x10_1 + 1)) a0_0 a0_1 l0_2) = some r := by rw [if_neg (show ¬ (false = true) by decide)] at H; exact H
     clear H
     have H := H1
     clear H1
     have H' := Aside0.mk H
     clear H
     have hcz14_0 : wr.cell? ⟨gb427, 0, none⟩ = some (.int .i64 a0_0) := (blk_cell BK427.out 0).trans rfl
     have hcz14_1 : wr.cell? ⟨gb427, 1, none⟩ = some (.int .i64 a0_1) := (blk_cell BK427.out 1).trans rfl
     have hcz14_2 : wr.cell? ⟨gb427, 2, none⟩ = some (.slice A0_2 l0_2.length c0_2) := (blk_cell BK427.out 2).trans rfl
     have hfz14_0 := blk_frozen BK427.out 0
     have hfz14_1 := blk_frozen BK427.out 1
     have hfz14_2 := blk_frozen BK427.out 2
     go_wp2_with (first | ((with_reducible refine gate_callee (f := 20) rfl ?_); refine goesL_ (some 15) rfl rfl Try.func20 (by kernel_rfl) rfl #[.agg #[.int .i64 a0_0, .int .i64 a0_1, .slice A0_2 l0_2.length c0_2], .int .i64 x10_1] rfl (by (try simp only [List.map_toArray, List.map_cons, List.map_nil]); first | done | rfl | (simp only [List.length_drop, List.length_take]; rfl)) ?_; (with_reducible refine (flow_Next.calls a0_0 a0_1 _ _ l0_2 x10_1 t428 _ ?side1 ?side2 A6.out).mono ?_); (case side1 => repeat (first | exact (Kd.C_below HR0_2.out HB.out) | (with_reducible refine Kd.C_alloc ?_ _) | (with_reducible refine Kd.C_drewN ?_ _) | (with_reducible refine Kd.C_drew ?_))); (case side2 => exact HC0_2.out); rintro e w15 ⟨v429, rfl, ho0, hb⟩; refine ⟨_, rfl, ?_⟩; have n0_ := Aside0.mk (Kd.R_elder' (by (with_reducible repeat (first | apply Kd.R_alloc | apply Kd.R_drewN | apply Kd.R_drew)); exact HO_5.out) (Kd.R_base ho0) hb); have n1_ := Aside0.mk (Kd.R_lower (Kd.R_new' ho0 (Kd.R_lt (by (with_reducible repeat (first | apply Kd.R_alloc | apply Kd.R_drewN | apply Kd.R_drew)); exact HO_5.out))) (below_size (by repeat (first | (with_reducible first | exact HB.out | apply below_alloc | apply pw_below_drewN | apply below_drew1 | refine below_set ?_ GE427.out) | exact HB.out)))); have n2_ := Aside0.mk (blk_below (g := gb427) (o := .cells #[.int .i64 a0_0, .int .i64 a0_1, .slice A0_2 l0_2.length c0_2] 24 (0, 0)) (by (with_reducible repeat (first | refine blk_drewN ?_ _ | refine blk_drew ?_ | refine blk_alloc ?_ _)); exact BK427.out) hb); have n3_ := Aside0.mk (below_step (by repeat (first | (with_reducible first | exact HB.out | apply below_alloc | apply pw_below_drewN | apply below_drew1 | refine below_set ?_ GE427.out) | exact HB.out)) hb); clear HO_5; clear BK427; clear HB; have HO_5 := n0_; have HO430 := n1_; have BK427 := n2_; have HB := n3_; clear n0_ n1_ n2_ n3_; (try clear hb); (try clear hb2); (try clear hk); (try clear hi); (try clear ho0); obtain ⟨Ao16, co16, eo16⟩ := Kd.R_slice HO430.out; subst eo16) | ((with_reducible refine gate_callee (f := 43) rfl ?_); refine goesL_ (some 17) rfl rfl Try.func43 (by kernel_rfl) rfl #[.slice Ao16 t428.length co16, .int .i64 a1] rfl (by (try simp only [List.map_toArray, List.map_cons, List.map_nil]); first | done | rfl | (simp only [List.length_drop, List.length_take]; rfl)) ?_; (with_reducible refine (slices_Contains_int_int.calls k1 _ _ t428 a1 false _ ?side1 ?side2 A7.out).mono ?_); (case side1 => repeat (first | exact (Kd.R_reads' HO430.out).2.2 | (with_reducible refine Kd.C_alloc ?_ _) | (with_reducible refine Kd.C_drewN ?_ _) | (with_reducible refine Kd.C_drew ?_))); (case side2 => exact (Kd.R_reads' HO430.out).2.1); rintro e w' ⟨rfl, ⟨nd, rfl⟩⟩; refine ⟨_, rfl, ?_⟩))
     go_roundg k1
     case measure => have := HK1.out; omega
     case rel => exact ⟨(x5_1), (wrap64 (x10_1 + 1)), (by first | rfl | (simp; done) | (simp [*]; done)), H', ⟨by have := HK1.out; omega⟩, ⟨by (with_reducible repeat (first | apply Kd.R_alloc | apply Kd.R_drewN | apply Kd.R_drew)); exact Kd.R_mono HO_5.out (fun _ hk => trivial)⟩, ⟨by (with_reducible repeat (first | refine blk_drewN ?_ _ | refine blk_drew ?_ | refine blk_alloc ?_ _)); exact BK427.out⟩, ⟨by repeat (first | (with_reducible first | exact HB.out | apply below_alloc | apply pw_below_drewN | apply below_drew1 | refine below_set ?_ GE427.out) | exact HB.out)⟩⟩
   ·rw [if_neg c5] at H
    have c5b0 : decide (x10_1 < (l0_2.length : Int)) = false := decide_eq_false c5
    clear c5
    obtain rfl := Option.some.inj H
    go_wp2
    go_ret
    exact ⟨_, by first | rfl | (simp [errW_none, errW_some] <;> rfl) | (simp [*, errW_none, errW_some] <;> rfl), by (with_reducible repeat (first | apply Kd.R_alloc | apply Kd.R_drewN | apply Kd.R_drew)); exact HO_5.out, by repeat (first | (with_reducible first | exact HB.out | apply below_alloc | apply pw_below_drewN | apply below_drew1 | refine below_set ?_ GE427.out) | exact HB.out)⟩
end
end Go.Proofs.Ytilopoegoddggaa.X
namespace Go.Proofs.Ytilopoegoddggaa.X
open Go.Shelf Go.RowKit Go.Proofs.YtilopoegoddggaaW.PrintWords Go.Proofs.YtilopoegoddggaaW.PrintLast Go.Proofs.YtilopoegoddggaaW.PrintMore
set_option linter.all false
def placeO : List Int → Int → List Int → Option (List Int)
 | [], _, p => some p
 | n :: r, i, p => if inL p n then placeO r (i + 1) (p.set n.toNat i) else none
def bestO (over place : List Int) (k : Nat) : List Int → Int → Option Int
 | [], b => some b
 | p :: r, b => if inL over p then (if rd over p < 0 then bestO over place k r b else if b < 0 then bestO over place k r p else (meetO over place k 0 p b).bind fun m => bestO over place k r m) else none
def rowO (a0 a1 : Int) (bs : List S50) (place : List Int) (k : Nat) : List Int → List Int → Bool → Option (List Int × Bool)
 | [], over, more => some (over, more)
 | n :: r, over, more => (flow_Before.f k a0 a1 bs n).bind fun ps => (bestO over place k ps (-1)).bind fun best => if inL over n then rowO a0 a1 bs place k r (over.set n.toNat best) (more || (rd over n != best)) else none
def roundsO (a0 a1 : Int) (bs : List S50) (place : List Int) (k : Nat) (ns : List Int) : Nat → List Int → Option (List Int)
 | 0, _ => none
 | j + 1, over => (rowO a0 a1 bs place k ns over false).bind fun q => if q.2 = true then roundsO a0 a1 bs place k ns j q.1 else some q.1
def grownO (a0 a1 : Int) (bs : List S50) (k : Nat) : Option (List Int) :=
 (flow_Order.f a0 a1 bs).bind fun order => (placeO order 0 (List.replicate bs.length 0)).bind fun place =>
  if order.length = 0 then some (List.replicate bs.length (-1))
  else if 0 < bs.length then (roundsO a0 a1 bs place k (order.drop 1) k ((List.replicate bs.length (-1 : Int)).set 0 0)).bind fun over => if 0 < over.length then some (over.set 0 (-1)) else none
  else none
structure GS (base : Nat) (W : World) (gb gt go gp : Nat) (a0 a1 : Int) (A : Option Addr) (n c : Nat) (over place : List Int) : Prop where
 bf : W.heap[gb]? = some (.cells #[.int .i64 a0, .int .i64 a1, .slice A n c] 24 (0, 0))
 bt : W.heap[gt]? = some (.cells #[.slice (some ⟨go, 0, none⟩) n n, .slice (some ⟨gp, 0, none⟩) n n] 53 (0, 0))
 ro : Kd.R (Kd.int .i64) 3 W base (fun k => k = go) (.slice (some ⟨go, 0, none⟩) n n) over
 rp : Kd.R (Kd.int .i64) 3 W base (fun k => k = gp) (.slice (some ⟨gp, 0, none⟩) n n) place
 ne : go ≠ gp
 ge : base ≤ gt
theorem GS.below {base : Nat} {W W' : World} {gb gt go gp : Nat} {a0 a1 : Int} {A : Option Addr} {n c : Nat} {over place : List Int} (h : GS base W gb gt go gp a0 a1 A n c over place) (hb : Below W.heap.size W W') : GS base W' gb gt go gp a0 a1 A n c over place :=
 ⟨blk_below h.bf hb, blk_below h.bt hb, Kd.R_below h.ro hb, Kd.R_below h.rp hb, h.ne, h.ge⟩
theorem GS.lenO {base : Nat} {W : World} {gb gt go gp : Nat} {a0 a1 : Int} {A : Option Addr} {n c : Nat} {over place : List Int} (h : GS base W gb gt go gp a0 a1 A n c over place) : over.length = n := (Kd.R_reads' h.ro).1.symm
theorem GS.lenP {base : Nat} {W : World} {gb gt go gp : Nat} {a0 a1 : Int} {A : Option Addr} {n c : Nat} {over place : List Int} (h : GS base W gb gt go gp a0 a1 A n c over place) : place.length = n := (Kd.R_reads' h.rp).1.symm
theorem GS.gbO {base : Nat} {W : World} {gb gt go gp : Nat} {a0 a1 : Int} {A : Option Addr} {n c : Nat} {over place : List Int} (h : GS base W gb gt go gp a0 a1 A n c over place) : base ≤ go := Kd.R_base h.ro go (by simp [Value.ownBlock])
theorem GS.gbP {base : Nat} {W : World} {gb gt go gp : Nat} {a0 a1 : Int} {A : Option Addr} {n c : Nat} {over place : List Int} (h : GS base W gb gt go gp a0 a1 A n c over place) : base ≤ gp := Kd.R_base h.rp gp (by simp [Value.ownBlock])
theorem GS.ltO {base : Nat} {W : World} {gb gt go gp : Nat} {a0 a1 : Int} {A : Option Addr} {n c : Nat} {over place : List Int} (h : GS base W gb gt go gp a0 a1 A n c over place) : go < W.heap.size := Kd.R_lt h.ro go (by simp [Value.ownBlock])
theorem GS.ltP {base : Nat} {W : World} {gb gt go gp : Nat} {a0 a1 : Int} {A : Option Addr} {n c : Nat} {over place : List Int} (h : GS base W gb gt go gp a0 a1 A n c over place) : gp < W.heap.size := Kd.R_lt h.rp gp (by simp [Value.ownBlock])
theorem GS.setO {base : Nat} {W : World} {gb gt go gp : Nat} {a0 a1 : Int} {A : Option Addr} {n c : Nat} {over place : List Int} (h : GS base W gb gt go gp a0 a1 A n c over place) (i x : Int) :
  GS base (W.setCell ⟨go, i.toNat, none⟩ (.int .i64 x)) gb gt go gp a0 a1 A n c (over.set i.toNat x) place := by
 have hp := Kd.R_putg h.ro i x
 exact ⟨blk_grown h.bf hp.2 (Kd.R_ne h.ro h.bf (by decide)), blk_grown h.bt hp.2 (Kd.R_ne h.ro h.bt (by decide)), hp.1, Kd.R_far h.rp (fun k hk => by rw [hk]; exact fun e => h.ne e.symm) _, h.ne, h.ge⟩
theorem GS.setP {base : Nat} {W : World} {gb gt go gp : Nat} {a0 a1 : Int} {A : Option Addr} {n c : Nat} {over place : List Int} (h : GS base W gb gt go gp a0 a1 A n c over place) (i x : Int) :
  GS base (W.setCell ⟨gp, i.toNat, none⟩ (.int .i64 x)) gb gt go gp a0 a1 A n c over (place.set i.toNat x) := by
 have hp := Kd.R_putg h.rp i x
 exact ⟨blk_grown h.bf hp.2 (Kd.R_ne h.rp h.bf (by decide)), blk_grown h.bt hp.2 (Kd.R_ne h.rp h.bt (by decide)), Kd.R_far h.ro (fun k hk => by rw [hk]; exact h.ne) _, hp.1, h.ne, h.ge⟩
theorem GS.draw {base : Nat} {W : World} {gb gt go gp : Nat} {a0 a1 : Int} {A : Option Addr} {n c : Nat} {over place : List Int} (h : GS base W gb gt go gp a0 a1 A n c over place) (m : Nat) : GS base (W.drewN m) gb gt go gp a0 a1 A n c over place := h.below (pw_below_drewN (Below.refl _ _) m)
theorem GS.c0 {base : Nat} {W : World} {gb gt go gp : Nat} {a0 a1 : Int} {A : Option Addr} {n c : Nat} {over place : List Int} (h : GS base W gb gt go gp a0 a1 A n c over place) : W.cell? ⟨gt, 0, none⟩ = some (.slice (some ⟨go, 0, none⟩) n n) := (blk_cell h.bt 0).trans rfl
theorem GS.c1 {base : Nat} {W : World} {gb gt go gp : Nat} {a0 a1 : Int} {A : Option Addr} {n c : Nat} {over place : List Int} (h : GS base W gb gt go gp a0 a1 A n c over place) : W.cell? ⟨gt, 1, none⟩ = some (.slice (some ⟨gp, 0, none⟩) n n) := (blk_cell h.bt 1).trans rfl
theorem GS.f0 {base : Nat} {W : World} {gb gt go gp : Nat} {a0 a1 : Int} {A : Option Addr} {n c : Nat} {over place : List Int} (h : GS base W gb gt go gp a0 a1 A n c over place) : W.cell? ⟨gb, 0, none⟩ = some (.int .i64 a0) := (blk_cell h.bf 0).trans rfl
theorem GS.f1 {base : Nat} {W : World} {gb gt go gp : Nat} {a0 a1 : Int} {A : Option Addr} {n c : Nat} {over place : List Int} (h : GS base W gb gt go gp a0 a1 A n c over place) : W.cell? ⟨gb, 1, none⟩ = some (.int .i64 a1) := (blk_cell h.bf 1).trans rfl
theorem GS.f2 {base : Nat} {W : World} {gb gt go gp : Nat} {a0 a1 : Int} {A : Option Addr} {n c : Nat} {over place : List Int} (h : GS base W gb gt go gp a0 a1 A n c over place) : W.cell? ⟨gb, 2, none⟩ = some (.slice A n c) := (blk_cell h.bf 2).trans rfl
theorem GS.rdO {base : Nat} {W : World} {gb gt go gp : Nat} {a0 a1 : Int} {A : Option Addr} {n c : Nat} {over place : List Int} (h : GS base W gb gt go gp a0 a1 A n c over place) (i : Int) (h0 : 0 ≤ i) (h1 : i < n) : W.cell? ⟨go, i.toNat, none⟩ = some (.int .i64 (rd over i)) ∧ W.frozen? ⟨go, i.toNat, none⟩ = false := Kd.R_celln (0 : Int) h.ro i h0 h1
theorem GS.rdP {base : Nat} {W : World} {gb gt go gp : Nat} {a0 a1 : Int} {A : Option Addr} {n c : Nat} {over place : List Int} (h : GS base W gb gt go gp a0 a1 A n c over place) (i : Int) (h0 : 0 ≤ i) (h1 : i < n) : W.cell? ⟨gp, i.toNat, none⟩ = some (.int .i64 (rd place i)) ∧ W.frozen? ⟨gp, i.toNat, none⟩ = false := Kd.R_celln (0 : Int) h.rp i h0 h1
theorem fill_step (n : Nat) (x : Int) (h0 : 0 ≤ x) (h1 : x < n) : (List.replicate x.toNat (-1 : Int) ++ List.replicate (n - x.toNat) 0).set x.toNat (-1) = List.replicate (x + 1).toNat (-1) ++ List.replicate (n - (x + 1).toNat) 0 := by
 obtain ⟨m, hm⟩ : ∃ m, n - x.toNat = m + 1 := ⟨n - x.toNat - 1, by omega⟩
 have e1 : (x + 1).toNat = x.toNat + 1 := by omega
 have e2 : n - (x.toNat + 1) = m := by omega
 rw [hm, e1, e2, List.replicate_succ, List.replicate_succ']
 have := set_app (List.replicate x.toNat (-1 : Int)) 0 (-1) (List.replicate m 0)
 rw [List.length_replicate] at this
 rw [this]; simp
end Go.Proofs.Ytilopoegoddggaa.X
namespace Go.Proofs.Ytilopoegoddggaa.X
open Go.Shelf Go.RowKit Go.Proofs.YtilopoegoddggaaW.PrintWords Go.Proofs.YtilopoegoddggaaW.PrintLast Go.Proofs.YtilopoegoddggaaW.PrintMore
set_option linter.all false
def GrownPost (a0 a1 : Int) (A : Option Addr) (n c : Nat) (r : List Int) (w : World) (e : Ending) (w' : World) : Prop :=
 ∃ gb gt go gp place, e = .returned (.pointer (some ⟨gt, 0, none⟩)) ∧ GS w.heap.size w' gb gt go gp a0 a1 A n c r place ∧ Below w.heap.size w w'
set_option maxHeartbeats 16000000 in
set_option maxRecDepth 100000 in
theorem grown_calls (a0 a1 : Int) (A : Option Addr) (c : Nat) (bs : List S50) (k : Nat) (r : List Int) (w : World) (hr : Kd.C k50 w A bs.length bs) (hc : bs.length ≤ c) (hl : bs.length ≤ 1000) (h : grownO a0 a1 bs k = some r) :
  Calls Try.prog 27 #[.agg #[.int .i64 a0, .int .i64 a1, .slice A bs.length c]] w (GrownPost a0 a1 A bs.length c r w) := by
 have HR := Aside0.mk hr
 have HE := Aside0.mk h
 clear hr h
 have hu24 := Try.underlying24
 have hu53 := Try.underlying53
 have hmk := print_make_of (P := Try.prog) 27 3 (.int .i64 0) 8 Try.underlying27 info3 rfl (by decide) bs.length (by omega)
 go_enter Try.func27, Try.ntmps27
 go_upto_region 1 with (first | ((with_reducible refine gate_dst (N := 1) rfl ?_); refine box_event ?hg (N := 1) ?hd (cs := #[.int .i64 a0, .int .i64 a1, .slice A bs.length c]) (t := 24) ?hr ?_; (case hd => rfl); (case hg => rfl); (case hr => first | (go_simp; done) | (go_simp; rfl)); intro gb hg w4 hbox hb; have BK := Aside0.mk hbox; have HB := Aside0.mk hb; have GE := Aside0.mk (show w.heap.size ≤ gb by omega); clear hbox hb hg; have hcz0 : w4.cell? ⟨gb, 0, none⟩ = some (.int .i64 a0) := (blk_cell BK.out 0).trans rfl; have hcz1 : w4.cell? ⟨gb, 1, none⟩ = some (.int .i64 a1) := (blk_cell BK.out 1).trans rfl; have hcz2 : w4.cell? ⟨gb, 2, none⟩ = some (.slice A bs.length c) := (blk_cell BK.out 2).trans rfl))
 have ha0 := fun o : Obj => pw_cell_below (below_alloc (Below.refl w4.heap.size w4) o) hcz0
 have ha1 := fun o : Obj => pw_cell_below (below_alloc (Below.refl w4.heap.size w4) o) hcz1
 have ha2 := fun o : Obj => pw_cell_below (below_alloc (Below.refl w4.heap.size w4) o) hcz2
 go_cut [3] (fun v3 wc => ∃ gt go gp : Nat, v3 = .pointer (some ⟨gt, 0, none⟩) ∧ Aside0 (GS w.heap.size wc gb gt go gp a0 a1 A bs.length c (List.replicate bs.length 0) (List.replicate bs.length 0)) ∧ Aside0 (Below w.heap.size w wc))
 case first =>
  go_region
  all_goals
   go_wp2
   go_meet
   case rel =>
    have hsz1 : ∀ o : Obj, (w4.alloc o).heap.size = w4.heap.size + 1 := fun o => by simp
    have hsz2 : ∀ o o' : Obj, ((w4.alloc o).alloc o').heap.size = w4.heap.size + 2 := fun o o' => by simp
    have hge := below_size HB.out
    have r1 : ∀ o : Obj, Kd.R (Kd.int .i64) 3 ((w4.alloc (.cells (madeCells #[.int .i64 0] bs.length) 3)).alloc o) w.heap.size (fun k => k = w4.heap.size) (.slice (some ⟨w4.heap.size, 0, none⟩) bs.length bs.length) (List.replicate bs.length 0) := fun o =>
     Kd.R_alloc (Kd.R_of_own (enc := Value.int .i64) (own_made_of' (d := (0 : Int)) w4 w.heap.size 3 bs.length hge (by omega)) (fun k hk => by simpa [Value.ownBlock] using hk.symm)) _
    have r2 : ∀ o : Obj, Kd.R (Kd.int .i64) 3 ((w4.alloc o).alloc (.cells (madeCells #[.int .i64 0] bs.length) 3)) w.heap.size (fun k => k = w4.heap.size + 1) (.slice (some ⟨w4.heap.size + 1, 0, none⟩) bs.length bs.length) (List.replicate bs.length 0) := fun o => by
     have := Kd.R_of_own (enc := Value.int .i64) (h1 := fun _ => rfl) (ok := fun k => k = w4.heap.size + 1) (own_made_of' (d := (0 : Int)) (w4.alloc o) w.heap.size 3 bs.length (by rw [hsz1]; omega) (by omega)) (fun k hk => by rw [hsz1] at hk; simpa [Value.ownBlock] using hk.symm)
     rwa [hsz1] at this
    first
     | exact ⟨_, w4.heap.size, w4.heap.size + 1, rfl, ⟨⟨blk_below BK.out (below_drew (below_alloc (below_alloc (below_alloc (Below.refl _ _) _) _) _)), (by rw [show w4.heap.size + 1 + 1 = ((w4.alloc (.cells (madeCells #[.int .i64 0] bs.length) 3)).alloc (.cells (madeCells #[.int .i64 0] bs.length) 3)).heap.size from (hsz2 _ _).symm]; exact blk_new _ _), Kd.R_drew (Kd.R_alloc (r1 _) _), Kd.R_drew (Kd.R_alloc (r2 _) _), by omega, by omega⟩⟩, ⟨below_drew (below_alloc (below_alloc (below_alloc HB.out _) _) _)⟩⟩
     | exact ⟨_, w4.heap.size + 1, w4.heap.size, rfl, ⟨⟨blk_below BK.out (below_drew (below_alloc (below_alloc (below_alloc (Below.refl _ _) _) _) _)), (by rw [show w4.heap.size + 1 + 1 = ((w4.alloc (.cells (madeCells #[.int .i64 0] bs.length) 3)).alloc (.cells (madeCells #[.int .i64 0] bs.length) 3)).heap.size from (hsz2 _ _).symm]; exact blk_new _ _), Kd.R_drew (Kd.R_alloc (r2 _) _), Kd.R_drew (Kd.R_alloc (r1 _) _), by omega, by omega⟩⟩, ⟨below_drew (below_alloc (below_alloc (below_alloc HB.out _) _) _)⟩⟩
 case rest =>
  clear ha0 ha1 ha2 hcz0 hcz1 hcz2 hmk BK GE HB
  obtain ⟨gt, go, gp, rfl, HS, HB⟩ := hcut
  have hc0 := HS.out.c0
  go_wp2
  clear hc0
  go_loopg [29] bs.length (fun gg s29 wr => ∃ x : Int, s29 = .int .i64 x ∧ Aside0 (0 ≤ x ∧ x ≤ bs.length ∧ bs.length - x ≤ gg) ∧ Aside0 (GS w.heap.size wr gb gt go gp a0 a1 A bs.length c (List.replicate x.toNat (-1) ++ List.replicate (bs.length - x.toNat) 0) (List.replicate bs.length 0)) ∧ Aside0 (Below w.heap.size w wr))
  case atStart => exact ⟨0, rfl, ⟨by omega⟩, ⟨by simpa using HS.out⟩, HB⟩
  case round =>
   clear HS HB
   obtain ⟨x, rfl, HX, HS, HB⟩ := hrel
   obtain ⟨x0, x1, xg⟩ := HX.out
   by_cases hlt : x < (bs.length : Int)
   ·have hd : decide (x < (bs.length : Int)) = true := decide_eq_true hlt
    have hc0 := HS.out.c0
    obtain ⟨hx, hf⟩ := HS.out.rdO x x0 hlt
    have p0 := eq_true x0
    have q0 := eq_true hlt
    have HN := Aside0.mk hlt
    clear x0 hlt x1 xg
    go_wp2
    go_roundg (bs.length - (x.toNat + 1))
    case measure => have := HX.out; have := HN.out; omega
    case rel =>
     have hw : wrap64 (x + 1) = x + 1 := wrap64_small _ (by have := HX.out; omega) (by have := HN.out; omega)
     refine ⟨x + 1, by rw [hw], ⟨by have := HX.out; have := HN.out; omega⟩, ⟨?_⟩, ⟨below_set HB.out HS.out.gbO⟩⟩
     have := HS.out.setO x (-1)
     rwa [fill_step bs.length x HX.out.1 HN.out] at this
   ·have hd : decide (x < (bs.length : Int)) = false := decide_eq_false hlt
    have hxe : x.toNat = bs.length := by omega
    rw [hxe] at HS
    simp only [Nat.sub_self, List.replicate_zero, List.append_nil] at HS
    clear x0 hlt x1 xg hxe HX
    have hf0 := HS.out.f0
    have hf1 := HS.out.f1
    have hf2 := HS.out.f2
    have hE := HE.out
    unfold grownO at hE
    cases ho : flow_Order.f a0 a1 bs with
    | none => rw [ho] at hE; cases hE
    | some order =>
    rw [ho, Option.bind_some] at hE
    cases hpl : placeO order 0 (List.replicate bs.length 0) with
    | none => rw [hpl] at hE; cases hE
    | some place =>
    rw [hpl, Option.bind_some] at hE
    have HO := Aside0.mk ho
    have HP := Aside0.mk hpl
    have HE2 := Aside0.mk hE
    clear ho hpl hE HE
    go_wp2_with (go_at_call 44; refine (flow_Order.calls a0 a1 A c bs order _ (Kd.C_below HR.out HB.out) hc HO.out).mono ?_; rintro e w7 ⟨v5, rfl, ho, hb⟩; obtain ⟨A5, c5, rfl, hc5, hC5⟩ := Kd.R_reads ho; have hm5 := hC5.2.1; have HV := Aside0.mk (show Kd.R (Kd.int .i64) 3 w7 w.heap.size (fun q => q ≠ go ∧ q ≠ gp) (.slice A5 order.length c5) order from Kd.R_lower (Kd.R_mono (Kd.R_bound ho) (fun q hq => ⟨fun e => by have := HS.out.ltO; have := hq.2.1; omega, fun e => by have := HS.out.ltP; have := hq.2.1; omega⟩)) (below_size HB.out)); have HS7 := Aside0.mk (HS.out.below hb); have HB7 := Aside0.mk (below_step HB.out hb); clear ho hb hC5 hf0 hf1 hf2 hd)
    have HP7 := Aside0.mk (show placeO (order.drop (0 : Int).toNat) 0 (List.replicate bs.length 0) = some place from by simpa using HP.out)
    clear HP HS HB
    go_loopg [43] order.length (fun gg s43 wr => ∃ (x : Int) (pl : List Int), s43 = .int .i64 x ∧ Aside0 (0 ≤ x ∧ x ≤ order.length ∧ order.length - x ≤ gg) ∧ Aside0 (placeO (order.drop x.toNat) x pl = some place) ∧ Aside0 (GS w.heap.size wr gb gt go gp a0 a1 A bs.length c (List.replicate bs.length (-1)) pl) ∧ Aside0 (Kd.R (Kd.int .i64) 3 wr w.heap.size (fun q => q ≠ go ∧ q ≠ gp) (.slice A5 order.length c5) order) ∧ Aside0 (Below w.heap.size w wr))
    case atStart => exact ⟨0, _, rfl, ⟨by omega⟩, HP7, HS7, HV, HB7⟩
    case round =>
     clear HS7 HB7 HV HP7
     obtain ⟨x, pl, rfl, HX, HP, HS, HV, HB⟩ := hrel
     obtain ⟨x0, x1, xg⟩ := HX.out
     by_cases hlt : x < (order.length : Int)
     ·have hd : decide (x < (order.length : Int)) = true := decide_eq_true hlt
      obtain ⟨ad, e1, hx⟩ := Kd.at_int (Kd.R_reads' HV.out).2.2 x x0 hlt
      cases e1
      have hF := HP.out
      rw [List.drop_eq_getElem_cons (show x.toNat < order.length by omega), placeO] at hF
      have hel : order[x.toNat]'(by omega) = rd order x := by simp [rd, List.getD_eq_getElem?_getD, List.getElem?_eq_getElem (show x.toNat < order.length by omega)]
      rw [hel] at hF
      by_cases hin : inL pl (rd order x)
      ·rw [if_pos hin] at hF
       obtain ⟨p2, q2⟩ := hin
       rw [HS.out.lenP] at q2
       have hc1 := HS.out.c1
       obtain ⟨hy, hf⟩ := HS.out.rdP (rd order x) p2 q2
       have HF := Aside0.mk hF
       have HN := Aside0.mk (And.intro hlt (And.intro p2 q2))
       have p0' := eq_true x0
       have q0' := eq_true hlt
       have p2' := eq_true p2
       have q2' := eq_true q2
       clear hF hel x0 hlt p2 q2 x1 xg
       go_wp2
       go_roundg (order.length - (x.toNat + 1))
       case measure => have := HX.out; have := HN.out; omega
       case rel =>
        have hw : wrap64 (x + 1) = x + 1 := wrap64_small _ (by have := HX.out; omega) (by have := HN.out; omega)
        refine ⟨x + 1, pl.set (rd order x).toNat x, by rw [hw], ⟨by have := HX.out; have := HN.out; omega⟩, ⟨?_⟩, ⟨HS.out.setP _ _⟩, ⟨Kd.R_far HV.out (fun q hq => hq.2) _⟩, ⟨below_set HB.out HS.out.gbP⟩⟩
        rw [show (x + 1).toNat = x.toNat + 1 by have := HX.out; omega]
        exact HF.out
      ·rw [if_neg hin] at hF; cases hF
     ·have hd : decide (x < (order.length : Int)) = false := decide_eq_false hlt
      have hF := HP.out
      rw [List.drop_eq_nil_of_le (by omega), placeO] at hF
      obtain rfl := Option.some.inj hF
      have hE := HE2.out
      clear x0 hlt x1 xg HX HP hF
      by_cases h0 : order.length = 0
      ·rw [if_pos h0] at hE
       have HQ := Aside0.mk (Option.some.inj hE)
       have hd2 : ((order.length : Int) == 0) = true := beq_iff_eq.mpr (by omega)
       have hd3 : (order.length == 0) = true := beq_iff_eq.mpr h0
       clear hE h0
       go_wp2
       go_ret
       exact ⟨gb, gt, go, gp, pl, rfl, by rw [← HQ.out]; exact HS.out, HB.out⟩
      ·rw [if_neg h0] at hE
       by_cases hb0 : 0 < bs.length
       ·rw [if_pos hb0] at hE
        have hd2 : ((order.length : Int) == 0) = false := beq_eq_false_iff_ne.mpr (by omega)
        have hd3 : (order.length == 0) = false := beq_eq_false_iff_ne.mpr h0
        cases hrs : roundsO a0 a1 bs pl k (order.drop 1) k ((List.replicate bs.length (-1 : Int)).set 0 0) with
        | none => rw [hrs] at hE; cases hE
        | some ov =>
        rw [hrs, Option.bind_some] at hE
        have HE3 := Aside0.mk hE
        have HRS := Aside0.mk hrs
        have H0 := Aside0.mk (And.intro h0 hb0)
        have hc0 := HS.out.c0
        obtain ⟨hy, hf⟩ := HS.out.rdO 0 (by omega) (by omega)
        have q9 : ((0 : Int) < (bs.length : Int)) = True := eq_true (by omega)
        have q8 : (0 < bs.length) = True := eq_true hb0
        rw [show (0 : Int).toNat = 0 from rfl] at hy hf
        have HS9 := Aside0.mk (show GS w.heap.size (wr.setCell ⟨go, 0, none⟩ (.int .i64 0)) gb gt go gp a0 a1 A bs.length c ((List.replicate bs.length (-1 : Int)).set 0 0) pl from HS.out.setO 0 0)
        have HB9 := Aside0.mk (below_set (j := 0) (v := .int .i64 0) HB.out HS.out.gbO)
        have HV9 := Aside0.mk (Kd.R_far (p := ⟨go, 0, none⟩) HV.out (fun q hq => hq.1) (.int .i64 0))
        clear hE hrs h0 hb0 HE2
        go_wp2
        obtain ⟨i0, hi0, hzz⟩ := Option.map_eq_some_iff.1 info3
        have hsz0 : i0.size = 1 := by simp only [Prod.mk.injEq] at hzz; exact hzz.2.1
        obtain ⟨A6, hcut, HA6⟩ : ∃ A6 : Option Addr, (∀ W : World, (Instr.slice 27 (.slice A5 order.length c5) (some (.int .i64 1)) none none).run Try.prog W = .ok (.slice A6 (order.drop 1).length (c5 - 1)) W) ∧ Aside0 (∀ W : World, Kd.C (Kd.int .i64) W A5 order.length order → Kd.C (Kd.int .i64) W A6 (order.drop 1).length (order.drop 1)) := by
         refine ⟨_, fun W => ?_, ⟨fun W hC => Kd.C_drop hC (by have := H0.out; omega) hc5⟩⟩
         have := cut_from (P := Try.prog) 27 3 .i64 Try.underlying27 hi0 1 hsz0 A5 order.length c5 1 (by omega) (by have := H0.out; omega) W
         rw [List.length_drop]
         exact this
        clear hzz hsz0 hi0
        obtain ⟨tl, htl⟩ : ∃ tl, order.drop 1 = tl := ⟨_, rfl⟩
        rw [htl] at hcut HA6 HRS
        have htlm : tl.length ≤ 9223372036854775807 := by rw [← htl, List.length_drop]; omega
        have HTL := Aside0.mk htl
        clear htl q9 q8 hy hf hc0 hd2 hd3 hd HB HS HV
        go_loopg [8] k (fun gg s8 wr => ∃ (more : Bool) (o : List Int), s8 = .bool more ∧ Aside0 (more = true → roundsO a0 a1 bs pl k tl gg o = some ov) ∧ Aside0 (more = false → o = ov) ∧ Aside0 (GS w.heap.size wr gb gt go gp a0 a1 A bs.length c o pl) ∧ Aside0 (Kd.R (Kd.int .i64) 3 wr w.heap.size (fun q => q ≠ go ∧ q ≠ gp) (.slice A5 order.length c5) order) ∧ Aside0 (Below w.heap.size w wr))
        case atStart => exact ⟨true, _, rfl, ⟨fun _ => HRS.out⟩, ⟨fun h => by cases h⟩, HS9, HV9, HB9⟩
        case round =>
         clear HS9 HV9 HB9 HRS
         obtain ⟨more, o, rfl, HM1, HM0, HS, HV, HB⟩ := hrel
         cases more with
         | false =>
          have ho := HM0.out rfl
          subst ho
          have hE := HE3.out
          have hlo := HS.out.lenO
          rw [if_pos (by have := H0.out; omega)] at hE
          have HQ := Aside0.mk (Option.some.inj hE)
          have hc0 := HS.out.c0
          obtain ⟨hy, hf⟩ := HS.out.rdO 0 (by omega) (by have := H0.out; omega)
          rw [show (0 : Int).toNat = 0 from rfl] at hy hf
          have q9 : ((0 : Int) < (bs.length : Int)) = True := eq_true (by have := H0.out; omega)
          have q8 : (0 < bs.length) = True := eq_true H0.out.2
          have HS9 := Aside0.mk (show GS w.heap.size (wr.setCell ⟨go, 0, none⟩ (.int .i64 (-1))) gb gt go gp a0 a1 A bs.length c (o.set 0 (-1)) pl from HS.out.setO 0 (-1))
          have HB9 := Aside0.mk (below_set (j := 0) (v := .int .i64 (-1)) HB.out HS.out.gbO)
          clear hE hlo
          go_wp2
          go_ret
          exact ⟨gb, gt, go, gp, pl, rfl, by rw [← HQ.out]; exact HS9.out, HB9.out⟩
         | true =>
          cases gk with
          | zero => exact absurd (HM1.out rfl) (by simp [roundsO])
          | succ j =>
          have hM := HM1.out rfl
          rw [roundsO] at hM
          cases hrow : rowO a0 a1 bs pl k tl o false with
          | none => rw [hrow] at hM; cases hM
          | some q =>
          obtain ⟨o2, m2⟩ := q
          rw [hrow, Option.bind_some] at hM
          have HM2 := Aside0.mk hM
          have HROW := Aside0.mk hrow
          clear hM hrow HM1 HM0
          go_wp2
          go_loopg [8, 69] tl.length (fun gg s8 s69 wr => ∃ (x : Int) (more : Bool) (o : List Int), s8 = .bool more ∧ s69 = .int .i64 x ∧ Aside0 (0 ≤ x ∧ x ≤ tl.length ∧ tl.length - x ≤ gg) ∧ Aside0 (rowO a0 a1 bs pl k (tl.drop x.toNat) o more = some (o2, m2)) ∧ Aside0 (GS w.heap.size wr gb gt go gp a0 a1 A bs.length c o pl) ∧ Aside0 (Kd.R (Kd.int .i64) 3 wr w.heap.size (fun q => q ≠ go ∧ q ≠ gp) (.slice A5 order.length c5) order) ∧ Aside0 (Below w.heap.size w wr))
          case atStart => exact ⟨0, false, o, rfl, rfl, ⟨by omega⟩, HROW, HS, HV, HB⟩
          case round =>
           clear HS HV HB HROW
           obtain ⟨x, more, o, rfl, rfl, HX, HROW, HS, HV, HB⟩ := hrel
           obtain ⟨x0, x1, xg⟩ := HX.out
           by_cases hlt : x < (tl.length : Int)
           ·have hd : decide (x < (tl.length : Int)) = true := decide_eq_true hlt
            obtain ⟨ad, e1, hx⟩ := Kd.at_int (HA6.out wr (Kd.R_reads' HV.out).2.2) x x0 hlt
            cases e1
            have hF := HROW.out
            rw [List.drop_eq_getElem_cons (show x.toNat < tl.length by omega), rowO] at hF
            have hel : tl[x.toNat]'(by omega) = rd tl x := by simp [rd, List.getD_eq_getElem?_getD, List.getElem?_eq_getElem (show x.toNat < tl.length by omega)]
            rw [hel] at hF
            cases hbe : flow_Before.f k a0 a1 bs (rd tl x) with
            | none => rw [hbe] at hF; cases hF
            | some ps =>
            rw [hbe, Option.bind_some] at hF
            cases hbst : bestO o pl k ps (-1) with
            | none => rw [hbst] at hF; cases hF
            | some best =>
            rw [hbst, Option.bind_some] at hF
            by_cases hin : inL o (rd tl x)
            ·rw [if_pos hin] at hF
             obtain ⟨p2, q2⟩ := hin
             rw [HS.out.lenO] at q2
             have HF := Aside0.mk hF
             have HBE := Aside0.mk hbe
             have HBST := Aside0.mk hbst
             have HN := Aside0.mk (And.intro hlt (And.intro p2 q2))
             have hf0 := HS.out.f0
             have hf1 := HS.out.f1
             have hf2 := HS.out.f2
             have p0' := eq_true x0
             have q0' := eq_true hlt
             have p2' := eq_true p2
             have q2' := eq_true q2
             clear hF hel hbe hbst x0 hlt p2 q2 x1 xg HROW
             go_wp2_with (go_at_call 26; refine (flow_Before.calls k a0 a1 A c bs (rd tl x) ps _ (Kd.C_below HR.out HB.out) hc HBE.out).mono ?_; rintro e w8 ⟨v75, rfl, ho, hb⟩; obtain ⟨A7, c7, rfl, hc7, hC7⟩ := Kd.R_reads ho; have hm7 := hC7.2.1; have H7 := Aside0.mk hC7; have n0_ := Aside0.mk (HS.out.below hb); have n1_ := Aside0.mk (Kd.R_below HV.out hb); have n2_ := Aside0.mk (below_step HB.out hb); clear HS HV HB hf0 hf1 hf2 ho hb hC7 hx; have HS := n0_; have HV := n1_; have HB := n2_; clear n0_ n1_ n2_)
             clear hd
             go_loopg [11, 77] ps.length (fun gg s11 s77 wr => ∃ (y b : Int), s11 = .int .i64 b ∧ s77 = .int .i64 y ∧ Aside0 (0 ≤ y ∧ y ≤ ps.length ∧ ps.length - y ≤ gg) ∧ Aside0 (bestO o pl k (ps.drop y.toNat) b = some best) ∧ Drawn0 w8 wr)
             case atStart => exact ⟨0, -1, rfl, rfl, ⟨by omega⟩, HBST, Drawn0.refl _⟩
             case round =>
              clear HBST
              obtain ⟨y, b, rfl, rfl, HY, HBST, ⟨m5, rfl⟩⟩ := hrel
              obtain ⟨y0, y1, yg⟩ := HY.out
              by_cases hlt : y < (ps.length : Int)
              ·have hd : decide (y < (ps.length : Int)) = true := decide_eq_true hlt
               obtain ⟨ad7, e1, hx⟩ := Kd.at_int H7.out y y0 hlt
               cases e1
               have hG := HBST.out
               rw [List.drop_eq_getElem_cons (show y.toNat < ps.length by omega), bestO] at hG
               have hel : ps[y.toNat]'(by omega) = rd ps y := by simp [rd, List.getD_eq_getElem?_getD, List.getElem?_eq_getElem (show y.toNat < ps.length by omega)]
               rw [hel] at hG
               by_cases hin : inL o (rd ps y)
               ·rw [if_pos hin] at hG
                obtain ⟨p3, q3⟩ := hin
                rw [HS.out.lenO] at q3
                have hc0 := HS.out.c0
                obtain ⟨hz, _⟩ := HS.out.rdO (rd ps y) p3 q3
                have HNY := Aside0.mk hlt
                have p0'' := eq_true y0
                have q0'' := eq_true hlt
                have p3' := eq_true p3
                have q3' := eq_true q3
                have hwy := Aside0.mk (wrap64_small (y + 1) (by omega) (by omega))
                have hty := Aside0.mk (show (y + 1).toNat = y.toNat + 1 by omega)
                clear hel y0 hlt p3 q3 y1 yg
                by_cases hneg : rd o (rd ps y) < 0
                ·rw [if_pos hneg] at hG
                 have HG := Aside0.mk hG
                 have hd2 : decide (rd o (rd ps y) < 0) = true := decide_eq_true hneg
                 clear hG hneg
                 go_wp2
                 go_roundg (ps.length - (y.toNat + 1))
                 case measure => have := HY.out; have := HNY.out; omega
                 case rel => exact ⟨y + 1, b, rfl, by rw [hwy.out], ⟨by have := HY.out; have := HNY.out; omega⟩, ⟨by rw [hty.out]; exact HG.out⟩, by repeat (first | exact Drawn0.refl _ | apply Drawn0.step)⟩
                ·rw [if_neg hneg] at hG
                 have hd2 : decide (rd o (rd ps y) < 0) = false := decide_eq_false hneg
                 by_cases hbn : b < 0
                 ·rw [if_pos hbn] at hG
                  have HG := Aside0.mk hG
                  have hd3 : decide (b < 0) = true := decide_eq_true hbn
                  clear hG hneg hbn
                  go_wp2
                  go_roundg (ps.length - (y.toNat + 1))
                  case measure => have := HY.out; have := HNY.out; omega
                  case rel => exact ⟨y + 1, rd ps y, rfl, by rw [hwy.out], ⟨by have := HY.out; have := HNY.out; omega⟩, ⟨by rw [hty.out]; exact HG.out⟩, by repeat (first | exact Drawn0.refl _ | apply Drawn0.step)⟩
                 ·rw [if_neg hbn] at hG
                  cases hme : meetO o pl k 0 (rd ps y) b with
                  | none => rw [hme] at hG; cases hG
                  | some mr =>
                  rw [hme, Option.bind_some] at hG
                  have HG := Aside0.mk hG
                  have HME := Aside0.mk hme
                  have hd3 : decide (b < 0) = false := decide_eq_false hbn
                  have HC := Aside0.mk (meet_calls o pl k (rd ps y) b mr gt (some ⟨go, 0, none⟩) (some ⟨gp, 0, none⟩) bs.length bs.length (w8.drewN m5) (by rw [HS.out.lenO, HS.out.lenP]; exact (HS.out.draw m5).bt) (by have := Kd.R_reads' (HS.out.draw m5).ro; exact this.2.2) (by have := Kd.R_reads' (HS.out.draw m5).rp; exact this.2.2) HME.out)
                  clear hG hneg hbn hme
                  go_wp2_with (go_at_call 45; refine HC.out.mono ?_; rintro e w9 ⟨rfl, ⟨md, rfl⟩⟩)
                  go_roundg (ps.length - (y.toNat + 1))
                  case measure => have := HY.out; have := HNY.out; omega
                  case rel => exact ⟨y + 1, mr, rfl, by rw [hwy.out], ⟨by have := HY.out; have := HNY.out; omega⟩, ⟨by rw [hty.out]; exact HG.out⟩, by repeat (first | exact Drawn0.refl _ | apply Drawn0.step)⟩
               ·rw [if_neg hin] at hG; cases hG
              ·have hd : decide (y < (ps.length : Int)) = false := decide_eq_false hlt
               have hG := HBST.out
               rw [List.drop_eq_nil_of_le (by omega), bestO] at hG
               obtain rfl := Option.some.inj hG
               have hc0 := HS.out.c0
               obtain ⟨hz, hfz⟩ := HS.out.rdO (rd tl x) HN.out.2.1 HN.out.2.2
               have hwx := Aside0.mk (wrap64_small (x + 1) (by have := HX.out; omega) (by have := HX.out; have := HN.out; omega))
               have htx := Aside0.mk (show (x + 1).toNat = x.toNat + 1 by have := HX.out; omega)
               have HS9 := Aside0.mk ((HS.out.draw m5).setO (rd tl x) b)
               have HB9 := Aside0.mk (below_set (j := (rd tl x).toNat) (v := .int .i64 b) (pw_below_drewN HB.out m5) HS.out.gbO)
               have HV9 := Aside0.mk (Kd.R_far (p := ⟨go, (rd tl x).toNat, none⟩) (Kd.R_drewN HV.out m5) (fun q hq => hq.1) (.int .i64 b))
               clear hG y0 hlt y1 yg HBST HY
               cases more with
               | true =>
                go_wp2
                go_roundg (tl.length - (x.toNat + 1))
                case measure => have := HX.out; have := HN.out; omega
                case rel => exact ⟨x + 1, true, o.set (rd tl x).toNat b, rfl, by rw [hwx.out], ⟨by have := HX.out; have := HN.out; omega⟩, ⟨by rw [htx.out]; exact HF.out⟩, HS9, HV9, HB9⟩
               | false =>
                go_wp2
                go_roundg (tl.length - (x.toNat + 1))
                case measure => have := HX.out; have := HN.out; omega
                case rel => exact ⟨x + 1, (rd o (rd tl x) != b), o.set (rd tl x).toNat b, rfl, by rw [hwx.out], ⟨by have := HX.out; have := HN.out; omega⟩, ⟨by rw [htx.out]; exact HF.out⟩, HS9, HV9, HB9⟩
            ·rw [if_neg hin] at hF; cases hF
           ·have hd : decide (x < (tl.length : Int)) = false := decide_eq_false hlt
            have hF := HROW.out
            rw [List.drop_eq_nil_of_le (by omega), rowO] at hF
            obtain ⟨rfl, rfl⟩ := Prod.mk.inj (Option.some.inj hF)
            clear hF x0 hlt x1 xg HROW HX
            go_wp2
            go_roundg j
            case measure => omega
            case rel => exact ⟨more, o, rfl, ⟨fun h => by have := HM2.out; rwa [if_pos h] at this⟩, ⟨fun h => by have := HM2.out; rw [if_neg (by simp [h])] at this; exact Option.some.inj this⟩, HS, HV, HB⟩
       ·rw [if_neg hb0] at hE; cases hE
noncomputable def anyK {α : Type} (g : Nat → Option α) : Option α := open Classical in if h : ∃ r, ∃ k, g k = some r then some (Classical.choose h) else none
theorem anyK_some {α : Type} {g : Nat → Option α} {r : α} (h : anyK g = some r) : ∃ k, g k = some r := by
 unfold anyK at h
 split at h
 ·rename_i hh
  obtain rfl := Option.some.inj h
  exact Classical.choose_spec hh
 ·cases h
theorem anyK_eq {α : Type} {g : Nat → Option α} {r : α} (h : ∃ k, g k = some r) (hu : ∀ k q, g k = some q → q = r) : anyK g = some r := by
 unfold anyK
 rw [dif_pos (show ∃ r, ∃ k, g k = some r from ⟨r, h⟩)]
 obtain ⟨k, hk⟩ := Classical.choose_spec (show ∃ r, ∃ k, g k = some r from ⟨r, h⟩)
 rw [hu k _ hk]
noncomputable def dom_Over.f (a0_0 : Int) (a0_1 : Int) (l0_2 : List S50) : Option (List Int) :=
 if l0_2.length ≤ 1000 then anyK (fun k => grownO a0_0 a0_1 l0_2 k) else none
set_option maxHeartbeats 8000000 in
set_option maxRecDepth 100000 in
theorem dom_Over.calls (a0_0 : Int) (a0_1 : Int) (A0_2 : Option Addr) (c0_2 : Nat) (l0_2 : List S50) (r : List Int) (w : World) (hr0_2 : Kd.C k50 w A0_2 l0_2.length l0_2) (hc0_2 : l0_2.length ≤ c0_2) (h : dom_Over.f a0_0 a0_1 l0_2 = some r) :
  Calls Try.prog 13 #[.agg #[.int .i64 a0_0, .int .i64 a0_1, .slice A0_2 l0_2.length c0_2]] w fun e w' => ∃ v0_ : Value, e = .returned (v0_) ∧ Kd.R (Kd.int .i64) 3 w' w.heap.size (fun _ => True) v0_ r ∧ Below w.heap.size w w' := by
 unfold dom_Over.f at h
 by_cases hl : l0_2.length ≤ 1000
 ·rw [if_pos hl] at h
  obtain ⟨k, hk⟩ := anyK_some h
  have HE := Aside0.mk hk
  have HR := Aside0.mk hr0_2
  clear h hk hr0_2
  have hu24 := Try.underlying24
  have hu53 := Try.underlying53
  go_enter Try.func13, Try.ntmps13
  go_wp2_with (first | ((with_reducible refine gate_dst (N := 1) rfl ?_); refine box_event ?hg (N := 1) ?hd (cs := #[.int .i64 a0_0, .int .i64 a0_1, .slice A0_2 l0_2.length c0_2]) (t := 24) ?hr ?_; (case hd => rfl); (case hg => rfl); (case hr => first | (go_simp; done) | (go_simp; rfl)); intro gb hg w4 hbox hb; have BK := Aside0.mk hbox; have HB := Aside0.mk hb; clear hbox hb hg; have hcz0 : w4.cell? ⟨gb, 0, none⟩ = some (.int .i64 a0_0) := (blk_cell BK.out 0).trans rfl; have hcz1 : w4.cell? ⟨gb, 1, none⟩ = some (.int .i64 a0_1) := (blk_cell BK.out 1).trans rfl; have hcz2 : w4.cell? ⟨gb, 2, none⟩ = some (.slice A0_2 l0_2.length c0_2) := (blk_cell BK.out 2).trans rfl) | (go_at_call 27; refine (grown_calls a0_0 a0_1 A0_2 c0_2 l0_2 k r w4 (Kd.C_below HR.out HB.out) hc0_2 hl HE.out).mono ?_; rintro e w5 ⟨gb2, gt, go, gp, place, rfl, hS, hb⟩; have HS := Aside0.mk hS; have HB5 := Aside0.mk (below_step HB.out hb); have hz0 : w5.cell? ⟨gt, 0, none⟩ = some (.slice (some ⟨go, 0, none⟩) l0_2.length l0_2.length) := HS.out.c0; clear hS hb))
  go_ret
  exact ⟨_, rfl, Kd.R_mono (Kd.R_lower HS.out.ro (below_size HB.out)) (fun _ _ => trivial), HB5.out⟩
 ·rw [if_neg hl] at h; cases h
end Go.Proofs.Ytilopoegoddggaa.X
namespace Go.Proofs.Ytilopoegoddggaa.X
open Go.RowKit Go.Proofs.YtilopoegoddggaaW.PrintWords Go.Proofs.YtilopoegoddggaaW.PrintLast Go.Proofs.YtilopoegoddggaaW.PrintMore
attribute [local go_sem] max2_int min2_int max_two min_two max_three min_three max_four min_four
set_option linter.all false
noncomputable section
mutual
def dom_Is.j0 : Nat → Int → Int → Bool → Int → Int → List (S50) → Option (Bool)
 | 0, _, _, _, _, _, _ => none
 | k + 1, x1, x2, x35, x104000, x104001, x104002 => if x35 = true then (some false) else ((dom_Over.f x104000 x104001 x104002).bind fun t108 => (dom_Is.l0 k x1 x2 t108))
def dom_Is.l0 : Nat → Int → Int → List Int → Option (Bool)
 | 0, _, _, _ => none
 | k + 1, x1, x2, x7 => if x2 = x1 then (some (x2 == x1)) else (if x2 ≥ 0 then (if 0 ≤ x2 then (if x2 < (x7.length : Int) then (dom_Is.l0 k x1 (rd x7 x2) x7) else (none)) else (none)) else (some (x2 == x1)))
end
def dom_Is.f (k : Nat) (a0_0 : Int) (a0_1 : Int) (l0_2 : List (S50)) (a1 : Int) (a2 : Int) : Option (Bool) := if a1 < 0 then (dom_Is.j0 k a1 a2 true a0_0 a0_1 l0_2) else (if a1 ≥ (l0_2.length : Int) then (dom_Is.j0 k a1 a2 true a0_0 a0_1 l0_2) else (if a2 < 0 then (dom_Is.j0 k a1 a2 true a0_0 a0_1 l0_2) else (if a2 ≥ (l0_2.length : Int) then (dom_Is.j0 k a1 a2 true a0_0 a0_1 l0_2) else ((flow_Reached.f a0_0 a0_1 l0_2).bind fun t104 => (if 0 ≤ a2 then (if a2 < (t104.length : Int) then (dom_Is.j0 k a1 a2 (!(rdOf false t104 a2)) a0_0 a0_1 l0_2) else (none)) else (none))))))
theorem dom_Is.mono_l : ∀ k, (∀ y0 y1 y2 y3 y4 y5, LeO (dom_Is.j0 k y0 y1 y2 y3 y4 y5) (dom_Is.j0 (k + 1) y0 y1 y2 y3 y4 y5)) ∧ (∀ y0 y1 y2, LeO (dom_Is.l0 k y0 y1 y2) (dom_Is.l0 (k + 1) y0 y1 y2))
 | 0 => ⟨fun _ _ _ _ _ _ r h => by simp [dom_Is.j0] at h, fun _ _ _ r h => by simp [dom_Is.l0] at h⟩
 | k + 1 => by
  obtain ⟨ih0, ih1⟩ := dom_Is.mono_l k
  refine ⟨?_, ?_⟩
  ·intro y0 y1 y2 y3 y4 y5
   unfold dom_Is.j0
   repeat' first
   | (with_reducible exact ih0 _ _ _ _ _ _)
   | (with_reducible exact ih1 _ _ _)
   | (with_reducible exact LeO.refl _)
   | (with_reducible exact LeO.none _)
   | (with_reducible refine LeO.ite ?_ ?_)
   | (with_reducible refine LeO.bind ?_ (fun _ => ?_))
   | exact ih0 _ _ _ _ _ _
   | exact ih1 _ _ _
   | exact LeO.none _
   | refine LeO.ite ?_ ?_
   | refine LeO.bind ?_ (fun _ => ?_)
  ·intro y0 y1 y2
   unfold dom_Is.l0
   repeat' first
   | (with_reducible exact ih0 _ _ _ _ _ _)
   | (with_reducible exact ih1 _ _ _)
   | (with_reducible exact LeO.refl _)
   | (with_reducible exact LeO.none _)
   | (with_reducible refine LeO.ite ?_ ?_)
   | (with_reducible refine LeO.bind ?_ (fun _ => ?_))
   | exact ih0 _ _ _ _ _ _
   | exact ih1 _ _ _
   | exact LeO.none _
   | refine LeO.ite ?_ ?_
   | refine LeO.bind ?_ (fun _ => ?_)
theorem dom_Is.mono : ∀ a0 a1 a2 a3 a4 k, LeO (dom_Is.f k a0 a1 a2 a3 a4) (dom_Is.f (k + 1) a0 a1 a2 a3 a4) := by
 intro a0 a1 a2 a3 a4 k
 obtain ⟨ih0, ih1⟩ := dom_Is.mono_l k
 unfold dom_Is.f
 repeat' first
   | (with_reducible exact ih0 _ _ _ _ _ _)
   | (with_reducible exact ih1 _ _ _)
   | (with_reducible exact LeO.refl _)
   | (with_reducible exact LeO.none _)
   | (with_reducible refine LeO.ite ?_ ?_)
   | (with_reducible refine LeO.bind ?_ (fun _ => ?_))
   | exact ih0 _ _ _ _ _ _
   | exact ih1 _ _ _
   | exact LeO.none _
   | refine LeO.ite ?_ ?_
   | refine LeO.bind ?_ (fun _ => ?_)
set_option maxHeartbeats 8000000 in
set_option maxRecDepth 100000 in
theorem dom_Is.calls (k : Nat) (a0_0 : Int) (a0_1 : Int) (A0_2 : Option Addr) (c0_2 : Nat) (l0_2 : List (S50)) (a1 : Int) (a2 : Int) (r : Bool) (w : World) (hr0_2 : Kd.C k50 w A0_2 l0_2.length l0_2) (hc0_2 : l0_2.length ≤ c0_2) (h : dom_Is.f k a0_0 a0_1 l0_2 a1 a2 = some r) :
  Calls Try.prog 15 #[.agg #[.int .i64 a0_0, .int .i64 a0_1, .slice A0_2 l0_2.length c0_2], .int .i64 a1, .int .i64 a2] w fun e w' => e = .returned (.bool r) ∧ Below w.heap.size w w' := by
 have hu24 := Try.underlying24
 have HR0_2 := Aside0.mk hr0_2
 have HC0_2 := Aside0.mk hc0_2
 clear hr0_2 hc0_2
 have HB := Aside0.mk (Below.refl w.heap.size w)
 have H : (if a1 < 0 then (dom_Is.j0 k a1 a2 true a0_0 a0_1 l0_2) else (if a1 ≥ (l0_2.length : Int) then (dom_Is.j0 k a1 a2 true a0_0 a0_1 l0_2) else (if a2 < 0 then (dom_Is.j0 k a1 a2 true a0_0 a0_1 l0_2) else (if a2 ≥ (l0_2.length : Int) then (dom_Is.j0 k a1 a2 true a0_0 a0_1 l0_2) else ((flow_Reached.f a0_0 a0_1 l0_2).bind fun t104 => (if 0 ≤ a2 then (if a2 < (t104.length : Int) then (dom_Is.j0 k a1 a2 (!(rdOf false t104 a2)) a0_0 a0_1 l0_2) else (none)) else (none))))))) = some r := h
 clear h
 have HC4 := Aside0.mk H
 clear H
 go_enter Try.func15, Try.ntmps15
 go_upto_region 1 with (first | ((with_reducible refine gate_dst (N := 3) rfl ?_); (try (refine gate_guard (by rfl) ?_; dsimp only)); refine box_event ?hg (N := 3) ?hd (cs := #[.int .i64 a0_0, .int .i64 a0_1, .slice A0_2 l0_2.length c0_2]) (t := 24) ?hr ?_; (case hd => rfl); (case hg => rfl); (case hr => first | (go_simp; done) | (go_simp; rfl)); intro gb103 hg w5 hbox hb; have n0_ := Aside0.mk (below_step (by repeat (first | (with_reducible first | exact HB.out | apply below_alloc | apply pw_below_drewN | apply below_drew1) | exact HB.out)) hb); have n1_ := Aside0.mk (hbox); have n2_ := Aside0.mk ((by rw [hg]; exact (below_size (by repeat (first | (with_reducible first | exact HB.out | apply below_alloc | apply pw_below_drewN | apply below_drew1) | exact HB.out))) : w.heap.size ≤ gb103)); have n3_ := Aside0.mk ((by rw [hg]; exact (below_size (by repeat (first | (with_reducible first | exact HB.out | apply below_alloc | apply pw_below_drewN | apply below_drew1) | exact HB.out))) : w.heap.size ≤ gb103)); clear HB; have HB := n0_; have BK103 := n1_; have GW103 := n2_; have GE103 := n3_; clear n0_ n1_ n2_ n3_; clear hb hbox hg))
 (try simp only [Act.put, List.setIfInBounds_toArray, List.set_cons_zero, List.set_cons_succ])
 go_cut [35] (fun v35 wc => ∃ (kq : Nat) (x35_3 : Bool), v35 = .bool x35_3 ∧ Aside0 (dom_Is.j0 kq a1 a2 x35_3 a0_0 a0_1 l0_2 = some r) ∧ Aside0 (kq ≤ k) ∧ Aside0 (wc.heap[gb103]? = some (.cells #[.int .i64 a0_0, .int .i64 a0_1, (.slice A0_2 l0_2.length c0_2)] 24 (0, 0))) ∧ Aside0 (Below w.heap.size w wc))
 case first =>
  have H := HC4.out
  clear HC4
  by_cases c6 : a1 < 0
  ·rw [if_pos c6] at H
   have c6b0 : decide (a1 < 0) = true := decide_eq_true c6
   clear c6
   (first | rw [c6b0] | (simp only [i64_w, i32_w]; rw [c6b0]) | skip)
   have H' := Aside0.mk H
   clear H
   go_wp2
   go_meet
   case rel => exact ⟨_, (true), (by first | rfl | (simp; done) | (simp [*]; done)), H', ⟨by first | omega | exact Nat.le_refl _⟩, ⟨by (with_reducible repeat (first | refine blk_drewN ?_ _ | refine blk_drew ?_ | refine blk_alloc ?_ _)); exact BK103.out⟩, ⟨by repeat (first | (with_reducible first | exact HB.out | apply below_alloc | apply pw_below_drewN | apply below_drew1 | refine below_set ?_ GE103.out) | exact HB.out)⟩⟩
  ·rw [if_neg c6] at H
   have c6b0 : decide (a1 < 0) = false := decide_eq_false c6
   clear c6
   (first | rw [c6b0] | (simp only [i64_w, i32_w]; rw [c6b0]) | skip)
   by_cases c7 : a1 ≥ (l0_2.length : Int)
   ·rw [if_pos c7] at H
    have c7b0 : decide ((l0_2.length : Int) ≤ a1) = true := decide_eq_true c7
    clear c7
    have H' := Aside0.mk H
    clear H
    have hcz8_0 : w5.cell? ⟨gb103, 0, none⟩ = some (.int .i64 a0_0) := (blk_cell BK103.out 0).trans rfl
    have hcz8_1 : w5.cell? ⟨gb103, 1, none⟩ = some (.int .i64 a0_1) := (blk_cell BK103.out 1).trans rfl
    have hcz8_2 : w5.cell? ⟨gb103, 2, none⟩ = some (.slice A0_2 l0_2.length c0_2) := (blk_cell BK103.out 2).trans rfl
    have hfz8_0 := blk_frozen BK103.out 0
    have hfz8_1 := blk_frozen BK103.out 1
    have hfz8_2 := blk_frozen BK103.out 2
    go_wp2
    go_meet
    case rel => exact ⟨_, (true), (by first | rfl | (simp; done) | (simp [*]; done)), H', ⟨by first | omega | exact Nat.le_refl _⟩, ⟨by (with_reducible repeat (first | refine blk_drewN ?_ _ | refine blk_drew ?_ | refine blk_alloc ?_ _)); exact BK103.out⟩, ⟨by repeat (first | (with_reducible first | exact HB.out | apply below_alloc | apply pw_below_drewN | apply below_drew1 | refine below_set ?_ GE103.out) | exact HB.out)⟩⟩
   ·rw [if_neg c7] at H
    have c7b0 : decide ((l0_2.length : Int) ≤ a1) = false := decide_eq_false c7
    clear c7
    by_cases c9 : a2 < 0
    ·rw [if_pos c9] at H
     have c9b0 : decide (a2 < 0) = true := decide_eq_true c9
     clear c9
     have H' := Aside0.mk H
     clear H
     have hcz10_0 : w5.cell? ⟨gb103, 0, none⟩ = some (.int .i64 a0_0) := (blk_cell BK103.out 0).trans rfl
     have hcz10_1 : w5.cell? ⟨gb103, 1, none⟩ = some (.int .i64 a0_1) := (blk_cell BK103.out 1).trans rfl
     have hcz10_2 : w5.cell? ⟨gb103, 2, none⟩ = some (.slice A0_2 l0_2.length c0_2) := (blk_cell BK103.out 2).trans rfl
     have hfz10_0 := blk_frozen BK103.out 0
     have hfz10_1 := blk_frozen BK103.out 1
     have hfz10_2 := blk_frozen BK103.out 2
     go_wp2
     go_meet
     case rel => exact ⟨_, (true), (by first | rfl | (simp; done) | (simp [*]; done)), H', ⟨by first | omega | exact Nat.le_refl _⟩, ⟨by (with_reducible repeat (first | refine blk_drewN ?_ _ | refine blk_drew ?_ | refine blk_alloc ?_ _)); exact BK103.out⟩, ⟨by repeat (first | (with_reducible first | exact HB.out | apply below_alloc | apply pw_below_drewN | apply below_drew1 | refine below_set ?_ GE103.out) | exact HB.out)⟩⟩
    ·rw [if_neg c9] at H
     have c9b0 : decide (a2 < 0) = false := decide_eq_false c9
     clear c9
     by_cases c11 : a2 ≥ (l0_2.length : Int)
     ·rw [if_pos c11] at H
      have c11b0 : decide ((l0_2.length : Int) ≤ a2) = true := decide_eq_true c11
      clear c11
      have H' := Aside0.mk H
      clear H
      have hcz12_0 : w5.cell? ⟨gb103, 0, none⟩ = some (.int .i64 a0_0) := (blk_cell BK103.out 0).trans rfl
      have hcz12_1 : w5.cell? ⟨gb103, 1, none⟩ = some (.int .i64 a0_1) := (blk_cell BK103.out 1).trans rfl
      have hcz12_2 : w5.cell? ⟨gb103, 2, none⟩ = some (.slice A0_2 l0_2.length c0_2) := (blk_cell BK103.out 2).trans rfl
      have hfz12_0 := blk_frozen BK103.out 0
      have hfz12_1 := blk_frozen BK103.out 1
      have hfz12_2 := blk_frozen BK103.out 2
      go_wp2
      go_meet
      case rel => exact ⟨_, (true), (by first | rfl | (simp; done) | (simp [*]; done)), H', ⟨by first | omega | exact Nat.le_refl _⟩, ⟨by (with_reducible repeat (first | refine blk_drewN ?_ _ | refine blk_drew ?_ | refine blk_alloc ?_ _)); exact BK103.out⟩, ⟨by repeat (first | (with_reducible first | exact HB.out | apply below_alloc | apply pw_below_drewN | apply below_drew1 | refine below_set ?_ GE103.out) | exact HB.out)⟩⟩
     ·rw [if_neg c11] at H
      have c11b0 : decide ((l0_2.length : Int) ≤ a2) = false := decide_eq_false c11
      clear c11
      replace H := Option.bind_eq_some_iff.mp H
      obtain ⟨t104, A130, H⟩ := H
      replace H : (if 0 ≤ a2 then (if a2 < (t104.length : Int) then (dom_Is.j0 k a1 a2 (!(rdOf false t104 a2)) a0_0 a0_1 l0_2) else (none)) else (none)) = some r := H
      have A13 := Aside0.mk A130
      clear A130
      by_cases c14 : 0 ≤ a2
      ·rw [if_pos c14] at H
       have c14b0 : decide (0 ≤ a2) = true := decide_eq_true c14
       clear c14
       by_cases c15 : a2 < (t104.length : Int)
       ·rw [if_pos c15] at H
        have c15b0 : decide (a2 < (t104.length : Int)) = true := decide_eq_true c15
        clear c15
        have H' := Aside0.mk H
        clear H
        have hcz16_0 : w5.cell? ⟨gb103, 0, none⟩ = some (.int .i64 a0_0) := (blk_cell BK103.out 0).trans rfl
        have hcz16_1 : w5.cell? ⟨gb103, 1, none⟩ = some (.int .i64 a0_1) := (blk_cell BK103.out 1).trans rfl
        have hcz16_2 : w5.cell? ⟨gb103, 2, none⟩ = some (.slice A0_2 l0_2.length c0_2) := (blk_cell BK103.out 2).trans rfl
        have hfz16_0 := blk_frozen BK103.out 0
        have hfz16_1 := blk_frozen BK103.out 1
        have hfz16_2 := blk_frozen BK103.out 2
        go_wp2_with (first | (go_at_call 19; (with_reducible refine (flow_Reached.calls a0_0 a0_1 _ _ l0_2 t104 _ ?side1 ?side2 A13.out).mono ?_); (case side1 => repeat (first | exact (Kd.C_below HR0_2.out HB.out) | (with_reducible refine Kd.C_alloc ?_ _) | (with_reducible refine Kd.C_drewN ?_ _) | (with_reducible refine Kd.C_drew ?_))); (case side2 => exact HC0_2.out); rintro e w17 ⟨v105, rfl, ho0, hb⟩; have n0_ := Aside0.mk (Kd.R_lower ho0 (below_size (by repeat (first | (with_reducible first | exact HB.out | apply below_alloc | apply pw_below_drewN | apply below_drew1 | refine below_set ?_ GE103.out) | exact HB.out)))); have n1_ := Aside0.mk (blk_below (g := gb103) (o := .cells #[.int .i64 a0_0, .int .i64 a0_1, .slice A0_2 l0_2.length c0_2] 24 (0, 0)) (by (with_reducible repeat (first | refine blk_drewN ?_ _ | refine blk_drew ?_ | refine blk_alloc ?_ _)); exact BK103.out) hb); have n2_ := Aside0.mk (below_step (by repeat (first | (with_reducible first | exact HB.out | apply below_alloc | apply pw_below_drewN | apply below_drew1 | refine below_set ?_ GE103.out) | exact HB.out)) hb); clear BK103; clear HB; have HO106 := n0_; have BK103 := n1_; have HB := n2_; clear n0_ n1_ n2_; (try clear hb); (try clear hb2); (try clear hk); (try clear hi); (try clear ho0); obtain ⟨Ao18, co18, eo18⟩ := Kd.R_slice HO106.out; subst eo18; have p107 : 0 ≤ (a2 : Int) := of_decide_eq_true (by first | (with_reducible assumption) | assumption); have q107 : a2 < (t104.length : Int) := of_decide_eq_true (by first | (with_reducible assumption) | assumption); obtain ⟨ad107, e107, hx107_0⟩ := Kd.at_bool (Kd.R_reads' HO106.out).2.2 a2 p107 q107; cases e107; replace p107 := eq_true p107; replace q107 := eq_true q107))
        go_meet
        case rel => exact ⟨_, (!(rdOf false t104 a2)), (by first | rfl | (simp; done) | (simp [*]; done)), H', ⟨by first | omega | exact Nat.le_refl _⟩, ⟨by (with_reducible repeat (first | refine blk_drewN ?_ _ | refine blk_drew ?_ | refine blk_alloc ?_ _)); exact BK103.out⟩, ⟨by repeat (first | (with_reducible first | exact HB.out | apply below_alloc | apply pw_below_drewN | apply below_drew1 | refine below_set ?_ GE103.out) | exact HB.out)⟩⟩
       ·rw [if_neg c15] at H
        exact absurd H (by simp)
      ·rw [if_neg c14] at H
       exact absurd H (by simp)
 case rest =>
  clear HC4
  try clear c1
  try clear p1
  try clear q1
  try clear hx1
  try clear p2
  try clear c6
  try clear c6b0
  try clear c7
  try clear c7b0
  try clear c9
  try clear c9b0
  try clear p10
  try clear q10
  try clear hx10
  try clear c11
  try clear c11b0
  try clear c14
  try clear c14b0
  try clear c15
  try clear c15b0
  try clear hcz10_0
  try clear hcz10_1
  try clear hcz10_2
  try clear hcz12_0
  try clear hcz12_1
  try clear hcz12_2
  try clear hcz16_0
  try clear hcz16_1
  try clear hcz16_2
  try clear hcz8_0
  try clear hcz8_1
  try clear hcz8_2
  try clear hfz10_0
  try clear hfz10_1
  try clear hfz10_2
  try clear hfz12_0
  try clear hfz12_1
  try clear hfz12_2
  try clear hfz16_0
  try clear hfz16_1
  try clear hfz16_2
  try clear hfz8_0
  try clear hfz8_1
  try clear hfz8_2
  try clear hx107_0
  try clear p107
  try clear q107
  obtain ⟨kq, x35_3, rfl, HA, HJ3, BK103, HB⟩ := hcut
  cases kq with
  | zero => exact absurd HA.out (by simp [dom_Is.j0])
  | succ kj3 =>
   have H := HA.out
   clear HA
   simp only [dom_Is.j0] at H
   by_cases c19 : x35_3 = true
   ·subst c19
    have H1 : (some false) = some r := by rw [if_pos rfl] at H; exact H
    clear H
    have H := H1
    clear H1
    obtain rfl := Option.some.inj H
    go_wp2
    go_ret
    exact ⟨by first | rfl | (simp [errW_none, errW_some] <;> rfl) | (simp [*, errW_none, errW_some] <;> rfl), by repeat (first | (with_reducible first | exact HB.out | apply below_alloc | apply pw_below_drewN | apply below_drew1 | refine below_set ?_ GE103.out) | exact HB.out)⟩
   ·replace c19 := Bool.eq_false_iff.mpr c19
    subst c19
    have H1 : ((dom_Over.f a0_0 a0_1 l0_2).bind fun t108 => (dom_Is.l0 kj3 a1 a2 t108)) = some r := by rw [if_neg (show ¬ (false = true) by decide)] at H; exact H
    clear H
    have H := H1
    clear H1
    replace H := Option.bind_eq_some_iff.mp H
    obtain ⟨t108, A200, H⟩ := H
    replace H : (dom_Is.l0 kj3 a1 a2 t108) = some r := H
    have A20 := Aside0.mk A200
    clear A200
    have H' := Aside0.mk H
    clear H
    have hcz21_0 : wc.cell? ⟨gb103, 0, none⟩ = some (.int .i64 a0_0) := (blk_cell BK103.out 0).trans rfl
    have hcz21_1 : wc.cell? ⟨gb103, 1, none⟩ = some (.int .i64 a0_1) := (blk_cell BK103.out 1).trans rfl
    have hcz21_2 : wc.cell? ⟨gb103, 2, none⟩ = some (.slice A0_2 l0_2.length c0_2) := (blk_cell BK103.out 2).trans rfl
    have hfz21_0 := blk_frozen BK103.out 0
    have hfz21_1 := blk_frozen BK103.out 1
    have hfz21_2 := blk_frozen BK103.out 2
    go_wp2_with (first | ((with_reducible refine gate_callee (f := 13) rfl ?_); refine goesL_ (some 37) rfl rfl Try.func13 (by kernel_rfl) rfl #[.agg #[.int .i64 a0_0, .int .i64 a0_1, .slice A0_2 l0_2.length c0_2]] rfl (by (try simp only [List.map_toArray, List.map_cons, List.map_nil]); first | done | rfl | (simp only [List.length_drop, List.length_take]; rfl)) ?_; (with_reducible refine (dom_Over.calls a0_0 a0_1 _ _ l0_2 t108 _ ?side1 ?side2 A20.out).mono ?_); (case side1 => repeat (first | exact (Kd.C_below HR0_2.out HB.out) | (with_reducible refine Kd.C_alloc ?_ _) | (with_reducible refine Kd.C_drewN ?_ _) | (with_reducible refine Kd.C_drew ?_))); (case side2 => exact HC0_2.out); rintro e w22 ⟨v109, rfl, ho0, hb⟩; refine ⟨_, rfl, ?_⟩; have n0_ := Aside0.mk (Kd.R_lower ho0 (below_size (by repeat (first | (with_reducible first | exact HB.out | apply below_alloc | apply pw_below_drewN | apply below_drew1 | refine below_set ?_ GE103.out) | exact HB.out)))); have n1_ := Aside0.mk (blk_below (g := gb103) (o := .cells #[.int .i64 a0_0, .int .i64 a0_1, .slice A0_2 l0_2.length c0_2] 24 (0, 0)) (by (with_reducible repeat (first | refine blk_drewN ?_ _ | refine blk_drew ?_ | refine blk_alloc ?_ _)); exact BK103.out) hb); have n2_ := Aside0.mk (below_step (by repeat (first | (with_reducible first | exact HB.out | apply below_alloc | apply pw_below_drewN | apply below_drew1 | refine below_set ?_ GE103.out) | exact HB.out)) hb); clear BK103; clear HB; have HO110 := n0_; have BK103 := n1_; have HB := n2_; clear n0_ n1_ n2_; (try clear hb); (try clear hb2); (try clear hk); (try clear hi); (try clear ho0)))
    go_loopg [2] kj3 (fun kq v2 w' => ∃ (x2_2 : Int), v2 = .int .i64 x2_2 ∧ Aside0 (dom_Is.l0 kq a1 x2_2 t108 = some r) ∧ Aside0 (kq ≤ kj3) ∧ Aside0 (Kd.R (Kd.int .i64) 3 w' w.heap.size (fun _ => True) v109 t108) ∧ Aside0 (w'.heap[gb103]? = some (.cells #[.int .i64 a0_0, .int .i64 a0_1, (.slice A0_2 l0_2.length c0_2)] 24 (0, 0))) ∧ Aside0 (Below w.heap.size w w'))
    case atStart => exact ⟨(a2), (by first | rfl | (simp; done) | (simp [*]; done)), H', ⟨Nat.le_refl _⟩, ⟨by (with_reducible repeat (first | apply Kd.R_alloc | apply Kd.R_drewN | apply Kd.R_drew)); exact HO110.out⟩, ⟨by (with_reducible repeat (first | refine blk_drewN ?_ _ | refine blk_drew ?_ | refine blk_alloc ?_ _)); exact BK103.out⟩, ⟨by repeat (first | (with_reducible first | exact HB.out | apply below_alloc | apply pw_below_drewN | apply below_drew1 | refine below_set ?_ GE103.out) | exact HB.out)⟩⟩
    case round =>
     clear H'
     try clear c1
     try clear p1
     try clear q1
     try clear hx1
     try clear p2
     try clear c6
     try clear c6b0
     try clear c7
     try clear c7b0
     try clear c9
     try clear c9b0
     try clear p10
     try clear q10
     try clear hx10
     try clear c11
     try clear c11b0
     try clear c13
     try clear c14
     try clear c14b0
     try clear c15
     try clear c15b0
     try clear c19
     try clear hcz10_0
     try clear hcz10_1
     try clear hcz10_2
     try clear hcz12_0
     try clear hcz12_1
     try clear hcz12_2
     try clear hcz16_0
     try clear hcz16_1
     try clear hcz16_2
     try clear hcz21_0
     try clear hcz21_1
     try clear hcz21_2
     try clear hcz8_0
     try clear hcz8_1
     try clear hcz8_2
     try clear hfz10_0
     try clear hfz10_1
     try clear hfz10_2
     try clear hfz12_0
     try clear hfz12_1
     try clear hfz12_2
     try clear hfz16_0
     try clear hfz16_1
     try clear hfz16_2
     try clear hfz21_0
     try clear hfz21_1
     try clear hfz21_2
     try clear hfz8_0
     try clear hfz8_1
     try clear hfz8_2
     try clear hx107_0
     try clear p1
     try clear p10
     try clear p107
     try clear p2
     try clear q1
     try clear q10
     try clear q107
     obtain ⟨x2_2, rfl, HA, HK2, HO_7, BK103, HB⟩ := hrel
     cases gk with
     | zero => exact absurd HA.out (by simp [dom_Is.l0])
     | succ k2 =>
      have H := HA.out
      clear HA
      simp only [dom_Is.l0] at H
      by_cases c23 : x2_2 = a1
      ·rw [if_pos c23] at H
       have c23b0 : (x2_2 == a1) = true := beq_iff_eq.mpr c23
       have c23b1 : (x2_2 != a1) = false := bne_eq_false_iff_eq.mpr c23
       clear c23
       obtain rfl := Option.some.inj H
       go_wp2
       go_ret
       exact ⟨by first | rfl | (simp [errW_none, errW_some] <;> rfl) | (simp [*, errW_none, errW_some] <;> rfl), by repeat (first | (with_reducible first | exact HB.out | apply below_alloc | apply pw_below_drewN | apply below_drew1 | refine below_set ?_ GE103.out) | exact HB.out)⟩
      ·rw [if_neg c23] at H
       have c23b0 : (x2_2 == a1) = false := beq_eq_false_iff_ne.mpr c23
       have c23b1 : (x2_2 != a1) = true := bne_iff_ne.mpr c23
       by_cases c24 : x2_2 ≥ 0
       ·rw [if_pos c24] at H
        have c24b0 : decide (0 ≤ x2_2) = true := decide_eq_true c24
        clear c24
        by_cases c25 : 0 ≤ x2_2
        ·rw [if_pos c25] at H
         have c25b0 : decide (0 ≤ x2_2) = true := decide_eq_true c25
         clear c25
         by_cases c26 : x2_2 < (t108.length : Int)
         ·rw [if_pos c26] at H
          have c26b0 : decide (x2_2 < (t108.length : Int)) = true := decide_eq_true c26
          clear c26
          have H' := Aside0.mk H
          clear H
          obtain ⟨Ao27, co27, eo27⟩ := Kd.R_slice HO_7.out
          subst eo27
          have p111 : 0 ≤ (x2_2 : Int) := of_decide_eq_true (by first | (with_reducible assumption) | assumption)
          have q111 : x2_2 < (t108.length : Int) := of_decide_eq_true (by first | (with_reducible assumption) | assumption)
          obtain ⟨ad111, e111, hx111_0⟩ := Kd.at_int (Kd.R_reads' HO_7.out).2.2 x2_2 p111 q111
          cases e111
          replace p111 := eq_true p111
          replace q111 := eq_true q111
          go_wp2
          go_roundg k2
          case measure => have := HJ3.out; have := HK2.out; omega
          case rel => exact ⟨(rd t108 x2_2), (by first | rfl | (simp; done) | (simp [*]; done)), H', ⟨by have := HJ3.out; have := HK2.out; omega⟩, ⟨by (with_reducible repeat (first | apply Kd.R_alloc | apply Kd.R_drewN | apply Kd.R_drew)); exact HO_7.out⟩, ⟨by (with_reducible repeat (first | refine blk_drewN ?_ _ | refine blk_drew ?_ | refine blk_alloc ?_ _)); exact BK103.out⟩, ⟨by repeat (first | (with_reducible first | exact HB.out | apply below_alloc | apply pw_below_drewN | apply below_drew1 | refine below_set ?_ GE103.out) | exact HB.out)⟩⟩
         ·rw [if_neg c26] at H
          exact absurd H (by simp)
        ·rw [if_neg c25] at H
         exact absurd H (by simp)
       ·rw [if_neg c24] at H
        have c24b0 : decide (0 ≤ x2_2) = false := decide_eq_false c24
        clear c24
        obtain rfl := Option.some.inj H
        go_wp2
        go_ret
        exact ⟨by first | rfl | (simp [errW_none, errW_some] <;> rfl) | (simp [*, errW_none, errW_some] <;> rfl), by repeat (first | (with_reducible first | exact HB.out | apply below_alloc | apply pw_below_drewN | apply below_drew1 | refine below_set ?_ GE103.out) | exact HB.out)⟩
end
end Go.Proofs.Ytilopoegoddggaa.X
namespace Go.Proofs.Ytilopoegoddggaa.X
open Go.Shelf Go.RowKit Go.Proofs.YtilopoegoddggaaW.PrintWords Go.Proofs.YtilopoegoddggaaW.PrintLast Go.Proofs.YtilopoegoddggaaW.PrintMore
set_option linter.all false
def filterO (f : Int → Option Bool) : List Int → Option (List Int)
 | [] => some []
 | x :: r => (f x).bind fun b => (filterO f r).map fun l => if b = true then x :: l else l
theorem filterO_some {f : Int → Option Bool} : ∀ {l q : List Int}, filterO f l = some q → (∀ x ∈ l, f x = some ((f x).getD false)) ∧ q = l.filter (fun x => !(!(f x).getD false))
 | [], q, h => by obtain rfl := Option.some.inj h; exact ⟨by simp, rfl⟩
 | x :: r, q, h => by
  rw [filterO] at h
  cases hx : f x with
  | none => rw [hx] at h; cases h
  | some b =>
  rw [hx, Option.bind_some] at h
  obtain ⟨l, hl, rfl⟩ := Option.map_eq_some_iff.1 h
  obtain ⟨h1, h2⟩ := filterO_some hl
  refine ⟨fun y hy => ?_, ?_⟩
  ·rcases List.mem_cons.1 hy with rfl | hy
   ·rw [hx]; rfl
   ·exact h1 y hy
  ·rw [h2, List.filter_cons, hx]
   cases b <;> simp
noncomputable def backsO (a0 a1 : Int) (bs : List S50) (head : Int) (k : Nat) : Option (List Int) :=
 (flow_Before.f k a0 a1 bs head).bind fun ps => filterO (fun x => dom_Is.f k a0 a1 bs head x) ps
noncomputable def loop_backs.f (a0_0 : Int) (a0_1 : Int) (l0_2 : List S50) (a1 : Int) : Option (List Int) := anyK (backsO a0_0 a0_1 l0_2 a1)
theorem backs_pred (k : Nat) (a0 a1 head x : Int) (b : Bool) (A : Option Addr) (c : Nat) (bs : List S50) (gb gh : Nat) (w : World) (hr : Kd.C k50 w A bs.length bs) (hc : bs.length ≤ c)
  (hb : w.heap[gb]? = some (.cells #[.int .i64 a0, .int .i64 a1, .slice A bs.length c] 24 (0, 0))) (hh : w.heap[gh]? = some (.cells #[.int .i64 head] 3 (0, 0))) (h : dom_Is.f k a0 a1 bs head x = some b) :
  Calls Try.prog 50 #[.int .i64 x, .pointer (some ⟨gb, 0, none⟩), .pointer (some ⟨gh, 0, none⟩)] w fun e w' => e = .returned (.bool (!b)) ∧ Below w.heap.size w w' := by
 have HC := Aside0.mk (dom_Is.calls k a0 a1 A c bs head x b w hr hc h)
 have hu24 := Try.underlying24
 have h0 : w.cell? ⟨gb, 0, none⟩ = some (.int .i64 a0) := (blk_cell hb 0).trans rfl
 have h1 : w.cell? ⟨gb, 1, none⟩ = some (.int .i64 a1) := (blk_cell hb 1).trans rfl
 have h2 : w.cell? ⟨gb, 2, none⟩ = some (.slice A bs.length c) := (blk_cell hb 2).trans rfl
 have h3 : w.cell? ⟨gh, 0, none⟩ = some (.int .i64 head) := (blk_cell hh 0).trans rfl
 clear hb hr hc hh h
 go_enter Try.func50, Try.ntmps50
 go_wp2_with (go_at_call 15; refine HC.out.mono ?_; rintro e w' ⟨rfl, hb⟩; have HB := Aside0.mk hb; clear hb)
 go_ret
 exact ⟨rfl, HB.out⟩
set_option maxHeartbeats 8000000 in
set_option maxRecDepth 100000 in
theorem loop_backs.calls (a0_0 : Int) (a0_1 : Int) (A0_2 : Option Addr) (c0_2 : Nat) (l0_2 : List S50) (a1 : Int) (r : List Int) (w : World) (hr0_2 : Kd.C k50 w A0_2 l0_2.length l0_2) (hc0_2 : l0_2.length ≤ c0_2) (h : loop_backs.f a0_0 a0_1 l0_2 a1 = some r) :
  Calls Try.prog 40 #[.agg #[.int .i64 a0_0, .int .i64 a0_1, .slice A0_2 l0_2.length c0_2], .int .i64 a1] w fun e w' => ∃ v0_ : Value, e = .returned (v0_) ∧ Kd.R (Kd.int .i64) 3 w' w.heap.size (fun _ => True) v0_ r ∧ Below w.heap.size w w' := by
 obtain ⟨k, hk⟩ := anyK_some h
 unfold backsO at hk
 cases hps : flow_Before.f k a0_0 a0_1 l0_2 a1 with
 | none => rw [hps] at hk; cases hk
 | some ps =>
 rw [hps, Option.bind_some] at hk
 obtain ⟨hall, hq⟩ := filterO_some hk
 have HP := Aside0.mk hps
 have HALL := Aside0.mk hall
 have HQ := Aside0.mk hq
 have HR := Aside0.mk hr0_2
 clear h hk hps hall hq hr0_2
 have hu24 := Try.underlying24
 go_enter Try.func40, Try.ntmps40
 go_wp2_with (first | ((with_reducible refine gate_dst (N := 2) rfl ?_); refine box_event ?hg (N := 2) ?hd (cs := #[.int .i64 a0_0, .int .i64 a0_1, .slice A0_2 l0_2.length c0_2]) (t := 24) ?hr ?_; (case hd => rfl); (case hg => rfl); (case hr => first | (go_simp; done) | (go_simp; rfl)); intro gb hg w4 hbox hb; have BK := Aside0.mk hbox; have HB := Aside0.mk hb; clear hbox hb hg; have hcz0 : w4.cell? ⟨gb, 0, none⟩ = some (.int .i64 a0_0) := (blk_cell BK.out 0).trans rfl; have hcz1 : w4.cell? ⟨gb, 1, none⟩ = some (.int .i64 a0_1) := (blk_cell BK.out 1).trans rfl; have hcz2 : w4.cell? ⟨gb, 2, none⟩ = some (.slice A0_2 l0_2.length c0_2) := (blk_cell BK.out 2).trans rfl) | ((with_reducible refine gate_dst (N := 3) rfl ?_); refine box_event ?hg (N := 3) ?hd (cs := #[.int .i64 a1]) (t := 3) ?hr ?_; (case hd => rfl); (case hg => rfl); (case hr => first | (go_simp; done) | (go_simp; rfl)); intro gh hg w5 hbox hb; have BH := Aside0.mk hbox; have n0_ := Aside0.mk (below_step HB.out hb); have n1_ := Aside0.mk (blk_below BK.out hb); clear HB BK hcz0 hcz1 hcz2 hbox hb hg; have HB := n0_; have BK := n1_; clear n0_ n1_; have hcz0 : w5.cell? ⟨gb, 0, none⟩ = some (.int .i64 a0_0) := (blk_cell BK.out 0).trans rfl; have hcz1 : w5.cell? ⟨gb, 1, none⟩ = some (.int .i64 a0_1) := (blk_cell BK.out 1).trans rfl; have hcz2 : w5.cell? ⟨gb, 2, none⟩ = some (.slice A0_2 l0_2.length c0_2) := (blk_cell BK.out 2).trans rfl; have hcz3 : w5.cell? ⟨gh, 0, none⟩ = some (.int .i64 a1) := (blk_cell BH.out 0).trans rfl) | (go_at_call 26; refine (flow_Before.calls k a0_0 a0_1 A0_2 c0_2 l0_2 a1 ps w5 (Kd.C_below HR.out HB.out) hc0_2 HP.out).mono ?_; rintro e w6 ⟨v7, rfl, ho, hb⟩; have HNE := Aside0.mk (show some gh ≠ v7.ownBlock from fun he => by have := Kd.R_base ho gh he.symm; have := blk_lt BH.out; omega); have HO := Aside0.mk (Kd.R_lower ho (below_size HB.out)); have n0_ := Aside0.mk (below_step HB.out hb); have n1_ := Aside0.mk (blk_below BK.out hb); have n2_ := Aside0.mk (blk_below BH.out hb); clear HB BK BH hcz0 hcz1 hcz2 hcz3 ho hb; have HB := n0_; have BK := n1_; have BH := n2_; clear n0_ n1_ n2_) | (go_at_call 38; refine (sl_DeleteFunc_int _ ps w.heap.size (fun _ => True) 50 #[.pointer (some ⟨gb, 0, none⟩), .pointer (some ⟨gh, 0, none⟩)] (fun x => !(dom_Is.f k a0_0 a0_1 l0_2 a1 x).getD false) _ (enters_of Try.func50 (by kernel_rfl) rfl) HO.out ?hpred).mono ?_; (case hpred => intro x hx W hg; exact backs_pred k a0_0 a0_1 a1 x _ A0_2 c0_2 l0_2 gb gh W (Kd.C_below HR.out (HB.out.grown hg (below_size HB.out) (Kd.R_base HO.out))) hc0_2 (blk_grown BK.out hg (Kd.R_ne HO.out BK.out (by decide))) (blk_grown BH.out hg HNE.out) (HALL.out x hx)); rintro e w10 ⟨v10, rfl, ho, hg, _⟩; have n0_ := Aside0.mk (HB.out.grown hg (below_size HB.out) (Kd.R_base HO.out)); clear HO HB; have HO := Aside0.mk ho; have HB := n0_; clear n0_ ho hg))
 go_ret
 exact ⟨_, rfl, by rw [HQ.out]; exact HO.out, HB.out⟩
end Go.Proofs.Ytilopoegoddggaa.X
namespace Go.Proofs.Ytilopoegoddggaa.X
open Go.RowKit Go.Proofs.YtilopoegoddggaaW.PrintWords Go.Proofs.YtilopoegoddggaaW.PrintLast Go.Proofs.YtilopoegoddggaaW.PrintMore
set_option linter.all false
def wfI (x : Int) : Prop := -9223372036854775808 ≤ x ∧ x ≤ 9223372036854775807
instance (x : Int) : Decidable (wfI x) := inferInstanceAs (Decidable (_ ∧ _))
theorem wfI_lit {x : Int} (h : wfI x) : (Lit.int .i64 x).wf = true := by
 obtain ⟨h1, h2⟩ := h
 simp [Lit.wf, IntKind.min, IntKind.max, IntKind.signed, IntKind.bits]; omega
def bdesc (P : Program) (b : Nat) (S : List Int) (D : DataW Unit) : Prop := ∀ x : Int, D.atKey (.int .i64 x) (.lit (.bool false)) = .lit (.bool (decide (x ∈ S)))
def MapSet (W : World) (b n : Nat) (S : List Int) : Prop := ∃ D : DataW Unit, W.ownsMap Try.prog 3 (plainElem Try.prog 4) b n D ∧ bdesc Try.prog b S D
theorem MapSet.lt {W : World} {b n : Nat} {S : List Int} (h : MapSet W b n S) : b < W.heap.size := by
 obtain ⟨D, h, _⟩ := h
 exact h.lt
theorem MapSet.made (W : World) : MapSet (W.alloc (.map #[] 0)) W.heap.size 0 [] :=
 ⟨.map [], World.ownsMap_made _ _ _ _, fun x => rfl⟩
theorem MapSet.grown {W W' : World} {b n : Nat} {S : List Int} {row : Option Nat} (h : MapSet W b n S) (hg : W.grownBy W' row) (hne : some b ≠ row) : MapSet W' b n S := by
 obtain ⟨D, h, hD⟩ := h
 exact ⟨D, h.kept hg hne, hD⟩
theorem MapSet.below {W W' : World} {b n : Nat} {S : List Int} (h : MapSet W b n S) (hb : Below W.heap.size W W') : MapSet W' b n S := h.grown (grown_of_below hb none) (by simp)
theorem MapSet.ne {W : World} {b n : Nat} {S : List Int} (h : MapSet W b n S) {v : Value} (ht : ∀ k, v.ownBlock = some k → ∃ cells e, W.heap[k]? = some (.cells cells e (0, 0))) : some b ≠ v.ownBlock := by
 intro he
 obtain ⟨D, ⟨es, clock, hb, _⟩, _⟩ := h
 obtain ⟨cells, e, hc⟩ := ht b he.symm
 rw [hb] at hc
 cases hc
theorem plainElem_bool_inv {P : Program} {e : TypeId} (he : P.underlying e = some .bool) {v : Value} {z : DataW Unit × List MemPlace} (h : plainElem P e v = some z) : ∃ a, v = .bool a ∧ z = (.lit (.bool a), []) := by
 unfold plainElem at h
 rw [he] at h
 cases v <;> simp at h
 subst h
 exact ⟨_, rfl, rfl⟩
theorem MapSet.look {W : World} {b n : Nat} {S : List Int} (h : MapSet W b n S) {x : Int} (hx : wfI x) : (Instr.lookup 76 (.map (some b)) (.int .i64 x) false).run Try.prog W = .ok (.bool (decide (x ∈ S))) W := by
 obtain ⟨D, h, hD⟩ := h
 have hz : (zeroValue 4).run Try.prog W = .ok (.bool false) W := by kernel_rfl
 obtain ⟨v, ps, hrun, hv⟩ := h.lookup (Maps.int_keyed Try.underlying3) Try.underlying76 hz (plainElem_bool Try.underlying4 false) (Maps.keyOf_int_mk Try.underlying3 (wfI_lit hx))
 rw [hD x] at hv
 obtain ⟨a, rfl, ha⟩ := plainElem_bool_inv Try.underlying4 hv
 simp only [Prod.mk.injEq] at ha
 rw [hrun]
 congr 1
 have := ha.1
 injection this with this
 injection this with this
 rw [this]
theorem MapSet.put {W : World} {b n : Nat} {S : List Int} (h : MapSet W b n S) (hn : n < maxLen) {x : Int} (hx : wfI x) : ∃ W', (Instr.mapUpdate 76 (.map (some b)) (.int .i64 x) (.bool true)).run Try.prog W = .ok () W' ∧ MapSet W' b (n + 1) (x :: S) ∧ W.grownBy W' (some b) := by
 obtain ⟨D, h, hD⟩ := h
 obtain ⟨W', hrun, r1, r2⟩ := h.update (Maps.int_keyed Try.underlying3) Try.underlying76 hn (Maps.keyOf_int_mk Try.underlying3 (wfI_lit hx)) (plainElem_bool Try.underlying4 true)
 refine ⟨W', hrun, ⟨_, r1, fun y => ?_⟩, r2⟩
 by_cases hy : y = x
 ·subst hy
  rw [Maps.atKey_put_same h.isMap (by simp [WideAt.IsKeyLit])]
  simp
 ·rw [Maps.atKey_put_other (by intro e; injection e with _ e; exact hy e), hD y]
  simp [hy]
end Go.Proofs.Ytilopoegoddggaa.X
namespace Go.Proofs.Ytilopoegoddggaa.X
open Go.Shelf Go.RowKit Go.Proofs.YtilopoegoddggaaW.PrintWords Go.Proofs.YtilopoegoddggaaW.PrintLast Go.Proofs.YtilopoegoddggaaW.PrintMore
set_option linter.all false
def addO (f : Int → Option Bool) : List Int → List Int → Option (List Int)
 | [], todo => some todo
 | x :: r, todo => (f x).bind fun b => if b = true then (if todo.length < 1000000 then addO f r (todo ++ [x]) else none) else addO f r todo
noncomputable def goO (a0 a1 : Int) (bs : List S50) (head : Int) (k : Nat) : Nat → List Int → List Int → Option (List Int)
 | 0, _, _ => none
 | _ + 1, S, [] => some S
 | j + 1, S, n :: r => if wfI n ∧ S.length < 1000000 then (if n ∈ S then goO a0 a1 bs head k j S r else (flow_Before.f k a0 a1 bs n).bind fun ps => (addO (fun x => dom_Is.f k a0 a1 bs head x) ps r).bind fun todo => goO a0 a1 bs head k j (n :: S) todo) else none
def pick (S : List Int) (n : Nat) : List Int := ((List.range n).map fun (j : Nat) => (j : Int)).filter fun x => decide (x ∈ S)
noncomputable def bodyO (a0 a1 : Int) (bs : List S50) (head : Int) (todo : List Int) (k : Nat) : Option (List Int) :=
 if wfI head ∧ bs.length ≤ 1000 then (goO a0 a1 bs head k k [head] todo).map fun S => pick S bs.length else none
noncomputable def loop_body.f (a0_0 : Int) (a0_1 : Int) (l0_2 : List S50) (a1 : Int) (l2 : List Int) : Option (List Int) := anyK (bodyO a0_0 a0_1 l0_2 a1 l2)
theorem pick_step (S : List Int) (x : Int) (h : 0 ≤ x) : pick S (x + 1).toNat = pick S x.toNat ++ (if x ∈ S then [x] else []) := by
 unfold pick
 rw [show (x + 1).toNat = x.toNat + 1 by omega, List.range_succ, List.map_append, List.filter_append]
 congr 1
 simp only [List.map_cons, List.map_nil]
 rw [show ((x.toNat : Nat) : Int) = x by omega]
 by_cases hx : x ∈ S <;> simp [hx]
theorem pick_len (S : List Int) (n : Nat) : (pick S n).length ≤ n := by
 unfold pick
 exact Nat.le_trans (List.length_filter_le _ _) (by simp)
def BodyPost (r : List Int) (P2_ : Nat → Prop) (w0 w : World) (e : Ending) (w' : World) : Prop :=
 ∃ v0_ : Value, e = .returned v0_ ∧ Kd.R (Kd.int .i64) 3 w' w0.heap.size (fun k_ => P2_ k_ ∨ w.heap.size ≤ k_) v0_ r ∧ Below w0.heap.size w0 w' ∧ Kept w w' (fun k_ => P2_ k_)
structure BS (W : World) (gb bm : Nat) (a0 a1 : Int) (A : Option Addr) (n c m : Nat) (S : List Int) : Prop where
 bf : W.heap[gb]? = some (.cells #[.int .i64 a0, .int .i64 a1, .slice A n c] 24 (0, 0))
 bm : MapSet W bm m S
theorem BS.below {W W' : World} {gb bm : Nat} {a0 a1 : Int} {A : Option Addr} {n c m : Nat} {S : List Int} (h : BS W gb bm a0 a1 A n c m S) (hb : Below W.heap.size W W') : BS W' gb bm a0 a1 A n c m S := ⟨blk_below h.bf hb, h.bm.below hb⟩
theorem BS.f0 {W : World} {gb bm : Nat} {a0 a1 : Int} {A : Option Addr} {n c m : Nat} {S : List Int} (h : BS W gb bm a0 a1 A n c m S) : W.cell? ⟨gb, 0, none⟩ = some (.int .i64 a0) := (blk_cell h.bf 0).trans rfl
theorem BS.f1 {W : World} {gb bm : Nat} {a0 a1 : Int} {A : Option Addr} {n c m : Nat} {S : List Int} (h : BS W gb bm a0 a1 A n c m S) : W.cell? ⟨gb, 1, none⟩ = some (.int .i64 a1) := (blk_cell h.bf 1).trans rfl
theorem BS.f2 {W : World} {gb bm : Nat} {a0 a1 : Int} {A : Option Addr} {n c m : Nat} {S : List Int} (h : BS W gb bm a0 a1 A n c m S) : W.cell? ⟨gb, 2, none⟩ = some (.slice A n c) := (blk_cell h.bf 2).trans rfl
theorem BS.row {W W' : World} {gb bm : Nat} {a0 a1 : Int} {A : Option Addr} {n c m : Nat} {S : List Int} (h : BS W gb bm a0 a1 A n c m S) {v : Value} (hg : W.grownBy W' v.ownBlock) (ht : ∀ k, v.ownBlock = some k → ∃ cells, W.heap[k]? = some (.cells cells 3 (0, 0))) : BS W' gb bm a0 a1 A n c m S := by
 refine ⟨blk_grown h.bf hg (fun he => ?_), h.bm.grown hg (h.bm.ne fun k hk => ?_)⟩
 ·obtain ⟨cells, hc⟩ := ht gb he.symm
  rw [h.bf] at hc
  injection hc with hc
  injection hc with _ hc
  exact absurd hc (by decide)
 ·obtain ⟨cells, hc⟩ := ht k hk
  exact ⟨cells, 3, hc⟩
set_option maxHeartbeats 16000000 in
set_option maxRecDepth 100000 in
theorem loop_body.calls (a0_0 : Int) (a0_1 : Int) (A0_2 : Option Addr) (c0_2 : Nat) (l0_2 : List S50) (a1 : Int) (P2_ : Nat → Prop) (u9000_ : Value) (l2 : List Int) (r : List Int) (w0 w : World) (hB : Below w0.heap.size w0 w) (hr0_2 : ∀ W_, Kept w W_ (fun k_ => P2_ k_) → Kd.C k50 W_ A0_2 l0_2.length l0_2) (hc0_2 : l0_2.length ≤ c0_2) (ho2 : Kd.R (Kd.int .i64) 3 w w0.heap.size P2_ u9000_ l2) (h : loop_body.f a0_0 a0_1 l0_2 a1 l2 = some r) :
  Calls Try.prog 41 #[.agg #[.int .i64 a0_0, .int .i64 a0_1, .slice A0_2 l0_2.length c0_2], .int .i64 a1, u9000_] w (BodyPost r P2_ w0 w) := by
 obtain ⟨k, hk⟩ := anyK_some h
 unfold bodyO at hk
 by_cases hwf : wfI a1 ∧ l0_2.length ≤ 1000
 ·rw [if_pos hwf] at hk
  obtain ⟨S, hS, rfl⟩ := Option.map_eq_some_iff.1 hk
  obtain ⟨hw1, hl⟩ := hwf
  have HG := Aside0.mk hS
  have HW1 := Aside0.mk hw1
  have HR := Aside0.mk hr0_2
  have HB0 := Aside0.mk hB
  have HQ0 := Aside0.mk ho2
  clear h hk hS hw1 hr0_2 hB ho2
  have hu24 := Try.underlying24
  have hmm := @run_makeMap Try.prog
  go_enter Try.func41, Try.ntmps41
  go_wp2_with (first | ((with_reducible refine gate_dst (N := 3) rfl ?_); refine box_event ?hg (N := 3) ?hd (cs := #[.int .i64 a0_0, .int .i64 a0_1, .slice A0_2 l0_2.length c0_2]) (t := 24) ?hr ?_; (case hd => rfl); (case hg => rfl); (case hr => first | (go_simp; done) | (go_simp; rfl)); intro gb hg w4 hbox hb; have BK := Aside0.mk hbox; have HB := Aside0.mk hb; have GE := Aside0.mk (show w.heap.size ≤ gb by omega); obtain ⟨w5, hupd, hm5, hg5⟩ := (MapSet.made w4).put (by decide) HW1.out; have HS := Aside0.mk (show BS w5 gb w4.heap.size a0_0 a0_1 A0_2 l0_2.length c0_2 1 [a1] from ⟨blk_grown (blk_alloc hbox _) hg5 (by have := blk_lt hbox; intro he; injection he with he; omega), hm5⟩); have HB5 := Aside0.mk (show Below w.heap.size w w5 from (below_alloc hb _).grown hg5 (below_size (below_alloc hb _)) (by intro q hq; injection hq with hq; have := below_size hb; omega)); have HBB4 := Aside0.mk (show w.heap.size ≤ w4.heap.size from below_size hb); clear hm5 hg5; clear hbox hb hg HB BK))
  clear hupd hmm
  have HWW := Aside0.mk (show w0.heap.size ≤ w.heap.size from HB0.out.size)
  have HBB := Aside0.mk (show w.heap.size ≤ w4.heap.size from HBB4.out)
  generalize w4.heap.size = bm at HS HBB ⊢
  have HK5 := Aside0.mk (show Kept w w5 (fun k_ => P2_ k_) from Kept.of_below HB5.out _)
  have HB6 := Aside0.mk (show Below w0.heap.size w0 w5 from HB0.out.trans (HB5.out.mono HB0.out.size))
  have HQ := Aside0.mk (show Kd.Q (Kd.int .i64) 3 w5 w0.heap.size (fun k_ => P2_ k_ ∨ w.heap.size ≤ k_) u9000_ l2 from Kd.Q_of_R (Kd.R_mono (Kd.R_below HQ0.out HB5.out) (fun q hq => .inl hq)))
  have HBM := Aside0.mk (show w.heap.size ≤ gb from GE.out)
  clear HQ0 HB0 HB5 GE
  go_loopg [2] k (fun gg s2 wr => ∃ (v2 : Value) (todo T : List Int), s2 = v2 ∧ Aside0 (goO a0_0 a0_1 l0_2 a1 k gg T todo = some S) ∧ Aside0 (Kd.Q (Kd.int .i64) 3 wr w0.heap.size (fun k_ => P2_ k_ ∨ w.heap.size ≤ k_) v2 todo) ∧ Aside0 (BS wr gb bm a0_0 a0_1 A0_2 l0_2.length c0_2 T.length T) ∧ Aside0 (Kept w wr (fun k_ => P2_ k_)) ∧ Aside0 (Below w0.heap.size w0 wr))
  case atStart => exact ⟨u9000_, l2, [a1], rfl, HG, HQ, HS, HK5, HB6⟩
  case round =>
   clear HG HQ HS HK5 HB6
   obtain ⟨v2, todo, T, rfl, HG, HQ, HS, HK, HB⟩ := hrel
   obtain ⟨A2, c2, rfl, hc2⟩ := Kd.Q_slice HQ.out
   cases gk with
   | zero => exact absurd HG.out (by simp [goO])
   | succ j =>
   cases todo with
   | nil =>
    have hG := HG.out
    rw [goO] at hG
    obtain rfl := Option.some.inj hG
    clear hG
    have hf2 := HS.out.f2
    go_wp2
    clear hf2
    go_loopg [11, 49] l0_2.length (fun gg s11 s49 wr => ∃ (v11 : Value) (x : Int), s11 = v11 ∧ s49 = .int .i64 x ∧ Aside0 (0 ≤ x ∧ x ≤ l0_2.length ∧ l0_2.length - x ≤ gg) ∧ Aside0 (Kd.R (Kd.int .i64) 3 wr w0.heap.size (fun k_ => w.heap.size ≤ k_) v11 (pick T x.toNat)) ∧ Aside0 (BS wr gb bm a0_0 a0_1 A0_2 l0_2.length c0_2 T.length T) ∧ Aside0 (Kept w wr (fun k_ => P2_ k_)) ∧ Aside0 (Below w0.heap.size w0 wr))
    case atStart => exact ⟨_, 0, rfl, rfl, ⟨by omega⟩, ⟨Kd.R_nil _ _ _ _ _⟩, HS, HK, HB⟩
    case round =>
     clear HS HK HB HQ
     obtain ⟨v11, x, rfl, rfl, HX, HO, HS, HK, HB⟩ := hrel
     obtain ⟨x0, x1, xg⟩ := HX.out
     by_cases hlt : x < (l0_2.length : Int)
     ·have hd : decide (x < (l0_2.length : Int)) = true := decide_eq_true hlt
      have hlook := HS.out.bm.look (x := x) ⟨by omega, by omega⟩
      have hwx := Aside0.mk (wrap64_small (x + 1) (by omega) (by omega))
      have HXN := Aside0.mk (And.intro x0 hlt)
      by_cases hin : x ∈ T
      ·rw [show decide (x ∈ T) = true from decide_eq_true hin] at hlook
       have HIN := Aside0.mk hin
       clear hin x0 x1 xg hlt
       go_wp2_with (first | ((with_reducible refine gate_builtin (b := .append) (xs := #[.tmp 55, .tmp 57]) rfl ?_); at_builtin; refine Kd.R_append (Kd.int .i64) (w0 := w0) w0.heap.size rfl (.tmp 55) (.tmp 57) 27 3 (.int .i64 0) 8 rfl Try.underlying27 info3 rfl (by decide) (by omega) _ (pick T x.toNat) x [.int .i64 x] (fun k_ => w.heap.size ≤ k_) (fun _ => False) rfl rfl ?aP (fun _ hk => hk.elim) ?aF ?aO ?aB ?aS ?aL ?_; (case aP => exact rfl); (case aB => exact HB.out); (case aF => exact (fun q hq => Nat.le_trans HK.out.1 hq)); (case aO => exact HO.out); (case aS => exact HB.out.size); (case aL => have := pick_len T x.toNat; have := HXN.out; omega); intro v41 w6 ho hb hg hat; have HS6 := Aside0.mk (HS.out.row hg (Kd.R_typed HO.out)); have HK6 := Aside0.mk (Kept.of_grown hg HK.out (fun q hq => .inr (HO.out.1 q hq))); have HO6 := Aside0.mk ho; have HB6 := Aside0.mk hb; clear ho hb hg hat hlook HS HK HB HO))
       go_roundg (l0_2.length - (x.toNat + 1))
       case measure => have := HX.out; have := HXN.out; omega
       case rel =>
        refine ⟨_, x + 1, rfl, by rw [hwx.out], ⟨by have := HX.out; have := HXN.out; omega⟩, ⟨?_⟩, HS6, HK6, HB6⟩
        rw [pick_step T x HXN.out.1, if_pos HIN.out]
        exact HO6.out
      ·rw [show decide (x ∈ T) = false from decide_eq_false hin] at hlook
       have HIN := Aside0.mk hin
       clear hin x0 x1 xg hlt
       go_wp2
       go_roundg (l0_2.length - (x.toNat + 1))
       case measure => have := HX.out; have := HXN.out; omega
       case rel =>
        refine ⟨_, x + 1, rfl, by rw [hwx.out], ⟨by have := HX.out; have := HXN.out; omega⟩, ⟨?_⟩, HS, HK, HB⟩
        rw [pick_step T x HXN.out.1, if_neg HIN.out, List.append_nil]
        exact HO.out
     ·have hd : decide (x < (l0_2.length : Int)) = false := decide_eq_false hlt
      have hxe : x.toNat = l0_2.length := by omega
      rw [hxe] at HO
      clear x0 x1 xg hlt hxe HX
      obtain ⟨A11, c11, rfl⟩ := Kd.R_slice HO.out
      go_wp2
      go_ret
      exact ⟨_, rfl, Kd.R_mono HO.out (fun q hq => .inr hq), HB.out, HK.out⟩
   | cons n rest =>
    have hG := HG.out
    rw [goO] at hG
    by_cases hwn : wfI n ∧ T.length < 1000000
    ·rw [if_pos hwn] at hG
     obtain ⟨wn, tl⟩ := hwn
     have hlook := HS.out.bm.look wn
     have hC := (Kd.Q_reads' HQ.out).2.2
     obtain ⟨ad, e1, hx⟩ := Kd.at_int hC 0 (by omega) (by simp)
     cases e1
     rw [show (0 : Int).toNat = 0 from rfl, show rd (n :: rest) 0 = n from rfl] at hx
     rw [show ad.add 0 = ad by cases ad; simp [Addr.add]] at hx
     obtain ⟨i0, hi0, hzz⟩ := Option.map_eq_some_iff.1 info3
     have hsz0 : i0.size = 1 := by simp only [Prod.mk.injEq] at hzz; exact hzz.2.1
     obtain ⟨A6, hcut, HQ6⟩ : ∃ A6 : Option Addr, (∀ W : World, (Instr.slice 27 (.slice (some ad) (n :: rest).length c2) (some (.int .i64 1)) none none).run Try.prog W = .ok (.slice A6 rest.length (c2 - 1)) W) ∧ Aside0 (Kd.Q (Kd.int .i64) 3 wr w0.heap.size (fun k_ => P2_ k_ ∨ w.heap.size ≤ k_) (.slice A6 rest.length (c2 - 1)) rest) := by
      refine ⟨if c2 = 1 then some ad else (some ad).map (·.add (1 * 1)), fun W => ?_, ⟨?_⟩⟩
      ·have := cut_from (P := Try.prog) 27 3 .i64 Try.underlying27 hi0 1 hsz0 (some ad) (n :: rest).length c2 1 (by omega) (by simp; omega) W
       exact this
      ·exact Kd.Q_drop (k := 1) HQ.out (by simp)
     clear hzz hsz0 hi0 hC
     have hd : decide ((0 : Int) < ((n :: rest).length : Int)) = true := decide_eq_true (by simp)
     have hd2 : (0 < (n :: rest).length) = True := eq_true (by simp)
     obtain ⟨L, hL⟩ : ∃ L, (n :: rest).length = L := ⟨_, rfl⟩
     rw [hL] at hcut hd hd2 hc2 ⊢
     have hLm : L ≤ 9223372036854775807 := by have := (Kd.Q_reads' HQ.out).2.2.2.1; omega
     clear hL
     by_cases hin : n ∈ T
     ·rw [if_pos hin] at hG
      rw [show decide (n ∈ T) = true from decide_eq_true hin] at hlook
      have HG2 := Aside0.mk hG
      clear hin hG wn tl
      go_wp2
      go_roundg j
      case measure => omega
      case rel => exact ⟨_, rest, T, rfl, HG2, HQ6, HS, HK, HB⟩
     ·rw [if_neg hin] at hG
      rw [show decide (n ∈ T) = false from decide_eq_false hin] at hlook
      cases hps : flow_Before.f k a0_0 a0_1 l0_2 n with
      | none => rw [hps] at hG; cases hG
      | some ps =>
      rw [hps, Option.bind_some] at hG
      cases had : addO (fun x => dom_Is.f k a0_0 a0_1 l0_2 a1 x) ps rest with
      | none => rw [had] at hG; cases hG
      | some todo =>
      rw [had, Option.bind_some] at hG
      have HG2 := Aside0.mk hG
      have HPS := Aside0.mk hps
      have HAD := Aside0.mk had
      obtain ⟨w6, hupd, hm6, hg6⟩ := HS.out.bm.put (show T.length < maxLen by unfold maxLen; omega) wn
      have HS6 := Aside0.mk (show BS w6 gb bm a0_0 a0_1 A0_2 l0_2.length c0_2 (n :: T).length (n :: T) from ⟨blk_grown HS.out.bf hg6 (by
       intro he
       injection he with he
       obtain ⟨D, ⟨es, clock, hb, _⟩, _⟩ := HS.out.bm
       rw [← he, HS.out.bf] at hb
       cases hb), hm6⟩)
      have HQ7 := Aside0.mk (show Kd.Q (Kd.int .i64) 3 w6 w0.heap.size (fun k_ => P2_ k_ ∨ w.heap.size ≤ k_) (.slice A6 rest.length (c2 - 1)) rest from Kd.Q_grown1 HQ6.out rfl hg6 (HS.out.bm.ne fun q hq => by obtain ⟨cells, hc⟩ := Kd.Q_typed HQ6.out q hq; exact ⟨cells, 3, hc⟩))
      have HMB := Aside0.mk (show w.heap.size ≤ bm from HBB.out)
      have HK6 := Aside0.mk (Kept.of_grown hg6 HK.out (fun q hq => by injection hq with hq; subst hq; exact .inr HMB.out))
      have HB6 := Aside0.mk (show Below w0.heap.size w0 w6 from HB.out.grown hg6 HB.out.size (fun q hq => by injection hq with hq; subst hq; exact Nat.le_trans HWW.out HMB.out))
      clear hm6 hg6 hin hG hps had wn tl HQ HS HK HB HQ6 HG
      have hf0 := HS6.out.f0
      have hf1 := HS6.out.f1
      have hf2 := HS6.out.f2
      go_wp2_with (go_at_call 26; refine (flow_Before.calls k a0_0 a0_1 A0_2 c0_2 l0_2 n ps w6 (HR.out _ HK6.out) hc0_2 HPS.out).mono ?_; rintro e w8 ⟨v31, rfl, ho, hb⟩; obtain ⟨A7, c7, rfl, hc7, hC7⟩ := Kd.R_reads ho; have hm7 := hC7.2.1; have H7 := Aside0.mk (show Kd.R (Kd.int .i64) 3 w8 w6.heap.size (fun _ => True) (.slice A7 ps.length c7) ps from ho); have n0_ := Aside0.mk (HS6.out.below hb); have n1_ := Aside0.mk (Kd.Q_below HQ7.out hb); have n2_ := Aside0.mk (HK6.out.below hb); have n3_ := Aside0.mk (show Below w0.heap.size w0 w8 from HB6.out.trans (hb.mono HB6.out.size)); have H7N := Aside0.mk (show ∀ q, (Value.slice A6 rest.length (c2 - 1)).ownBlock = some q → (Value.slice A7 ps.length c7).ownBlock ≠ some q from fun q hq he => by have h1 := Kd.R_base ho q he; have h2 := Kd.Q_lt HQ7.out q hq; omega); clear HS6 HQ7 HK6 HB6 hf0 hf1 hf2 ho hb hC7 hx hupd hlook; have HS := n0_; have HQ := n1_; have HK := n2_; have HB := n3_; clear n0_ n1_ n2_ n3_)
      clear hcut hd hd2
      obtain ⟨vq, hvq⟩ : ∃ vq, vq = Value.slice A6 rest.length (c2 - 1) := ⟨_, rfl⟩
      go_loopg [2, 33] ps.length (fun gg s2 s33 wr => ∃ (v2 : Value) (y : Int) (td : List Int), s2 = v2 ∧ s33 = .int .i64 y ∧ Aside0 (0 ≤ y ∧ y ≤ ps.length ∧ ps.length - y ≤ gg) ∧ Aside0 (addO (fun x => dom_Is.f k a0_0 a0_1 l0_2 a1 x) (ps.drop y.toNat) td = some todo) ∧ Aside0 (Kd.Q (Kd.int .i64) 3 wr w0.heap.size (fun k_ => P2_ k_ ∨ w.heap.size ≤ k_) v2 td) ∧ Aside0 (Kd.R (Kd.int .i64) 3 wr w6.heap.size (fun _ => True) (.slice A7 ps.length c7) ps) ∧ Aside0 (∀ q, v2.ownBlock = some q → (Value.slice A7 ps.length c7).ownBlock ≠ some q) ∧ Aside0 (BS wr gb bm a0_0 a0_1 A0_2 l0_2.length c0_2 (n :: T).length (n :: T)) ∧ Aside0 (Kept w wr (fun k_ => P2_ k_)) ∧ Aside0 (Below w0.heap.size w0 wr))
      case atStart => exact ⟨_, 0, rest, rfl, rfl, ⟨by omega⟩, HAD, HQ, H7, H7N, HS, HK, HB⟩
      case round =>
       clear HAD HQ H7 H7N HS HK HB hvq
       obtain ⟨v2, y, td, e2, rfl, HY, HAD, HQ, H7, H7N, HS, HK, HB⟩ := hrel
       replace e2 := e2.symm
       subst e2
       obtain ⟨y0, y1, yg⟩ := HY.out
       by_cases hlt : y < (ps.length : Int)
       ·have hd : decide (y < (ps.length : Int)) = true := decide_eq_true hlt
        obtain ⟨ad7, e1, hx⟩ := Kd.at_int (Kd.R_reads' H7.out).2.2 y y0 hlt
        cases e1
        have hF := HAD.out
        rw [List.drop_eq_getElem_cons (show y.toNat < ps.length by omega), addO] at hF
        have hel : ps[y.toNat]'(by omega) = rd ps y := by simp [rd, List.getD_eq_getElem?_getD, List.getElem?_eq_getElem (show y.toNat < ps.length by omega)]
        rw [hel] at hF
        cases his : dom_Is.f k a0_0 a0_1 l0_2 a1 (rd ps y) with
        | none => rw [his] at hF; cases hF
        | some b =>
        rw [his, Option.bind_some] at hF
        have HIS := Aside0.mk his
        have hwy := Aside0.mk (wrap64_small (y + 1) (by omega) (by omega))
        have hty := Aside0.mk (show (y + 1).toNat = y.toNat + 1 by omega)
        have HYN := Aside0.mk (And.intro y0 hlt)
        have p0 := eq_true y0
        have q0 := eq_true hlt
        have hf0 := HS.out.f0
        have hf1 := HS.out.f1
        have hf2 := HS.out.f2
        cases b with
        | true =>
         rw [if_pos rfl] at hF
         by_cases htl : td.length < 1000000
         ·rw [if_pos htl] at hF
          have HF := Aside0.mk hF
          have HTL := Aside0.mk htl
          clear hF hel his y0 hlt y1 yg htl
          go_wp2_with (first | (go_at_call 15; refine (dom_Is.calls k a0_0 a0_1 A0_2 c0_2 l0_2 a1 (rd ps y) true _ (HR.out _ HK.out) hc0_2 HIS.out).mono ?_; rintro e w9 ⟨rfl, hb⟩; have n0_ := Aside0.mk (HS.out.below hb); have n1_ := Aside0.mk (Kd.Q_below HQ.out hb); have n2_ := Aside0.mk (HK.out.below hb); have n3_ := Aside0.mk (show Below w0.heap.size w0 w9 from HB.out.trans (hb.mono HB.out.size)); have n4_ := Aside0.mk (Kd.R_below H7.out hb); clear HS HQ HK HB H7 hf0 hf1 hf2 hb hx; have HS := n0_; have HQ := n1_; have HK := n2_; have HB := n3_; have H7 := n4_; clear n0_ n1_ n2_ n3_ n4_) | ((with_reducible refine gate_builtin (b := .append) (xs := #[.tmp 41, .tmp 43]) rfl ?_); at_builtin; refine Kd.Q_append (Kd.int .i64) (w0 := w0) w0.heap.size rfl (.tmp 41) (.tmp 43) 27 3 (.int .i64 0) 8 rfl Try.underlying27 info3 rfl (by decide) (by omega) _ td (rd ps y) [.int .i64 (rd ps y)] (fun k_ => P2_ k_ ∨ w.heap.size ≤ k_) (fun _ => False) rfl rfl ?aP (fun _ hk => hk.elim) ?aF ?aO ?aB ?aS ?aL ?_; (case aP => exact rfl); (case aB => exact HB.out); (case aF => exact (fun q hq => .inr (Nat.le_trans HK.out.1 hq))); (case aO => exact HQ.out); (case aS => exact HB.out.size); (case aL => have := HTL.out; omega); intro v44 w10 ho hb hg hat; have n0_ := Aside0.mk (HS.out.row hg (Kd.Q_typed HQ.out)); have n1_ := Aside0.mk ho; have n2_ := Aside0.mk (Kept.of_grown hg HK.out (fun q hq => HQ.out.1 q hq)); have n3_ := Aside0.mk hb; have n4_ := Aside0.mk (Kd.R_mono (Kd.R_kept (Kd.R_tight rfl H7.out) (S := fun q => v2.ownBlock = some q) ⟨hg.size, fun q hq hS => hg.block q hq (fun he => hS he.symm)⟩ (fun q hq hS => H7N.out q hS hq.symm)) (fun _ _ => trivial)); have n5_ := Aside0.mk (show ∀ q, v44.ownBlock = some q → (Value.slice (some ad7) ps.length c7).ownBlock ≠ some q from fun q hq he => hat.elim (fun h1 => H7N.out q (h1 ▸ hq) he) (fun ⟨b', h1, h2⟩ => by (have h3 := Kd.R_lt H7.out q he; rw [h1] at hq; injection hq with hq; omega))); clear HS HQ HK HB H7 H7N ho hb hg hat; have HS := n0_; have HQ := n1_; have HK := n2_; have HB := n3_; have H7 := n4_; have H7N := n5_; clear n0_ n1_ n2_ n3_ n4_ n5_))
          go_roundg (ps.length - (y.toNat + 1))
          case measure => have := HY.out; have := HYN.out; omega
          case rel => exact ⟨_, y + 1, td ++ [rd ps y], rfl, by rw [hwy.out], ⟨by have := HY.out; have := HYN.out; omega⟩, ⟨by rw [hty.out]; exact HF.out⟩, HQ, H7, H7N, HS, HK, HB⟩
         ·rw [if_neg htl] at hF; cases hF
        | false =>
         rw [if_neg (by simp)] at hF
         have HF := Aside0.mk hF
         clear hF hel his y0 hlt y1 yg
         go_wp2_with (go_at_call 15; refine (dom_Is.calls k a0_0 a0_1 A0_2 c0_2 l0_2 a1 (rd ps y) false _ (HR.out _ HK.out) hc0_2 HIS.out).mono ?_; rintro e w9 ⟨rfl, hb⟩; have n0_ := Aside0.mk (HS.out.below hb); have n1_ := Aside0.mk (Kd.Q_below HQ.out hb); have n2_ := Aside0.mk (HK.out.below hb); have n3_ := Aside0.mk (show Below w0.heap.size w0 w9 from HB.out.trans (hb.mono HB.out.size)); have n4_ := Aside0.mk (Kd.R_below H7.out hb); clear HS HQ HK HB H7 hf0 hf1 hf2 hb hx; have HS := n0_; have HQ := n1_; have HK := n2_; have HB := n3_; have H7 := n4_; clear n0_ n1_ n2_ n3_ n4_)
         go_roundg (ps.length - (y.toNat + 1))
         case measure => have := HY.out; have := HYN.out; omega
         case rel => exact ⟨_, y + 1, td, rfl, by rw [hwy.out], ⟨by have := HY.out; have := HYN.out; omega⟩, ⟨by rw [hty.out]; exact HF.out⟩, HQ, H7, H7N, HS, HK, HB⟩
       ·have hd : decide (y < (ps.length : Int)) = false := decide_eq_false hlt
        have hF := HAD.out
        rw [List.drop_eq_nil_of_le (by omega), addO] at hF
        obtain rfl := Option.some.inj hF
        clear hF y0 hlt y1 yg HAD HY
        go_wp2
        go_roundg j
        case measure => omega
        case rel => exact ⟨_, td, n :: T, rfl, HG2, HQ, HS, HK, HB⟩
    ·rw [if_neg hwn] at hG; cases hG
 ·rw [if_neg hwf] at hk; cases hk
end Go.Proofs.Ytilopoegoddggaa.X
namespace Go.Proofs.Ytilopoegoddggaa.X
open Go.RowKit Go.Proofs.YtilopoegoddggaaW.PrintWords Go.Proofs.YtilopoegoddggaaW.PrintLast Go.Proofs.YtilopoegoddggaaW.PrintMore
attribute [local go_sem] max2_int min2_int max_two min_two max_three min_three max_four min_four
set_option linter.all false
noncomputable section
def loop_All.l0 : Nat → List (S40) → Int → Int → Int → Int → List (S50) → Option ((List (S40)))
 | 0, _, _, _, _, _, _ => none
 | k + 1, x3, x8, x9, x334000, x334001, x334002 => if x9 < x8 then ((loop_backs.f x334000 x334001 x334002 x9).bind fun t334 => (if (t334.length : Int) > 0 then ((loop_body.f x334000 x334001 x334002 x9 t334).bind fun t337 => (if x3.length < 4398046511104 then (loop_All.l0 k (x3 ++ [(⟨x9, t337⟩ : S40)]) x8 (wrap64 (x9 + 1)) x334000 x334001 x334002) else (none))) else (loop_All.l0 k x3 x8 (wrap64 (x9 + 1)) x334000 x334001 x334002))) else (some x3)
def loop_All.f (k : Nat) (a0_0 : Int) (a0_1 : Int) (l0_2 : List (S50)) : Option ((List (S40))) := loop_All.l0 k ([] : List (S40)) (l0_2.length : Int) 0 a0_0 a0_1 l0_2
theorem loop_All.mono_l : ∀ k, (∀ y0 y1 y2 y3 y4 y5, LeO (loop_All.l0 k y0 y1 y2 y3 y4 y5) (loop_All.l0 (k + 1) y0 y1 y2 y3 y4 y5))
 | 0 => fun _ _ _ _ _ _ r h => by simp [loop_All.l0] at h
 | k + 1 => by
  have ih0 := loop_All.mono_l k
  ·intro y0 y1 y2 y3 y4 y5
   unfold loop_All.l0
   repeat' first
   | (with_reducible exact ih0 _ _ _ _ _ _)
   | (with_reducible exact LeO.refl _)
   | (with_reducible exact LeO.none _)
   | (with_reducible refine LeO.ite ?_ ?_)
   | (with_reducible refine LeO.bind ?_ (fun _ => ?_))
   | exact ih0 _ _ _ _ _ _
   | exact LeO.none _
   | refine LeO.ite ?_ ?_
   | refine LeO.bind ?_ (fun _ => ?_)
theorem loop_All.mono : ∀ a0 a1 a2 k, LeO (loop_All.f k a0 a1 a2) (loop_All.f (k + 1) a0 a1 a2) := by
 intro a0 a1 a2 k
 have ih0 := loop_All.mono_l k
 unfold loop_All.f
 repeat' first
   | (with_reducible exact ih0 _ _ _ _ _ _)
   | (with_reducible exact LeO.refl _)
   | (with_reducible exact LeO.none _)
   | (with_reducible refine LeO.ite ?_ ?_)
   | (with_reducible refine LeO.bind ?_ (fun _ => ?_))
   | exact ih0 _ _ _ _ _ _
   | exact LeO.none _
   | refine LeO.ite ?_ ?_
   | refine LeO.bind ?_ (fun _ => ?_)
set_option maxHeartbeats 8000000 in
set_option maxRecDepth 100000 in
theorem loop_All.calls (k : Nat) (a0_0 : Int) (a0_1 : Int) (A0_2 : Option Addr) (c0_2 : Nat) (l0_2 : List (S50)) (r : List (S40)) (w : World) (hr0_2 : Kd.C k50 w A0_2 l0_2.length l0_2) (hc0_2 : l0_2.length ≤ c0_2) (h : loop_All.f k a0_0 a0_1 l0_2 = some r) :
  Calls Try.prog 23 #[.agg #[.int .i64 a0_0, .int .i64 a0_1, .slice A0_2 l0_2.length c0_2]] w fun e w' => ∃ v0_ : Value, e = .returned (v0_) ∧ Kd.S k40 40 w' w.heap.size (fun _ => True) v0_ r ∧ Below w.heap.size w w' := by
 have hu24 := Try.underlying24
 have hu40 := Try.underlying40
 have HR0_2 := Aside0.mk hr0_2
 have HC0_2 := Aside0.mk hc0_2
 clear hr0_2 hc0_2
 have HB := Aside0.mk (Below.refl w.heap.size w)
 have H : (loop_All.l0 k ([] : List (S40)) (l0_2.length : Int) 0 a0_0 a0_1 l0_2) = some r := h
 clear h
 have H' := Aside0.mk H
 clear H
 go_enter Try.func23, Try.ntmps23
 go_wp2_with (first | ((with_reducible refine gate_dst (N := 1) rfl ?_); refine box_event ?hg (N := 1) ?hd (cs := #[.int .i64 a0_0, .int .i64 a0_1, .slice A0_2 l0_2.length c0_2]) (t := 24) ?hr ?_; (case hd => rfl); (case hg => rfl); (case hr => first | (go_simp; done) | (go_simp; rfl)); intro gb333 hg w2 hbox hb; have n0_ := Aside0.mk (below_step (by repeat (first | (with_reducible first | exact HB.out | apply below_alloc | apply pw_below_drewN | apply below_drew1) | exact HB.out)) hb); have n1_ := Aside0.mk (hbox); have n2_ := Aside0.mk ((by rw [hg]; exact (below_size (by repeat (first | (with_reducible first | exact HB.out | apply below_alloc | apply pw_below_drewN | apply below_drew1) | exact HB.out))) : w.heap.size ≤ gb333)); have n3_ := Aside0.mk ((by rw [hg]; exact (below_size (by repeat (first | (with_reducible first | exact HB.out | apply below_alloc | apply pw_below_drewN | apply below_drew1) | exact HB.out))) : w.heap.size ≤ gb333)); clear HB; have HB := n0_; have BK333 := n1_; have GW333 := n2_; have GE333 := n3_; clear n0_ n1_ n2_ n3_; clear hb hbox hg; have hcz3_0 : w2.cell? ⟨gb333, 0, none⟩ = some (.int .i64 a0_0) := (blk_cell BK333.out 0).trans rfl; have hcz3_1 : w2.cell? ⟨gb333, 1, none⟩ = some (.int .i64 a0_1) := (blk_cell BK333.out 1).trans rfl; have hcz3_2 : w2.cell? ⟨gb333, 2, none⟩ = some (.slice A0_2 l0_2.length c0_2) := (blk_cell BK333.out 2).trans rfl; have hfz3_0 := blk_frozen BK333.out 0; have hfz3_1 := blk_frozen BK333.out 1; have hfz3_2 := blk_frozen BK333.out 2))
 go_loopg [3, 9] k (fun kq v3 v9 w' => ∃ (x3_1 : List (S40)) (x9_1 : Int), v9 = .int .i64 x9_1 ∧ Aside0 (loop_All.l0 kq x3_1 (l0_2.length : Int) x9_1 a0_0 a0_1 l0_2 = some r) ∧ Aside0 (kq ≤ k) ∧ Aside0 (Kd.S k40 40 w' w.heap.size (fun _ => True) v3 x3_1) ∧ Aside0 (w'.heap[gb333]? = some (.cells #[.int .i64 a0_0, .int .i64 a0_1, (.slice A0_2 l0_2.length c0_2)] 24 (0, 0))) ∧ Aside0 (Below w.heap.size w w'))
 case atStart => exact ⟨(([] : List (S40))), (0), (by first | rfl | (simp; done) | (simp [*]; done)), H', ⟨Nat.le_refl _⟩, ⟨by first | exact Kd.S_nil _ _ _ _ _ | exact Kd.N_nil _ _ _ _ _ | exact Kd.V_nil _ _ _ _ _ | exact Kd.Q_nil _ _ _ _ _ | exact Kd.R_nil _ _ _ _ _⟩, ⟨by (with_reducible repeat (first | refine blk_drewN ?_ _ | refine blk_drew ?_ | refine blk_alloc ?_ _)); exact BK333.out⟩, ⟨by repeat (first | (with_reducible first | exact HB.out | apply below_alloc | apply pw_below_drewN | apply below_drew1 | refine below_set ?_ GE333.out) | exact HB.out)⟩⟩
 case round =>
  clear H'
  try clear c2
  try clear p2
  try clear hcz3_0
  try clear hcz3_1
  try clear hcz3_2
  try clear hfz3_0
  try clear hfz3_1
  try clear hfz3_2
  obtain ⟨x3_1, x9_1, rfl, HA, HK1, HO_3, BK333, HB⟩ := hrel
  cases gk with
  | zero => exact absurd HA.out (by simp [loop_All.l0])
  | succ k1 =>
   have H := HA.out
   clear HA
   simp only [loop_All.l0] at H
   by_cases c4 : x9_1 < (l0_2.length : Int)
   ·rw [if_pos c4] at H
    have c4b0 : decide (x9_1 < (l0_2.length : Int)) = true := decide_eq_true c4
    clear c4
    replace H := Option.bind_eq_some_iff.mp H
    obtain ⟨t334, A50, H⟩ := H
    replace H : (if (t334.length : Int) > 0 then ((loop_body.f a0_0 a0_1 l0_2 x9_1 t334).bind fun t337 => (if x3_1.length < 4398046511104 then (loop_All.l0 k1 (x3_1 ++ [(⟨x9_1, t337⟩ : S40)]) (l0_2.length : Int) (wrap64 (x9_1 + 1)) a0_0 a0_1 l0_2) else (none))) else (loop_All.l0 k1 x3_1 (l0_2.length : Int) (wrap64 (x9_1 + 1)) a0_0 a0_1 l0_2)) = some r := H
    have A5 := Aside0.mk A50
    clear A50
    by_cases c6 : (t334.length : Int) > 0
    ·rw [if_pos c6] at H
     have c6b0 : decide (0 < (t334.length : Int)) = true := decide_eq_true c6
     have c6b1 : decide (0 < t334.length) = true := decide_eq_true (by omega)
     clear c6
     replace H := Option.bind_eq_some_iff.mp H
     obtain ⟨t337, A70, H⟩ := H
     replace H : (if x3_1.length < 4398046511104 then (loop_All.l0 k1 (x3_1 ++ [(⟨x9_1, t337⟩ : S40)]) (l0_2.length : Int) (wrap64 (x9_1 + 1)) a0_0 a0_1 l0_2) else (none)) = some r := H
     have A7 := Aside0.mk A70
     clear A70
     by_cases c8 : x3_1.length < 4398046511104
     ·rw [if_pos c8] at H
      have LMc8 := Aside0.mk c8
      clear c8
      obtain ⟨y340, hy340⟩ : ∃ y_ : List (S40), y_ = (x3_1 ++ [(⟨x9_1, t337⟩ : S40)]) := ⟨_, rfl⟩
      replace H : (loop_All.l0 k1 y340 (l0_2.length : Int) (wrap64 (x9_1 + 1)) a0_0 a0_1 l0_2) = some r := by first | (rw [hy340]; with_reducible exact H) | (have H2_ := (Option.bind_some _ _).symm.trans H; rw [hy340]; with_reducible exact H2_) | (have H2_ := (Option.bind_some _ _).symm.trans H; with_reducible exact H2_) | with_reducible exact H | (rw [hy340]; exact H) | exact H
      have Ny340 := Aside0.mk hy340
      clear hy340
      have H' := Aside0.mk H
      clear H
      have hcz9_0 : wr.cell? ⟨gb333, 0, none⟩ = some (.int .i64 a0_0) := (blk_cell BK333.out 0).trans rfl
      have hcz9_1 : wr.cell? ⟨gb333, 1, none⟩ = some (.int .i64 a0_1) := (blk_cell BK333.out 1).trans rfl
      have hcz9_2 : wr.cell? ⟨gb333, 2, none⟩ = some (.slice A0_2 l0_2.length c0_2) := (blk_cell BK333.out 2).trans rfl
      have hfz9_0 := blk_frozen BK333.out 0
      have hfz9_1 := blk_frozen BK333.out 1
      have hfz9_2 := blk_frozen BK333.out 2
      go_wp2_with (first | ((with_reducible refine gate_callee (f := 40) rfl ?_); refine goesL_ (some 14) rfl rfl Try.func40 (by kernel_rfl) rfl #[.agg #[.int .i64 a0_0, .int .i64 a0_1, .slice A0_2 l0_2.length c0_2], .int .i64 x9_1] rfl (by (try simp only [List.map_toArray, List.map_cons, List.map_nil]); first | done | rfl | (simp only [List.length_drop, List.length_take]; rfl)) ?_; (with_reducible refine (loop_backs.calls a0_0 a0_1 _ _ l0_2 x9_1 t334 _ ?side1 ?side2 A5.out).mono ?_); (case side1 => repeat (first | exact (Kd.C_below HR0_2.out HB.out) | (with_reducible refine Kd.C_alloc ?_ _) | (with_reducible refine Kd.C_drewN ?_ _) | (with_reducible refine Kd.C_drew ?_))); (case side2 => exact HC0_2.out); rintro e w10 ⟨v335, rfl, ho0, hb⟩; refine ⟨_, rfl, ?_⟩; have n0_ := Aside0.mk (Kd.S_elder' (by (with_reducible repeat (first | apply Kd.S_alloc | apply Kd.S_drewN | apply Kd.S_drew)); exact HO_3.out) (Kd.R_base ho0) hb); have n1_ := Aside0.mk (Kd.R_lower ho0 (below_size (by repeat (first | (with_reducible first | exact HB.out | apply below_alloc | apply pw_below_drewN | apply below_drew1 | refine below_set ?_ GE333.out) | exact HB.out)))); have n2_ := Aside0.mk (blk_below (g := gb333) (o := .cells #[.int .i64 a0_0, .int .i64 a0_1, .slice A0_2 l0_2.length c0_2] 24 (0, 0)) (by (with_reducible repeat (first | refine blk_drewN ?_ _ | refine blk_drew ?_ | refine blk_alloc ?_ _)); exact BK333.out) hb); have n3_ := Aside0.mk (below_step (by repeat (first | (with_reducible first | exact HB.out | apply below_alloc | apply pw_below_drewN | apply below_drew1 | refine below_set ?_ GE333.out) | exact HB.out)) hb); clear HO_3; clear BK333; clear HB; have HO_3 := n0_; have HO336 := n1_; have BK333 := n2_; have HB := n3_; clear n0_ n1_ n2_ n3_; (try clear hb); (try clear hb2); (try clear hk); (try clear hi); (try clear ho0); obtain ⟨Ao11, co11, eo11⟩ := Kd.R_slice HO336.out; subst eo11; have hcz12_0 : w10.cell? ⟨gb333, 0, none⟩ = some (.int .i64 a0_0) := (blk_cell BK333.out 0).trans rfl; have hcz12_1 : w10.cell? ⟨gb333, 1, none⟩ = some (.int .i64 a0_1) := (blk_cell BK333.out 1).trans rfl; have hcz12_2 : w10.cell? ⟨gb333, 2, none⟩ = some (.slice A0_2 l0_2.length c0_2) := (blk_cell BK333.out 2).trans rfl; have hfz12_0 := blk_frozen BK333.out 0; have hfz12_1 := blk_frozen BK333.out 1; have hfz12_2 := blk_frozen BK333.out 2) | ((with_reducible refine gate_callee (f := 41) rfl ?_); refine goesL_ (some 23) rfl rfl Try.func41 (by kernel_rfl) rfl #[.agg #[.int .i64 a0_0, .int .i64 a0_1, .slice A0_2 l0_2.length c0_2], .int .i64 x9_1, .slice Ao11 t334.length co11] rfl (by (try simp only [List.map_toArray, List.map_cons, List.map_nil]); first | done | rfl | (simp only [List.length_drop, List.length_take]; rfl)) ?_; (with_reducible refine (loop_body.calls a0_0 a0_1 _ _ l0_2 x9_1 (fun k_ => some k_ = (.slice Ao11 t334.length co11 : Value).ownBlock) (.slice Ao11 t334.length co11) t334 t337 w _ ?side1 ?side2 ?side3 ?side4 A7.out).mono ?_); (case side1 => repeat (first | (with_reducible first | exact HB.out | apply below_alloc | apply pw_below_drewN | apply below_drew1 | refine below_set ?_ GE333.out) | exact HB.out)); (case side2 => exact Kd.C_kept_came k50_heap HR0_2.out (by repeat (first | (with_reducible first | exact HB.out | apply below_alloc | apply pw_below_drewN | apply below_drew1 | refine below_set ?_ GE333.out) | exact HB.out)) (fun k_ hs_ => (fun e_ => Kd.R_base HO336.out k_ e_.symm) hs_)); (case side3 => exact HC0_2.out); (case side4 => exact Kd.R_tight rfl HO336.out); rintro e w13 ⟨v338, rfl, ho0, hb, hkp⟩; refine ⟨_, rfl, ?_⟩; have n0_ := Aside0.mk (Kd.S_mono (ok' := fun k_ => some k_ ≠ (v338 : Value).ownBlock) (Kd.S_keptB (HO_3.out) hkp (fun k_ hk_ hs_ => (hk_.2) hs_)) (fun k_ hk_ => fun e_ => Or.elim (ho0.1 k_ e_.symm) (fun hs_ => hk_.2.1 hs_) (fun hn_ => Nat.not_le.2 hk_.2.2 hn_))); have n1_ := Aside0.mk (blk_kept (by (with_reducible repeat (first | refine blk_drewN ?_ _ | refine blk_drew ?_ | refine blk_alloc ?_ _)); exact BK333.out) hkp (fun hs_ => (fun e_ => (Kd.R_ne HO336.out BK333.out (by decide)) e_) hs_)); have n2_ := Aside0.mk (Kd.R_mono (ok' := fun k_ => True) ho0 (fun k_ hk_ => trivial)); have n3_ := Aside0.mk (hb); clear HO_3; clear BK333; clear HB; clear HO336; have HO_3 := n0_; have BK333 := n1_; have HO339 := n2_; have HB := n3_; clear n0_ n1_ n2_ n3_; (try clear hb); (try clear hkp); (try clear ho0); obtain ⟨Ao14, co14, eo14⟩ := Kd.R_slice HO339.out; subst eo14) | ((with_reducible refine gate_builtin (b := .append) (xs := #[.tmp 18, .tmp 25]) rfl ?_); at_builtin; refine Kd.S_append k40 (w0 := w) w.heap.size rfl (.tmp 18) (.tmp 25) 37 40 (.agg #[(.int .i64 0), (.slice none 0 0)]) 32 rfl Try.underlying37 info40 rfl (by decide) (by omega) u3 x3_1 (⟨x9_1, t337⟩ : S40) [.int .i64 x9_1, .slice Ao14 t337.length co14] (fun _ => True) (fun k_ => some k_ = (.slice Ao14 t337.length co14 : Value).ownBlock) rfl rfl ?aP (fun k_ hk_ => ((Kd.R_mono (ok' := fun k_ => ((fun _ => True)) k_ ∧ some k_ ≠ (u3 : Value).ownBlock) (Kd.R_apart' (HO339.out) (Kd.S_typed HO_3.out) (by decide)) (fun k_ hk => ⟨trivial, hk.2⟩))).1 k_ hk_.symm) ?aF ?aO ?aB ?aS ?aL ?_; (case aP => exact k40_mkM _ _ _ (⟨x9_1, t337⟩ : S40) (Kd.R_mono (Kd.R_tight rfl (Kd.R_mono (ok' := fun k_ => ((fun _ => True)) k_ ∧ some k_ ≠ (u3 : Value).ownBlock) (Kd.R_apart' (HO339.out) (Kd.S_typed HO_3.out) (by decide)) (fun k_ hk => ⟨trivial, hk.2⟩))) (fun _ h_ => h_))); (case aB => exact (by repeat (first | (with_reducible first | exact HB.out | apply below_alloc | apply pw_below_drewN | apply below_drew1 | refine below_set ?_ GE333.out) | exact HB.out))); (case aF => exact (fun _ _ => trivial)); (case aO => exact (by (with_reducible repeat (first | apply Kd.S_alloc | apply Kd.S_drewN | apply Kd.S_drew)); exact Kd.S_mono HO_3.out (fun k_ hk => ⟨trivial, fun e_ => hk e_⟩))); (case aS => exact (below_size (by repeat (first | (with_reducible first | exact HB.out | apply below_alloc | apply pw_below_drewN | apply below_drew1 | refine below_set ?_ GE333.out) | exact HB.out)))); (case aL => have := LMc8.out; omega); intro v341 w15 ho hb hg hat; rw [← Ny340.out] at ho; have n0_ := Aside0.mk (blk_grown (g := gb333) (o := .cells #[.int .i64 a0_0, .int .i64 a0_1, .slice A0_2 l0_2.length c0_2] 24 (0, 0)) (by (with_reducible repeat (first | refine blk_drewN ?_ _ | refine blk_drew ?_ | refine blk_alloc ?_ _)); exact BK333.out) hg (Kd.S_ne HO_3.out BK333.out (by decide))); have n1_ := Aside0.mk (hb); have n2_ := Aside0.mk (ho); clear BK333; clear HB; clear HO_3; clear HO339; have BK333 := n0_; have HB := n1_; have HO342 := n2_; clear n0_ n1_ n2_; clear ho hb hg hat))
      go_roundg k1
      case measure => have := HK1.out; omega
      case rel => exact ⟨(y340), (wrap64 (x9_1 + 1)), (by first | rfl | (simp; done) | (simp [*]; done)), H', ⟨by have := HK1.out; omega⟩, ⟨by (with_reducible repeat (first | apply Kd.S_alloc | apply Kd.S_drewN | apply Kd.S_drew)); exact HO342.out⟩, ⟨by (with_reducible repeat (first | refine blk_drewN ?_ _ | refine blk_drew ?_ | refine blk_alloc ?_ _)); exact BK333.out⟩, ⟨by repeat (first | (with_reducible first | exact HB.out | apply below_alloc | apply pw_below_drewN | apply below_drew1 | refine below_set ?_ GE333.out) | exact HB.out)⟩⟩
     ·rw [if_neg c8] at H
      exact absurd H (by simp)
    ·rw [if_neg c6] at H
     have c6b0 : decide (0 < (t334.length : Int)) = false := decide_eq_false c6
     have c6b1 : decide (0 < t334.length) = false := decide_eq_false (by omega)
     clear c6
     have H' := Aside0.mk H
     clear H
     have hcz16_0 : wr.cell? ⟨gb333, 0, none⟩ = some (.int .i64 a0_0) := (blk_cell BK333.out 0).trans rfl
     have hcz16_1 : wr.cell? ⟨gb333, 1, none⟩ = some (.int .i64 a0_1) := (blk_cell BK333.out 1).trans rfl
     have hcz16_2 : wr.cell? ⟨gb333, 2, none⟩ = some (.slice A0_2 l0_2.length c0_2) := (blk_cell BK333.out 2).trans rfl
     have hfz16_0 := blk_frozen BK333.out 0
     have hfz16_1 := blk_frozen BK333.out 1
     have hfz16_2 := blk_frozen BK333.out 2
     go_wp2_with (first | ((with_reducible refine gate_callee (f := 40) rfl ?_); refine goesL_ (some 14) rfl rfl Try.func40 (by kernel_rfl) rfl #[.agg #[.int .i64 a0_0, .int .i64 a0_1, .slice A0_2 l0_2.length c0_2], .int .i64 x9_1] rfl (by (try simp only [List.map_toArray, List.map_cons, List.map_nil]); first | done | rfl | (simp only [List.length_drop, List.length_take]; rfl)) ?_; (with_reducible refine (loop_backs.calls a0_0 a0_1 _ _ l0_2 x9_1 t334 _ ?side1 ?side2 A5.out).mono ?_); (case side1 => repeat (first | exact (Kd.C_below HR0_2.out HB.out) | (with_reducible refine Kd.C_alloc ?_ _) | (with_reducible refine Kd.C_drewN ?_ _) | (with_reducible refine Kd.C_drew ?_))); (case side2 => exact HC0_2.out); rintro e w17 ⟨v335, rfl, ho0, hb⟩; refine ⟨_, rfl, ?_⟩; have n0_ := Aside0.mk (Kd.S_elder' (by (with_reducible repeat (first | apply Kd.S_alloc | apply Kd.S_drewN | apply Kd.S_drew)); exact HO_3.out) (Kd.R_base ho0) hb); have n1_ := Aside0.mk (Kd.R_lower ho0 (below_size (by repeat (first | (with_reducible first | exact HB.out | apply below_alloc | apply pw_below_drewN | apply below_drew1 | refine below_set ?_ GE333.out) | exact HB.out)))); have n2_ := Aside0.mk (blk_below (g := gb333) (o := .cells #[.int .i64 a0_0, .int .i64 a0_1, .slice A0_2 l0_2.length c0_2] 24 (0, 0)) (by (with_reducible repeat (first | refine blk_drewN ?_ _ | refine blk_drew ?_ | refine blk_alloc ?_ _)); exact BK333.out) hb); have n3_ := Aside0.mk (below_step (by repeat (first | (with_reducible first | exact HB.out | apply below_alloc | apply pw_below_drewN | apply below_drew1 | refine below_set ?_ GE333.out) | exact HB.out)) hb); clear HO_3; clear BK333; clear HB; have HO_3 := n0_; have HO336 := n1_; have BK333 := n2_; have HB := n3_; clear n0_ n1_ n2_ n3_; (try clear hb); (try clear hb2); (try clear hk); (try clear hi); (try clear ho0); obtain ⟨Ao18, co18, eo18⟩ := Kd.R_slice HO336.out; subst eo18))
     go_roundg k1
     case measure => have := HK1.out; omega
     case rel => exact ⟨(x3_1), (wrap64 (x9_1 + 1)), (by first | rfl | (simp; done) | (simp [*]; done)), H', ⟨by have := HK1.out; omega⟩, ⟨by (with_reducible repeat (first | apply Kd.S_alloc | apply Kd.S_drewN | apply Kd.S_drew)); exact Kd.S_mono HO_3.out (fun _ hk => trivial)⟩, ⟨by (with_reducible repeat (first | refine blk_drewN ?_ _ | refine blk_drew ?_ | refine blk_alloc ?_ _)); exact BK333.out⟩, ⟨by repeat (first | (with_reducible first | exact HB.out | apply below_alloc | apply pw_below_drewN | apply below_drew1 | refine below_set ?_ GE333.out) | exact HB.out)⟩⟩
   ·rw [if_neg c4] at H
    have c4b0 : decide (x9_1 < (l0_2.length : Int)) = false := decide_eq_false c4
    clear c4
    obtain rfl := Option.some.inj H
    go_wp2
    go_ret
    exact ⟨_, by first | rfl | (simp [errW_none, errW_some] <;> rfl) | (simp [*, errW_none, errW_some] <;> rfl), by (with_reducible repeat (first | apply Kd.S_alloc | apply Kd.S_drewN | apply Kd.S_drew)); exact HO_3.out, by repeat (first | (with_reducible first | exact HB.out | apply below_alloc | apply pw_below_drewN | apply below_drew1 | refine below_set ?_ GE333.out) | exact HB.out)⟩
end
end Go.Proofs.Ytilopoegoddggaa.X
namespace Go.Proofs.Ytilopoegoddggaa.X
open Go.RowKit Go.Proofs.YtilopoegoddggaaW.PrintWords Go.Proofs.YtilopoegoddggaaW.PrintLast Go.Proofs.YtilopoegoddggaaW.PrintMore
attribute [local go_sem] max2_int min2_int max_two min_two max_three min_three max_four min_four
set_option linter.all false
noncomputable section
def loop_Deep.l0 : Nat → Int → Int → List (S40) → Int → Int → Option (Int)
 | 0, _, _, _, _, _ => none
 | k + 1, x1, x5, x9, x10, x11 => if x11 < x10 then (if 0 ≤ x11 then (if x11 < (x9.length : Int) then ((slices_Contains_int_int.f k ((rd_T40 x9 x11).f1) x1).bind fun t351 => (if t351 = true then (loop_Deep.l0 k x1 (wrap64 (x5 + 1)) x9 x10 (wrap64 (x11 + 1))) else (loop_Deep.l0 k x1 x5 x9 x10 (wrap64 (x11 + 1))))) else (none)) else (none)) else (some x5)
def loop_Deep.f (k : Nat) (a0_0 : Int) (a0_1 : Int) (l0_2 : List (S50)) (a1 : Int) : Option (Int) := (loop_All.f k a0_0 a0_1 l0_2).bind fun t346 => (loop_Deep.l0 k a1 0 t346 (t346.length : Int) 0)
theorem loop_Deep.mono_l : ∀ k, (∀ y0 y1 y2 y3 y4, LeO (loop_Deep.l0 k y0 y1 y2 y3 y4) (loop_Deep.l0 (k + 1) y0 y1 y2 y3 y4))
 | 0 => fun _ _ _ _ _ r h => by simp [loop_Deep.l0] at h
 | k + 1 => by
  have ih0 := loop_Deep.mono_l k
  ·intro y0 y1 y2 y3 y4
   unfold loop_Deep.l0
   repeat' first
   | (with_reducible exact ih0 _ _ _ _ _)
   | (with_reducible exact loop_All.mono _ _ _ _)
   | (with_reducible exact slices_Contains_int_int.mono _ _ _)
   | (with_reducible exact LeO.refl _)
   | (with_reducible exact LeO.none _)
   | (with_reducible refine LeO.ite ?_ ?_)
   | (with_reducible refine LeO.bind ?_ (fun _ => ?_))
   | exact ih0 _ _ _ _ _
   | exact loop_All.mono _ _ _ _
   | exact slices_Contains_int_int.mono _ _ _
   | exact LeO.none _
   | refine LeO.ite ?_ ?_
   | refine LeO.bind ?_ (fun _ => ?_)
theorem loop_Deep.mono : ∀ a0 a1 a2 a3 k, LeO (loop_Deep.f k a0 a1 a2 a3) (loop_Deep.f (k + 1) a0 a1 a2 a3) := by
 intro a0 a1 a2 a3 k
 have ih0 := loop_Deep.mono_l k
 unfold loop_Deep.f
 repeat' first
   | (with_reducible exact ih0 _ _ _ _ _)
   | (with_reducible exact loop_All.mono _ _ _ _)
   | (with_reducible exact slices_Contains_int_int.mono _ _ _)
   | (with_reducible exact LeO.refl _)
   | (with_reducible exact LeO.none _)
   | (with_reducible refine LeO.ite ?_ ?_)
   | (with_reducible refine LeO.bind ?_ (fun _ => ?_))
   | exact ih0 _ _ _ _ _
   | exact loop_All.mono _ _ _ _
   | exact slices_Contains_int_int.mono _ _ _
   | exact LeO.none _
   | refine LeO.ite ?_ ?_
   | refine LeO.bind ?_ (fun _ => ?_)
set_option maxHeartbeats 8000000 in
set_option maxRecDepth 100000 in
theorem loop_Deep.calls (k : Nat) (a0_0 : Int) (a0_1 : Int) (A0_2 : Option Addr) (c0_2 : Nat) (l0_2 : List (S50)) (a1 : Int) (r : Int) (w : World) (hr0_2 : Kd.C k50 w A0_2 l0_2.length l0_2) (hc0_2 : l0_2.length ≤ c0_2) (h : loop_Deep.f k a0_0 a0_1 l0_2 a1 = some r) :
  Calls Try.prog 25 #[.agg #[.int .i64 a0_0, .int .i64 a0_1, .slice A0_2 l0_2.length c0_2], .int .i64 a1] w fun e w' => e = .returned (.int .i64 r) ∧ Below w.heap.size w w' := by
 have hu24 := Try.underlying24
 have hu40 := Try.underlying40
 have HR0_2 := Aside0.mk hr0_2
 have HC0_2 := Aside0.mk hc0_2
 clear hr0_2 hc0_2
 have HB := Aside0.mk (Below.refl w.heap.size w)
 have H : ((loop_All.f k a0_0 a0_1 l0_2).bind fun t346 => (loop_Deep.l0 k a1 0 t346 (t346.length : Int) 0)) = some r := h
 clear h
 replace H := Option.bind_eq_some_iff.mp H
 obtain ⟨t346, A30, H⟩ := H
 replace H : (loop_Deep.l0 k a1 0 t346 (t346.length : Int) 0) = some r := H
 have A3 := Aside0.mk A30
 clear A30
 have H' := Aside0.mk H
 clear H
 go_enter Try.func25, Try.ntmps25
 go_wp2_with (first | ((with_reducible refine gate_dst (N := 2) rfl ?_); refine box_event ?hg (N := 2) ?hd (cs := #[.int .i64 a0_0, .int .i64 a0_1, .slice A0_2 l0_2.length c0_2]) (t := 24) ?hr ?_; (case hd => rfl); (case hg => rfl); (case hr => first | (go_simp; done) | (go_simp; rfl)); intro gb345 hg w4 hbox hb; have n0_ := Aside0.mk (below_step (by repeat (first | (with_reducible first | exact HB.out | apply below_alloc | apply pw_below_drewN | apply below_drew1) | exact HB.out)) hb); have n1_ := Aside0.mk (hbox); have n2_ := Aside0.mk ((by rw [hg]; exact (below_size (by repeat (first | (with_reducible first | exact HB.out | apply below_alloc | apply pw_below_drewN | apply below_drew1) | exact HB.out))) : w.heap.size ≤ gb345)); have n3_ := Aside0.mk ((by rw [hg]; exact (below_size (by repeat (first | (with_reducible first | exact HB.out | apply below_alloc | apply pw_below_drewN | apply below_drew1) | exact HB.out))) : w.heap.size ≤ gb345)); clear HB; have HB := n0_; have BK345 := n1_; have GW345 := n2_; have GE345 := n3_; clear n0_ n1_ n2_ n3_; clear hb hbox hg; have hcz5_0 : w4.cell? ⟨gb345, 0, none⟩ = some (.int .i64 a0_0) := (blk_cell BK345.out 0).trans rfl; have hcz5_1 : w4.cell? ⟨gb345, 1, none⟩ = some (.int .i64 a0_1) := (blk_cell BK345.out 1).trans rfl; have hcz5_2 : w4.cell? ⟨gb345, 2, none⟩ = some (.slice A0_2 l0_2.length c0_2) := (blk_cell BK345.out 2).trans rfl; have hfz5_0 := blk_frozen BK345.out 0; have hfz5_1 := blk_frozen BK345.out 1; have hfz5_2 := blk_frozen BK345.out 2) | ((with_reducible refine gate_callee (f := 23) rfl ?_); refine goesL_ (some 9) rfl rfl Try.func23 (by kernel_rfl) rfl #[.agg #[.int .i64 a0_0, .int .i64 a0_1, .slice A0_2 l0_2.length c0_2]] rfl (by (try simp only [List.map_toArray, List.map_cons, List.map_nil]); first | done | rfl | (simp only [List.length_drop, List.length_take]; rfl)) ?_; (with_reducible refine (loop_All.calls k a0_0 a0_1 _ _ l0_2 t346 _ ?side1 ?side2 A3.out).mono ?_); (case side1 => repeat (first | exact (Kd.C_below HR0_2.out HB.out) | (with_reducible refine Kd.C_alloc ?_ _) | (with_reducible refine Kd.C_drewN ?_ _) | (with_reducible refine Kd.C_drew ?_))); (case side2 => exact HC0_2.out); rintro e w6 ⟨v347, rfl, ho0, hb⟩; refine ⟨_, rfl, ?_⟩; have n0_ := Aside0.mk (Kd.S_lower ho0 (below_size (by repeat (first | (with_reducible first | exact HB.out | apply below_alloc | apply pw_below_drewN | apply below_drew1 | refine below_set ?_ GE345.out) | exact HB.out)))); have n1_ := Aside0.mk (blk_below (g := gb345) (o := .cells #[.int .i64 a0_0, .int .i64 a0_1, .slice A0_2 l0_2.length c0_2] 24 (0, 0)) (by (with_reducible repeat (first | refine blk_drewN ?_ _ | refine blk_drew ?_ | refine blk_alloc ?_ _)); exact BK345.out) hb); have n2_ := Aside0.mk (below_step (by repeat (first | (with_reducible first | exact HB.out | apply below_alloc | apply pw_below_drewN | apply below_drew1 | refine below_set ?_ GE345.out) | exact HB.out)) hb); clear BK345; clear HB; have HO348 := n0_; have BK345 := n1_; have HB := n2_; clear n0_ n1_ n2_; (try clear hb); (try clear hb2); (try clear hk); (try clear hi); (try clear ho0); obtain ⟨Ao7, co7, eo7⟩ := Kd.S_slice HO348.out; subst eo7))
 go_loopg [5, 11] k (fun kq v5 v11 w' => ∃ (x5_1 : Int) (x11_1 : Int), v5 = .int .i64 x5_1 ∧ v11 = .int .i64 x11_1 ∧ Aside0 (loop_Deep.l0 kq a1 x5_1 t346 (t346.length : Int) x11_1 = some r) ∧ Aside0 (kq ≤ k) ∧ Aside0 (Kd.S k40 40 w' w.heap.size (fun _ => True) (.slice Ao7 t346.length co7) t346) ∧ Aside0 (w'.heap[gb345]? = some (.cells #[.int .i64 a0_0, .int .i64 a0_1, (.slice A0_2 l0_2.length c0_2)] 24 (0, 0))) ∧ Aside0 (Below w.heap.size w w'))
 case atStart => exact ⟨(0), (0), (by first | rfl | (simp; done) | (simp [*]; done)), (by first | rfl | (simp; done) | (simp [*]; done)), H', ⟨Nat.le_refl _⟩, ⟨by (with_reducible repeat (first | apply Kd.S_alloc | apply Kd.S_drewN | apply Kd.S_drew)); exact HO348.out⟩, ⟨by (with_reducible repeat (first | refine blk_drewN ?_ _ | refine blk_drew ?_ | refine blk_alloc ?_ _)); exact BK345.out⟩, ⟨by repeat (first | (with_reducible first | exact HB.out | apply below_alloc | apply pw_below_drewN | apply below_drew1 | refine below_set ?_ GE345.out) | exact HB.out)⟩⟩
 case round =>
  clear H'
  try clear c2
  try clear p2
  try clear hcz5_0
  try clear hcz5_1
  try clear hcz5_2
  try clear hfz5_0
  try clear hfz5_1
  try clear hfz5_2
  obtain ⟨x5_1, x11_1, rfl, rfl, HA, HK1, HO_9, BK345, HB⟩ := hrel
  cases gk with
  | zero => exact absurd HA.out (by simp [loop_Deep.l0])
  | succ k1 =>
   have H := HA.out
   clear HA
   simp only [loop_Deep.l0] at H
   by_cases c8 : x11_1 < (t346.length : Int)
   ·rw [if_pos c8] at H
    have c8b0 : decide (x11_1 < (t346.length : Int)) = true := decide_eq_true c8
    clear c8
    by_cases c9 : 0 ≤ x11_1
    ·rw [if_pos c9] at H
     have c9b0 : decide (0 ≤ x11_1) = true := decide_eq_true c9
     clear c9
     by_cases c10 : x11_1 < (t346.length : Int)
     ·rw [if_pos c10] at H
      have c10b0 : decide (x11_1 < (t346.length : Int)) = true := decide_eq_true c10
      clear c10
      replace H := Option.bind_eq_some_iff.mp H
      obtain ⟨t351, A110, H⟩ := H
      replace H : (if t351 = true then (loop_Deep.l0 k1 a1 (wrap64 (x5_1 + 1)) t346 (t346.length : Int) (wrap64 (x11_1 + 1))) else (loop_Deep.l0 k1 a1 x5_1 t346 (t346.length : Int) (wrap64 (x11_1 + 1)))) = some r := H
      have A11 := Aside0.mk A110
      clear A110
      by_cases c12 : t351 = true
      ·subst c12
       have H1 : (loop_Deep.l0 k1 a1 (wrap64 (x5_1 + 1)) t346 (t346.length : Int) (wrap64 (x11_1 + 1))) = some r := by rw [if_pos rfl] at H; exact H
       clear H
       have H := H1
       clear H1
       have H' := Aside0.mk H
       clear H
       have p349 : 0 ≤ (x11_1 : Int) := of_decide_eq_true (by first | (with_reducible assumption) | assumption)
       have q349 : x11_1 < (t346.length : Int) := of_decide_eq_true (by first | (with_reducible assumption) | assumption)
       obtain ⟨ad349, A349_1, c349_1, e349, hx349_0, hx349_1, hl349_1, hi349_1⟩ := at_T40 (Kd.S_reads' HO_9.out).2.2 x11_1 p349 q349
       cases e349
       obtain ⟨ce349, hce349, hMe349, hcc349⟩ := Kd.S_get HO_9.out z40 x11_1 p349 (by first | exact q349 | exact of_decide_eq_true (by first | (with_reducible assumption) | assumption) | (have e_ := (Kd.S_reads' HO_9.out).1; omega))
       obtain ⟨ve349_1, rfl, ge349_1⟩ := k40_openM hMe349
       have hv349_1 := hcc349 1 _ rfl
       rw [add_field _ _ 1 (by omega)] at hv349_1
       replace hv349_1 := Option.some.inj (hv349_1.symm.trans hx349_1)
       rw [hv349_1] at ge349_1
       have HL349_1 := Aside0.mk (show Kd.R (Kd.int .i64) 3 _ _ _ _ ((rd_T40 t346 x11_1).f1) from ge349_1)
       clear hv349_1 ge349_1
       clear hcc349 hce349
       have HR349_1 := Aside0.mk hi349_1
       have HC349_1 := Aside0.mk hl349_1
       clear hi349_1 hl349_1
       replace p349 := eq_true p349
       replace q349 := eq_true q349
       go_wp2_with (first | ((with_reducible refine gate_dst (N := 7) rfl ?_); refine box_event ?hg (N := 7) ?hd (cs := #[.int .i64 0, .slice none 0 0]) (t := 40) ?hr ?_; (case hd => rfl); (case hg => rfl); (case hr => first | (go_simp; done) | (go_simp; rfl)); intro gb350 hg w13 hbox hb; have n0_ := Aside0.mk (Kd.S_below (Kd.S_elderB (by (with_reducible repeat (first | apply Kd.S_alloc | apply Kd.S_drewN | apply Kd.S_drew)); exact HO_9.out) gb350 (Nat.le_of_eq hg.symm)) hb); have n1_ := Aside0.mk (Kd.R_below (by (with_reducible repeat (first | apply Kd.R_alloc | apply Kd.R_drewN | apply Kd.R_drew)); exact HL349_1.out) hb); have n2_ := Aside0.mk (blk_below (g := gb345) (o := .cells #[.int .i64 a0_0, .int .i64 a0_1, .slice A0_2 l0_2.length c0_2] 24 (0, 0)) (by (with_reducible repeat (first | refine blk_drewN ?_ _ | refine blk_drew ?_ | refine blk_alloc ?_ _)); exact BK345.out) hb); have n3_ := Aside0.mk (Kd.C_below (by repeat (first | (with_reducible exact HR349_1.out) | (with_reducible refine Kd.C_alloc ?_ _) | (with_reducible refine Kd.C_drewN ?_ _) | (with_reducible refine Kd.C_drew ?_) | exact HR349_1.out)) hb); have n4_ := Aside0.mk (below_step (by repeat (first | (with_reducible first | exact HB.out | apply below_alloc | apply pw_below_drewN | apply below_drew1 | refine below_set ?_ GE345.out) | exact HB.out)) hb); have n5_ := Aside0.mk (hbox); have n6_ := Aside0.mk ((by rw [hg]; exact (below_size (by repeat (first | (with_reducible first | exact HB.out | apply below_alloc | apply pw_below_drewN | apply below_drew1 | refine below_set ?_ GE345.out) | exact HB.out))) : w.heap.size ≤ gb350)); have n7_ := Aside0.mk ((by rw [hg]; exact (below_size (by repeat (first | (with_reducible first | exact HB.out | apply below_alloc | apply pw_below_drewN | apply below_drew1 | refine below_set ?_ GE345.out) | exact HB.out))) : w.heap.size ≤ gb350)); have n8_ := Aside0.mk ((by rw [hg]; exact Nat.ne_of_lt (blk_lt (g := gb345) (o := .cells #[.int .i64 a0_0, .int .i64 a0_1, .slice A0_2 l0_2.length c0_2] 24 (0, 0)) (by (with_reducible repeat (first | refine blk_drewN ?_ _ | refine blk_drew ?_ | refine blk_alloc ?_ _)); exact BK345.out)) : gb345 ≠ gb350)); have n9_ := Aside0.mk ((by rw [hg]; exact Nat.ne_of_gt (blk_lt (g := gb345) (o := .cells #[.int .i64 a0_0, .int .i64 a0_1, .slice A0_2 l0_2.length c0_2] 24 (0, 0)) (by (with_reducible repeat (first | refine blk_drewN ?_ _ | refine blk_drew ?_ | refine blk_alloc ?_ _)); exact BK345.out)) : gb350 ≠ gb345)); clear HO_9; clear HL349_1; clear BK345; clear HR349_1; clear HB; have HO_9 := n0_; have HL349_1 := n1_; have BK345 := n2_; have HR349_1 := n3_; have HB := n4_; have BK350 := n5_; have GW350 := n6_; have GE350 := n7_; have NB345_350 := n8_; have NB350_345 := n9_; clear n0_ n1_ n2_ n3_ n4_ n5_ n6_ n7_ n8_ n9_; clear hb hbox hg; have hnb14 := NB350_345.out; have hnc14 := NB345_350.out; have hcz15_0 : w13.cell? ⟨gb350, 0, none⟩ = some (.int .i64 0) := (blk_cell BK350.out 0).trans rfl; have hcz15_1 : w13.cell? ⟨gb350, 1, none⟩ = some (.slice none 0 0) := (blk_cell BK350.out 1).trans rfl; have hfz15_0 := blk_frozen BK350.out 0; have hfz15_1 := blk_frozen BK350.out 1) | ((with_reducible refine gate_callee (f := 43) rfl ?_); refine goesL_ (some 18) rfl rfl Try.func43 (by kernel_rfl) rfl #[.slice A349_1 ((rd_T40 t346 x11_1).f1).length c349_1, .int .i64 a1] rfl (by (try simp only [List.map_toArray, List.map_cons, List.map_nil]); first | done | rfl | (simp only [List.length_drop, List.length_take]; rfl)) ?_; (with_reducible refine (slices_Contains_int_int.calls k1 _ _ ((rd_T40 t346 x11_1).f1) a1 true _ ?side1 ?side2 A11.out).mono ?_); (case side1 => repeat (first | exact ((Kd.R_reads' (by (with_reducible repeat (first | apply Kd.R_alloc | apply Kd.R_drewN | apply Kd.R_drew)); exact (Kd.R_mono (Kd.R_far (p := ⟨gb350, 1, none⟩) (Kd.R_far (p := ⟨gb350, 0, none⟩) (Kd.R_types HL349_1.out BK350.out (by decide)) (fun _ hk => hk.2) (.int .i64 ((rd_T40 t346 x11_1).f0))) (fun _ hk => hk.2) (.slice A349_1 ((rd_T40 t346 x11_1).f1).length c349_1)) (fun _ h_ => h_.1)))).2.2) | (with_reducible refine Kd.C_alloc ?_ _) | (with_reducible refine Kd.C_drewN ?_ _) | (with_reducible refine Kd.C_drew ?_))); (case side2 => exact HC349_1.out); rintro e w' ⟨rfl, ⟨nd, rfl⟩⟩; refine ⟨_, rfl, ?_⟩))
       go_roundg k1
       case measure => have := HK1.out; omega
       case rel => exact ⟨(wrap64 (x5_1 + 1)), (wrap64 (x11_1 + 1)), (by first | rfl | (simp; done) | (simp [*]; done)), (by first | rfl | (simp; done) | (simp [*]; done)), H', ⟨by have := HK1.out; omega⟩, ⟨by (with_reducible repeat (first | apply Kd.S_alloc | apply Kd.S_drewN | apply Kd.S_drew)); exact Kd.S_mono (Kd.S_far (p := ⟨gb350, 1, none⟩) (Kd.S_far (p := ⟨gb350, 0, none⟩) (Kd.S_mono HO_9.out (fun k_ hk => (⟨hk, hk.2⟩ : _ ∧ k_ ≠ gb350))) (fun _ hk => hk.2) (.int .i64 ((rd_T40 t346 x11_1).f0))) (fun _ hk => hk.2) (.slice A349_1 ((rd_T40 t346 x11_1).f1).length c349_1)) (fun _ hk => trivial)⟩, ⟨by (with_reducible repeat (first | refine blk_drewN ?_ _ | refine blk_drew ?_ | refine blk_alloc ?_ _)); refine blk_far ?_ NB345_350.out _; (with_reducible repeat (first | refine blk_drewN ?_ _ | refine blk_drew ?_ | refine blk_alloc ?_ _)); refine blk_far ?_ NB345_350.out _; (with_reducible repeat (first | refine blk_drewN ?_ _ | refine blk_drew ?_ | refine blk_alloc ?_ _)); exact BK345.out⟩, ⟨by repeat (first | (with_reducible first | exact HB.out | apply below_alloc | apply pw_below_drewN | apply below_drew1 | refine below_set ?_ GE345.out | refine below_set ?_ GE350.out) | exact HB.out)⟩⟩
      ·replace c12 := Bool.eq_false_iff.mpr c12
       subst c12
       have H1 : (loop_Deep.l0 k1 a1 x5_1 t346 (t346.length : Int) (wrap64 (x11_1 + 1))) = some r := by rw [if_neg (show ¬ (false = true) by decide)] at H; exact H
       clear H
       have H := H1
       clear H1
       have H' := Aside0.mk H
       clear H
       have p349 : 0 ≤ (x11_1 : Int) := of_decide_eq_true (by first | (with_reducible assumption) | assumption)
       have q349 : x11_1 < (t346.length : Int) := of_decide_eq_true (by first | (with_reducible assumption) | assumption)
       obtain ⟨ad349, A349_1, c349_1, e349, hx349_0, hx349_1, hl349_1, hi349_1⟩ := at_T40 (Kd.S_reads' HO_9.out).2.2 x11_1 p349 q349
       cases e349
       obtain ⟨ce349, hce349, hMe349, hcc349⟩ := Kd.S_get HO_9.out z40 x11_1 p349 (by first | exact q349 | exact of_decide_eq_true (by first | (with_reducible assumption) | assumption) | (have e_ := (Kd.S_reads' HO_9.out).1; omega))
       obtain ⟨ve349_1, rfl, ge349_1⟩ := k40_openM hMe349
       have hv349_1 := hcc349 1 _ rfl
       rw [add_field _ _ 1 (by omega)] at hv349_1
       replace hv349_1 := Option.some.inj (hv349_1.symm.trans hx349_1)
       rw [hv349_1] at ge349_1
       have HL349_1 := Aside0.mk (show Kd.R (Kd.int .i64) 3 _ _ _ _ ((rd_T40 t346 x11_1).f1) from ge349_1)
       clear hv349_1 ge349_1
       clear hcc349 hce349
       have HR349_1 := Aside0.mk hi349_1
       have HC349_1 := Aside0.mk hl349_1
       clear hi349_1 hl349_1
       replace p349 := eq_true p349
       replace q349 := eq_true q349
       go_wp2_with (first | ((with_reducible refine gate_dst (N := 7) rfl ?_); refine box_event ?hg (N := 7) ?hd (cs := #[.int .i64 0, .slice none 0 0]) (t := 40) ?hr ?_; (case hd => rfl); (case hg => rfl); (case hr => first | (go_simp; done) | (go_simp; rfl)); intro gb350 hg w16 hbox hb; have n0_ := Aside0.mk (Kd.S_below (Kd.S_elderB (by (with_reducible repeat (first | apply Kd.S_alloc | apply Kd.S_drewN | apply Kd.S_drew)); exact HO_9.out) gb350 (Nat.le_of_eq hg.symm)) hb); have n1_ := Aside0.mk (Kd.R_below (by (with_reducible repeat (first | apply Kd.R_alloc | apply Kd.R_drewN | apply Kd.R_drew)); exact HL349_1.out) hb); have n2_ := Aside0.mk (blk_below (g := gb345) (o := .cells #[.int .i64 a0_0, .int .i64 a0_1, .slice A0_2 l0_2.length c0_2] 24 (0, 0)) (by (with_reducible repeat (first | refine blk_drewN ?_ _ | refine blk_drew ?_ | refine blk_alloc ?_ _)); exact BK345.out) hb); have n3_ := Aside0.mk (Kd.C_below (by repeat (first | (with_reducible exact HR349_1.out) | (with_reducible refine Kd.C_alloc ?_ _) | (with_reducible refine Kd.C_drewN ?_ _) | (with_reducible refine Kd.C_drew ?_) | exact HR349_1.out)) hb); have n4_ := Aside0.mk (below_step (by repeat (first | (with_reducible first | exact HB.out | apply below_alloc | apply pw_below_drewN | apply below_drew1 | refine below_set ?_ GE345.out) | exact HB.out)) hb); have n5_ := Aside0.mk (hbox); have n6_ := Aside0.mk ((by rw [hg]; exact (below_size (by repeat (first | (with_reducible first | exact HB.out | apply below_alloc | apply pw_below_drewN | apply below_drew1 | refine below_set ?_ GE345.out) | exact HB.out))) : w.heap.size ≤ gb350)); have n7_ := Aside0.mk ((by rw [hg]; exact (below_size (by repeat (first | (with_reducible first | exact HB.out | apply below_alloc | apply pw_below_drewN | apply below_drew1 | refine below_set ?_ GE345.out) | exact HB.out))) : w.heap.size ≤ gb350)); have n8_ := Aside0.mk ((by rw [hg]; exact Nat.ne_of_lt (blk_lt (g := gb345) (o := .cells #[.int .i64 a0_0, .int .i64 a0_1, .slice A0_2 l0_2.length c0_2] 24 (0, 0)) (by (with_reducible repeat (first | refine blk_drewN ?_ _ | refine blk_drew ?_ | refine blk_alloc ?_ _)); exact BK345.out)) : gb345 ≠ gb350)); have n9_ := Aside0.mk ((by rw [hg]; exact Nat.ne_of_gt (blk_lt (g := gb345) (o := .cells #[.int .i64 a0_0, .int .i64 a0_1, .slice A0_2 l0_2.length c0_2] 24 (0, 0)) (by (with_reducible repeat (first | refine blk_drewN ?_ _ | refine blk_drew ?_ | refine blk_alloc ?_ _)); exact BK345.out)) : gb350 ≠ gb345)); clear HO_9; clear HL349_1; clear BK345; clear HR349_1; clear HB; have HO_9 := n0_; have HL349_1 := n1_; have BK345 := n2_; have HR349_1 := n3_; have HB := n4_; have BK350 := n5_; have GW350 := n6_; have GE350 := n7_; have NB345_350 := n8_; have NB350_345 := n9_; clear n0_ n1_ n2_ n3_ n4_ n5_ n6_ n7_ n8_ n9_; clear hb hbox hg; have hnb17 := NB350_345.out; have hnc17 := NB345_350.out; have hcz18_0 : w16.cell? ⟨gb350, 0, none⟩ = some (.int .i64 0) := (blk_cell BK350.out 0).trans rfl; have hcz18_1 : w16.cell? ⟨gb350, 1, none⟩ = some (.slice none 0 0) := (blk_cell BK350.out 1).trans rfl; have hfz18_0 := blk_frozen BK350.out 0; have hfz18_1 := blk_frozen BK350.out 1) | ((with_reducible refine gate_callee (f := 43) rfl ?_); refine goesL_ (some 18) rfl rfl Try.func43 (by kernel_rfl) rfl #[.slice A349_1 ((rd_T40 t346 x11_1).f1).length c349_1, .int .i64 a1] rfl (by (try simp only [List.map_toArray, List.map_cons, List.map_nil]); first | done | rfl | (simp only [List.length_drop, List.length_take]; rfl)) ?_; (with_reducible refine (slices_Contains_int_int.calls k1 _ _ ((rd_T40 t346 x11_1).f1) a1 false _ ?side1 ?side2 A11.out).mono ?_); (case side1 => repeat (first | exact ((Kd.R_reads' (by (with_reducible repeat (first | apply Kd.R_alloc | apply Kd.R_drewN | apply Kd.R_drew)); exact (Kd.R_mono (Kd.R_far (p := ⟨gb350, 1, none⟩) (Kd.R_far (p := ⟨gb350, 0, none⟩) (Kd.R_types HL349_1.out BK350.out (by decide)) (fun _ hk => hk.2) (.int .i64 ((rd_T40 t346 x11_1).f0))) (fun _ hk => hk.2) (.slice A349_1 ((rd_T40 t346 x11_1).f1).length c349_1)) (fun _ h_ => h_.1)))).2.2) | (with_reducible refine Kd.C_alloc ?_ _) | (with_reducible refine Kd.C_drewN ?_ _) | (with_reducible refine Kd.C_drew ?_))); (case side2 => exact HC349_1.out); rintro e w' ⟨rfl, ⟨nd, rfl⟩⟩; refine ⟨_, rfl, ?_⟩))
       go_roundg k1
       case measure => have := HK1.out; omega
       case rel => exact ⟨(x5_1), (wrap64 (x11_1 + 1)), (by first | rfl | (simp; done) | (simp [*]; done)), (by first | rfl | (simp; done) | (simp [*]; done)), H', ⟨by have := HK1.out; omega⟩, ⟨by (with_reducible repeat (first | apply Kd.S_alloc | apply Kd.S_drewN | apply Kd.S_drew)); exact Kd.S_mono (Kd.S_far (p := ⟨gb350, 1, none⟩) (Kd.S_far (p := ⟨gb350, 0, none⟩) (Kd.S_mono HO_9.out (fun k_ hk => (⟨hk, hk.2⟩ : _ ∧ k_ ≠ gb350))) (fun _ hk => hk.2) (.int .i64 ((rd_T40 t346 x11_1).f0))) (fun _ hk => hk.2) (.slice A349_1 ((rd_T40 t346 x11_1).f1).length c349_1)) (fun _ hk => trivial)⟩, ⟨by (with_reducible repeat (first | refine blk_drewN ?_ _ | refine blk_drew ?_ | refine blk_alloc ?_ _)); refine blk_far ?_ NB345_350.out _; (with_reducible repeat (first | refine blk_drewN ?_ _ | refine blk_drew ?_ | refine blk_alloc ?_ _)); refine blk_far ?_ NB345_350.out _; (with_reducible repeat (first | refine blk_drewN ?_ _ | refine blk_drew ?_ | refine blk_alloc ?_ _)); exact BK345.out⟩, ⟨by repeat (first | (with_reducible first | exact HB.out | apply below_alloc | apply pw_below_drewN | apply below_drew1 | refine below_set ?_ GE345.out | refine below_set ?_ GE350.out) | exact HB.out)⟩⟩
     ·rw [if_neg c10] at H
      exact absurd H (by simp)
    ·rw [if_neg c9] at H
     exact absurd H (by simp)
   ·rw [if_neg c8] at H
    have c8b0 : decide (x11_1 < (t346.length : Int)) = false := decide_eq_false c8
    clear c8
    obtain rfl := Option.some.inj H
    go_wp2
    go_ret
    exact ⟨by first | rfl | (simp [errW_none, errW_some] <;> rfl) | (simp [*, errW_none, errW_some] <;> rfl), by repeat (first | (with_reducible first | exact HB.out | apply below_alloc | apply pw_below_drewN | apply below_drew1 | refine below_set ?_ GE345.out) | exact HB.out)⟩
end
end Go.Proofs.Ytilopoegoddggaa.X
