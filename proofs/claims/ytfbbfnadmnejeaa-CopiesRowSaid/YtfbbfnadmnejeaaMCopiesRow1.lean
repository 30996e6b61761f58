/- Part 2 of the proof of the statement CopiesRow: the words of the walks, the walks through the functions that it reaches, and the plain laws of what they compute. -/
import Derived.Test.YtfbbfnadmnejeaaMCopiesRow0
namespace Go.Proofs.Ytfbbfnadmnejeaa.X
open Go.RowKit Go.Proofs.YtfbbfnadmnejeaaW.PrintWords Go.Proofs.YtfbbfnadmnejeaaW.PrintLast Go.Proofs.YtfbbfnadmnejeaaW.PrintMore
attribute [local go_sem] max2_int min2_int max_two min_two max_three min_three max_four min_four
set_option linter.all false
noncomputable section
mutual
def copies_Made.l0 : Nat → List Int → List (S34) → Int → Int → Option (List Int)
 | 0, _, _, _, _ => none
 | k + 1, x5, x11, x12, x13 => if x13 < x12 then (if 0 ≤ x13 then (if x13 < (x11.length : Int) then (if ((rd_T34 x11 x13).f1) ≥ 0 then (copies_Made.j1 k x5 0 x11 x12 x13 (decide (((rd_T34 x11 x13).f1) < (x5.length : Int))) ((rd_T34 x11 x13).f0) ((rd_T34 x11 x13).f1)) else (copies_Made.j1 k x5 0 x11 x12 x13 false ((rd_T34 x11 x13).f0) ((rd_T34 x11 x13).f1))) else (none)) else (none)) else (some x5)
def copies_Made.j1 : Nat → List Int → Int → List (S34) → Int → Int → Bool → Int → Int → Option (List Int)
 | 0, _, _, _, _, _, _, _, _ => none
 | k + 1, x5, x8, x11, x12, x13, x26, x128000, x128001 => if x26 = true then (if 0 ≤ x128001 then (if x128001 < (x5.length : Int) then (if x128000 ≥ 0 then (if x128000 < (x5.length : Int) then (if 0 ≤ x128000 then (copies_Made.l0 k (x5.set (x128000 : Int).toNat (rd x5 x128001)) x11 x12 (wrap64 (x13 + 1))) else (none)) else (copies_Made.l0 k x5 x11 x12 (wrap64 (x13 + 1)))) else (copies_Made.l0 k x5 x11 x12 (wrap64 (x13 + 1)))) else (none)) else (none)) else (if x128000 ≥ 0 then (if x128000 < (x5.length : Int) then (if 0 ≤ x128000 then (copies_Made.l0 k (x5.set (x128000 : Int).toNat x8) x11 x12 (wrap64 (x13 + 1))) else (none)) else (copies_Made.l0 k x5 x11 x12 (wrap64 (x13 + 1)))) else (copies_Made.l0 k x5 x11 x12 (wrap64 (x13 + 1))))
end
def copies_Made.f (k : Nat) (l0 : List (S34)) (l1 : List Int) : Option (List Int) := (slices_Clone_uint16_uint16.f l1).bind fun t123 => (copies_Made.l0 k t123 l0 (l0.length : Int) 0)
theorem copies_Made.mono_l : ∀ k, (∀ y0 y1 y2 y3, LeO (copies_Made.l0 k y0 y1 y2 y3) (copies_Made.l0 (k + 1) y0 y1 y2 y3)) ∧ (∀ y0 y1 y2 y3 y4 y5 y6 y7, LeO (copies_Made.j1 k y0 y1 y2 y3 y4 y5 y6 y7) (copies_Made.j1 (k + 1) y0 y1 y2 y3 y4 y5 y6 y7))
 | 0 => ⟨fun _ _ _ _ r h => by simp [copies_Made.l0] at h, fun _ _ _ _ _ _ _ _ r h => by simp [copies_Made.j1] at h⟩
 | k + 1 => by
  obtain ⟨ih0, ih1⟩ := copies_Made.mono_l k
  refine ⟨?_, ?_⟩
  ·intro y0 y1 y2 y3
   unfold copies_Made.l0
   repeat' first
   | (with_reducible exact ih0 _ _ _ _)
   | (with_reducible exact ih1 _ _ _ _ _ _ _ _)
   | (with_reducible exact LeO.refl _)
   | (with_reducible exact LeO.none _)
   | (with_reducible refine LeO.ite ?_ ?_)
   | (with_reducible refine LeO.bind ?_ (fun _ => ?_))
   | exact ih0 _ _ _ _
   | exact ih1 _ _ _ _ _ _ _ _
   | exact LeO.none _
   | refine LeO.ite ?_ ?_
   | refine LeO.bind ?_ (fun _ => ?_)
  ·intro y0 y1 y2 y3 y4 y5 y6 y7
   unfold copies_Made.j1
   repeat' first
   | (with_reducible exact ih0 _ _ _ _)
   | (with_reducible exact ih1 _ _ _ _ _ _ _ _)
   | (with_reducible exact LeO.refl _)
   | (with_reducible exact LeO.none _)
   | (with_reducible refine LeO.ite ?_ ?_)
   | (with_reducible refine LeO.bind ?_ (fun _ => ?_))
   | exact ih0 _ _ _ _
   | exact ih1 _ _ _ _ _ _ _ _
   | exact LeO.none _
   | refine LeO.ite ?_ ?_
   | refine LeO.bind ?_ (fun _ => ?_)
theorem copies_Made.mono : ∀ a0 a1 k, LeO (copies_Made.f k a0 a1) (copies_Made.f (k + 1) a0 a1) := by
 intro a0 a1 k
 obtain ⟨ih0, ih1⟩ := copies_Made.mono_l k
 unfold copies_Made.f
 repeat' first
   | (with_reducible exact ih0 _ _ _ _)
   | (with_reducible exact ih1 _ _ _ _ _ _ _ _)
   | (with_reducible exact LeO.refl _)
   | (with_reducible exact LeO.none _)
   | (with_reducible refine LeO.ite ?_ ?_)
   | (with_reducible refine LeO.bind ?_ (fun _ => ?_))
   | exact ih0 _ _ _ _
   | exact ih1 _ _ _ _ _ _ _ _
   | exact LeO.none _
   | refine LeO.ite ?_ ?_
   | refine LeO.bind ?_ (fun _ => ?_)
set_option maxHeartbeats 8000000 in
set_option maxRecDepth 100000 in
theorem copies_Made.calls (k : Nat) (A0 : Option Addr) (c0 : Nat) (l0 : List (S34)) (A1 : Option Addr) (c1 : Nat) (l1 : List Int) (r : List Int) (w : World) (hr0 : Kd.C k34 w A0 l0.length l0) (hc0 : l0.length ≤ c0) (hr1 : Kd.C (Kd.int .u16) w A1 l1.length l1) (hc1 : l1.length ≤ c1) (h : copies_Made.f k l0 l1 = some r) :
  Calls Try.prog 12 #[.slice A0 l0.length c0, .slice A1 l1.length c1] w fun e w' => ∃ v0_ : Value, e = .returned (v0_) ∧ Kd.R (Kd.int .u16) 35 w' w.heap.size (fun _ => True) v0_ r ∧ Below w.heap.size w w' := by
 have hu34 := Try.underlying34
 have HR0 := Aside0.mk hr0
 have HC0 := Aside0.mk hc0
 clear hr0 hc0
 have HR1 := Aside0.mk hr1
 have HC1 := Aside0.mk hc1
 clear hr1 hc1
 have HB := Aside0.mk (Below.refl w.heap.size w)
 have H : ((slices_Clone_uint16_uint16.f l1).bind fun t123 => (copies_Made.l0 k t123 l0 (l0.length : Int) 0)) = some r := h
 clear h
 replace H := Option.bind_eq_some_iff.mp H
 obtain ⟨t123, A30, H⟩ := H
 replace H : (copies_Made.l0 k t123 l0 (l0.length : Int) 0) = some r := H
 have A3 := Aside0.mk A30
 clear A30
 have H' := Aside0.mk H
 clear H
 go_enter Try.func12, Try.ntmps12
 go_wp2_with (first | ((with_reducible refine gate_callee (f := 20) rfl ?_); refine goesL_ (some 10) rfl rfl Try.func20 (by kernel_rfl) rfl #[.slice A1 l1.length c1] rfl (by (try simp only [List.map_toArray, List.map_cons, List.map_nil]); first | done | rfl | (simp only [List.length_drop, List.length_take]; rfl)) ?_; (with_reducible refine (slices_Clone_uint16_uint16.calls _ _ l1 t123 _ ?side1 ?side2 A3.out).mono ?_); (case side1 => repeat (first | exact HR1.out | (with_reducible refine Kd.C_alloc ?_ _) | (with_reducible refine Kd.C_drewN ?_ _) | (with_reducible refine Kd.C_drew ?_))); (case side2 => exact HC1.out); rintro e w4 ⟨v124, rfl, ho0, hb⟩; refine ⟨_, rfl, ?_⟩; have n0_ := Aside0.mk (Kd.R_lower ho0 (below_size (by repeat (first | (with_reducible first | exact HB.out | apply below_alloc | apply pw_below_drewN | apply below_drew1) | exact HB.out)))); have n1_ := Aside0.mk (below_step (by repeat (first | (with_reducible first | exact HB.out | apply below_alloc | apply pw_below_drewN | apply below_drew1) | exact HB.out)) hb); clear HB; have HO125 := n0_; have HB := n1_; clear n0_ n1_; (try clear hb); (try clear hb2); (try clear hk); (try clear hi); (try clear ho0)))
 go_loopg [13] k (fun kq v13 w' => ∃ (x5_1 : List Int) (x13_1 : Int), v13 = .int .i64 x13_1 ∧ Aside0 (copies_Made.l0 kq x5_1 l0 (l0.length : Int) x13_1 = some r) ∧ Aside0 (kq ≤ k) ∧ Aside0 (Kd.R (Kd.int .u16) 35 w' w.heap.size (fun _ => True) v124 x5_1) ∧ Aside0 (Below w.heap.size w w'))
 case atStart => exact ⟨(t123), (0), (by first | rfl | (simp; done) | (simp [*]; done)), H', ⟨Nat.le_refl _⟩, ⟨by (with_reducible repeat (first | apply Kd.R_alloc | apply Kd.R_drewN | apply Kd.R_drew)); exact HO125.out⟩, ⟨by repeat (first | (with_reducible first | exact HB.out | apply below_alloc | apply pw_below_drewN | apply below_drew1) | exact HB.out)⟩⟩
 case round =>
  clear H'
  try clear c1
  try clear c2
  try clear p2
  obtain ⟨x5_1, x13_1, rfl, HA, HK1, HO_5, HB⟩ := hrel
  cases gk with
  | zero => exact absurd HA.out (by simp [copies_Made.l0])
  | succ k1 =>
   have H := HA.out
   clear HA
   simp only [copies_Made.l0] at H
   by_cases c5 : x13_1 < (l0.length : Int)
   ·rw [if_pos c5] at H
    have c5b0 : decide (x13_1 < (l0.length : Int)) = true := decide_eq_true c5
    clear c5
    by_cases c6 : 0 ≤ x13_1
    ·rw [if_pos c6] at H
     have c6b0 : decide (0 ≤ x13_1) = true := decide_eq_true c6
     clear c6
     by_cases c7 : x13_1 < (l0.length : Int)
     ·rw [if_pos c7] at H
      have c7b0 : decide (x13_1 < (l0.length : Int)) = true := decide_eq_true c7
      clear c7
      have HC8 := Aside0.mk H
      clear H
      have p126 : 0 ≤ (x13_1 : Int) := of_decide_eq_true (by first | (with_reducible assumption) | assumption)
      have q126 : x13_1 < (l0.length : Int) := of_decide_eq_true (by first | (with_reducible assumption) | assumption)
      obtain ⟨ad126, e126, hx126_0, hx126_1⟩ := at_T34 HR0.out x13_1 p126 q126
      cases e126
      replace hx126_0 := (HB.out.cell (World.block_lt_of_cell? w _ hx126_0)).trans hx126_0
      replace hx126_1 := (HB.out.cell (World.block_lt_of_cell? w _ hx126_1)).trans hx126_1
      replace p126 := eq_true p126
      replace q126 := eq_true q126
      go_upto_region 6 with (first | ((with_reducible refine gate_dst (N := 7) rfl ?_); (try (refine gate_guard (by rfl) ?_; dsimp only)); refine box_event ?hg (N := 7) ?hd (cs := #[.int .i64 0, .int .i64 0]) (t := 34) ?hr ?_; (case hd => rfl); (case hg => rfl); (case hr => first | (go_simp; done) | (go_simp; rfl)); intro gb127 hg w9 hbox hb; have n0_ := Aside0.mk (Kd.R_below (by (with_reducible repeat (first | apply Kd.R_alloc | apply Kd.R_drewN | apply Kd.R_drew)); exact HO_5.out) hb); have n1_ := Aside0.mk (below_step (by repeat (first | (with_reducible first | exact HB.out | apply below_alloc | apply pw_below_drewN | apply below_drew1) | exact HB.out)) hb); have n2_ := Aside0.mk (hbox); have n3_ := Aside0.mk ((by rw [hg]; exact (below_size (by repeat (first | (with_reducible first | exact HB.out | apply below_alloc | apply pw_below_drewN | apply below_drew1) | exact HB.out))) : w.heap.size ≤ gb127)); have n4_ := Aside0.mk ((by rw [hg]; exact (below_size (by repeat (first | (with_reducible first | exact HB.out | apply below_alloc | apply pw_below_drewN | apply below_drew1) | exact HB.out))) : w.heap.size ≤ gb127)); clear HO_5; clear HB; have HO_5 := n0_; have HB := n1_; have BK127 := n2_; have GW127 := n3_; have GE127 := n4_; clear n0_ n1_ n2_ n3_ n4_; clear hb hbox hg; have hcz10_0 : w9.cell? ⟨gb127, 0, none⟩ = some (.int .i64 0) := (blk_cell BK127.out 0).trans rfl; have hcz10_1 : w9.cell? ⟨gb127, 1, none⟩ = some (.int .i64 0) := (blk_cell BK127.out 1).trans rfl; have hfz10_0 := blk_frozen BK127.out 0; have hfz10_1 := blk_frozen BK127.out 1))
      (try simp only [Act.put, List.setIfInBounds_toArray, List.set_cons_zero, List.set_cons_succ])
      go_cut [26] (fun v26 wc => ∃ (kq : Nat) (x26_7 : Bool), v26 = .bool x26_7 ∧ Aside0 (copies_Made.j1 kq x5_1 0 l0 (l0.length : Int) x13_1 x26_7 ((rd_T34 l0 x13_1).f0) ((rd_T34 l0 x13_1).f1) = some r) ∧ Aside0 (kq ≤ k1) ∧ Aside0 (Kd.R (Kd.int .u16) 35 wc w.heap.size (fun _ => True) v124 x5_1) ∧ Aside0 (wc.heap[gb127]? = some (.cells #[.int .i64 ((rd_T34 l0 x13_1).f0), .int .i64 ((rd_T34 l0 x13_1).f1)] 34 (0, 0))) ∧ Aside0 (Below w.heap.size w wc))
      case first =>
       have H := HC8.out
       clear HC8
       by_cases c11 : ((rd_T34 l0 x13_1).f1) ≥ 0
       ·rw [if_pos c11] at H
        have c11b0 : decide (0 ≤ ((rd_T34 l0 x13_1).f1)) = true := decide_eq_true c11
        clear c11
        (first | rw [c11b0] | (simp only [i64_w, i32_w]; rw [c11b0]) | skip)
        have H' := Aside0.mk H
        clear H
        have hcz12_0 : w9.cell? ⟨gb127, 0, none⟩ = some (.int .i64 0) := (blk_cell BK127.out 0).trans rfl
        have hcz12_1 : w9.cell? ⟨gb127, 1, none⟩ = some (.int .i64 0) := (blk_cell BK127.out 1).trans rfl
        have hfz12_0 := blk_frozen BK127.out 0
        have hfz12_1 := blk_frozen BK127.out 1
        obtain ⟨Ao13, co13, eo13⟩ := Kd.R_slice HO_5.out
        subst eo13
        go_wp2
        go_meet
        case rel => exact ⟨_, (decide (((rd_T34 l0 x13_1).f1) < (x5_1.length : Int))), (by first | rfl | (simp; done) | (simp [*]; done)), H', ⟨by have := HK1.out; first | omega | exact Nat.le_refl _⟩, ⟨by (with_reducible repeat (first | apply Kd.R_alloc | apply Kd.R_drewN | apply Kd.R_drew)); exact Kd.R_mono (Kd.R_far (p := ⟨gb127, 1, none⟩) (Kd.R_far (p := ⟨gb127, 0, none⟩) (Kd.R_types HO_5.out BK127.out (by decide)) (fun _ hk => hk.2) (.int .i64 ((rd_T34 l0 x13_1).f0))) (fun _ hk => hk.2) (.int .i64 ((rd_T34 l0 x13_1).f1))) (fun _ hk => trivial)⟩, ⟨by (with_reducible repeat (first | refine blk_drewN ?_ _ | refine blk_drew ?_ | refine blk_alloc ?_ _)); refine blk_put (cs := #[.int .i64 ((rd_T34 l0 x13_1).f0), .int .i64 0]) ?_ 1 _ rfl; (with_reducible repeat (first | refine blk_drewN ?_ _ | refine blk_drew ?_ | refine blk_alloc ?_ _)); refine blk_put (cs := #[.int .i64 0, .int .i64 0]) ?_ 0 _ rfl; (with_reducible repeat (first | refine blk_drewN ?_ _ | refine blk_drew ?_ | refine blk_alloc ?_ _)); exact BK127.out⟩, ⟨by repeat (first | (with_reducible first | exact HB.out | apply below_alloc | apply pw_below_drewN | apply below_drew1 | refine below_set ?_ GE127.out) | exact HB.out)⟩⟩
       ·rw [if_neg c11] at H
        have c11b0 : decide (0 ≤ ((rd_T34 l0 x13_1).f1)) = false := decide_eq_false c11
        clear c11
        (first | rw [c11b0] | (simp only [i64_w, i32_w]; rw [c11b0]) | skip)
        have H' := Aside0.mk H
        clear H
        have hcz14_0 : w9.cell? ⟨gb127, 0, none⟩ = some (.int .i64 0) := (blk_cell BK127.out 0).trans rfl
        have hcz14_1 : w9.cell? ⟨gb127, 1, none⟩ = some (.int .i64 0) := (blk_cell BK127.out 1).trans rfl
        have hfz14_0 := blk_frozen BK127.out 0
        have hfz14_1 := blk_frozen BK127.out 1
        go_wp2
        go_meet
        case rel => exact ⟨_, (false), (by first | rfl | (simp; done) | (simp [*]; done)), H', ⟨by have := HK1.out; first | omega | exact Nat.le_refl _⟩, ⟨by (with_reducible repeat (first | apply Kd.R_alloc | apply Kd.R_drewN | apply Kd.R_drew)); exact Kd.R_mono (Kd.R_far (p := ⟨gb127, 1, none⟩) (Kd.R_far (p := ⟨gb127, 0, none⟩) (Kd.R_types HO_5.out BK127.out (by decide)) (fun _ hk => hk.2) (.int .i64 ((rd_T34 l0 x13_1).f0))) (fun _ hk => hk.2) (.int .i64 ((rd_T34 l0 x13_1).f1))) (fun _ hk => trivial)⟩, ⟨by (with_reducible repeat (first | refine blk_drewN ?_ _ | refine blk_drew ?_ | refine blk_alloc ?_ _)); refine blk_put (cs := #[.int .i64 ((rd_T34 l0 x13_1).f0), .int .i64 0]) ?_ 1 _ rfl; (with_reducible repeat (first | refine blk_drewN ?_ _ | refine blk_drew ?_ | refine blk_alloc ?_ _)); refine blk_put (cs := #[.int .i64 0, .int .i64 0]) ?_ 0 _ rfl; (with_reducible repeat (first | refine blk_drewN ?_ _ | refine blk_drew ?_ | refine blk_alloc ?_ _)); exact BK127.out⟩, ⟨by repeat (first | (with_reducible first | exact HB.out | apply below_alloc | apply pw_below_drewN | apply below_drew1 | refine below_set ?_ GE127.out) | exact HB.out)⟩⟩
      case rest =>
       clear HC8
       try clear c1
       try clear p1
       try clear q1
       try clear hx1
       try clear c2
       try clear p2
       try clear c5
       try clear c5b0
       try clear c6
       try clear c6b0
       try clear c7
       try clear c7b0
       try clear c11
       try clear c11b0
       try clear c12
       try clear p12
       try clear q12
       try clear hx12
       try clear hcz10_0
       try clear hcz10_1
       try clear hcz12_0
       try clear hcz12_1
       try clear hcz14_0
       try clear hcz14_1
       try clear hfz10_0
       try clear hfz10_1
       try clear hfz12_0
       try clear hfz12_1
       try clear hfz14_0
       try clear hfz14_1
       try clear hx126_0
       try clear hx126_1
       try clear p126
       try clear p2
       try clear q126
       obtain ⟨kq, x26_7, rfl, HA, HJ7, HO_5, BK127, HB⟩ := hcut
       cases kq with
       | zero => exact absurd HA.out (by simp [copies_Made.j1])
       | succ kj7 =>
        have H := HA.out
        clear HA
        simp only [copies_Made.j1] at H
        by_cases c15 : x26_7 = true
        ·subst c15
         have H1 : (if 0 ≤ ((rd_T34 l0 x13_1).f1) then (if ((rd_T34 l0 x13_1).f1) < (x5_1.length : Int) then (if ((rd_T34 l0 x13_1).f0) ≥ 0 then (if ((rd_T34 l0 x13_1).f0) < (x5_1.length : Int) then (if 0 ≤ ((rd_T34 l0 x13_1).f0) then (copies_Made.l0 kj7 (x5_1.set (((rd_T34 l0 x13_1).f0) : Int).toNat (rd x5_1 ((rd_T34 l0 x13_1).f1))) l0 (l0.length : Int) (wrap64 (x13_1 + 1))) else (none)) else (copies_Made.l0 kj7 x5_1 l0 (l0.length : Int) (wrap64 (x13_1 + 1)))) else (copies_Made.l0 kj7 x5_1 l0 (l0.length : Int) (wrap64 (x13_1 + 1)))) else (none)) else (none)) = some r := by rw [if_pos rfl] at H; exact H
         clear H
         have H := H1
         clear H1
         by_cases c16 : 0 ≤ ((rd_T34 l0 x13_1).f1)
         ·rw [if_pos c16] at H
          have c16b0 : decide (0 ≤ ((rd_T34 l0 x13_1).f1)) = true := decide_eq_true c16
          clear c16
          by_cases c17 : ((rd_T34 l0 x13_1).f1) < (x5_1.length : Int)
          ·rw [if_pos c17] at H
           have c17b0 : decide (((rd_T34 l0 x13_1).f1) < (x5_1.length : Int)) = true := decide_eq_true c17
           clear c17
           by_cases c18 : ((rd_T34 l0 x13_1).f0) ≥ 0
           ·rw [if_pos c18] at H
            have c18b0 : decide (0 ≤ ((rd_T34 l0 x13_1).f0)) = true := decide_eq_true c18
            clear c18
            by_cases c19 : ((rd_T34 l0 x13_1).f0) < (x5_1.length : Int)
            ·rw [if_pos c19] at H
             have c19b0 : decide (((rd_T34 l0 x13_1).f0) < (x5_1.length : Int)) = true := decide_eq_true c19
             clear c19
             by_cases c20 : 0 ≤ ((rd_T34 l0 x13_1).f0)
             ·rw [if_pos c20] at H
              have c20b0 : decide (0 ≤ ((rd_T34 l0 x13_1).f0)) = true := decide_eq_true c20
              clear c20
              obtain ⟨y129, hy129⟩ : ∃ y_ : List Int, y_ = (x5_1.set (((rd_T34 l0 x13_1).f0) : Int).toNat (rd x5_1 ((rd_T34 l0 x13_1).f1))) := ⟨_, rfl⟩
              replace H : (copies_Made.l0 kj7 y129 l0 (l0.length : Int) (wrap64 (x13_1 + 1))) = some r := by first | (rw [hy129]; with_reducible exact H) | (have H2_ := (Option.bind_some _ _).symm.trans H; rw [hy129]; with_reducible exact H2_) | (have H2_ := (Option.bind_some _ _).symm.trans H; with_reducible exact H2_) | with_reducible exact H | (rw [hy129]; exact H) | exact H
              have Ny129 := Aside0.mk hy129
              clear hy129
              have H' := Aside0.mk H
              clear H
              have hcz22_0 : wc.cell? ⟨gb127, 0, none⟩ = some (.int .i64 ((rd_T34 l0 x13_1).f0)) := (blk_cell BK127.out 0).trans rfl
              have hcz22_1 : wc.cell? ⟨gb127, 1, none⟩ = some (.int .i64 ((rd_T34 l0 x13_1).f1)) := (blk_cell BK127.out 1).trans rfl
              have hfz22_0 := blk_frozen BK127.out 0
              have hfz22_1 := blk_frozen BK127.out 1
              obtain ⟨Ao23, co23, eo23⟩ := Kd.R_slice HO_5.out
              subst eo23
              have p128 : 0 ≤ (((rd_T34 l0 x13_1).f1) : Int) := of_decide_eq_true (by first | (with_reducible assumption) | assumption)
              have q128 : ((rd_T34 l0 x13_1).f1) < (x5_1.length : Int) := of_decide_eq_true (by first | (with_reducible assumption) | assumption)
              obtain ⟨ad128, e128, hx128_0⟩ := Kd.at_int (Kd.R_reads' HO_5.out).2.2 ((rd_T34 l0 x13_1).f1) p128 q128
              cases e128
              replace p128 := eq_true p128
              replace q128 := eq_true q128
              have p21 : 0 ≤ (((rd_T34 l0 x13_1).f0) : Int) := of_decide_eq_true (by first | (with_reducible assumption) | assumption)
              have q21 : (((rd_T34 l0 x13_1).f0) : Int) < ((x5_1.length : Int) : Int) := of_decide_eq_true (by first | (with_reducible assumption) | assumption)
              obtain ⟨go21, co21, eo21, gb21, gl21, cl21, HG21⟩ := Kd.R_form HO_5.out (by omega)
              (first | cases eo21 | (injection eo21 with ea_ en_ ec_; (first | subst ea_ | (injection ea_ with ea_; subst ea_)); subst ec_; clear en_))
              have GB21 := Aside0.mk gb21
              have GG21 := Aside0.mk HG21
              clear gb21 gl21 HG21
              (first | simp only [add_plain] at hx128_0 | skip)
              obtain ⟨hx21_0, hf21_0⟩ := Kd.R_celln 0 HO_5.out (((rd_T34 l0 x13_1).f0) : Int) p21 q21
              replace p21 := eq_true p21
              replace q21 := eq_true q21
              have HP24 := Kd.R_putg HO_5.out (((rd_T34 l0 x13_1).f0) : Int) (rd x5_1 ((rd_T34 l0 x13_1).f1))
              go_wp2_with (first | ((with_reducible refine gate_store (t := 35) (p := 46) rfl ?_); refine store_event (t := 35) (p := 46) (v := ?vo_w25) (w1 := (wc.setCell ⟨go21, (((rd_T34 l0 x13_1).f0) : Int).toNat, none⟩ (.int .u16 (rd x5_1 ((rd_T34 l0 x13_1).f1))))) ?hg ?ho ?hn ?hr ?_; (case ho => rfl); (case hg => rfl); (case hn => rfl); (case hr => first | (go_simp; done) | (go_simp; rfl)); intro w25 hw; have hg : wc.grownBy w25 (some go21) := (by rw [hw]; exact HP24.2); have hp_ : Kd.R (Kd.int .u16) 35 w25 w.heap.size (fun _ => True) (.slice (some ⟨go21, 0, none⟩) x5_1.length co23) y129 := (by rw [hw, Ny129.out]; exact HP24.1); clear HP24; have n0_ := Aside0.mk (hp_); have n1_ := Aside0.mk (blk_grown (g := gb127) (o := .cells #[.int .i64 ((rd_T34 l0 x13_1).f0), .int .i64 ((rd_T34 l0 x13_1).f1)] 34 (0, 0)) (by (with_reducible repeat (first | refine blk_drewN ?_ _ | refine blk_drew ?_ | refine blk_alloc ?_ _)); exact BK127.out) hg (Kd.R_ne HO_5.out BK127.out (by decide))); have n2_ := Aside0.mk ((by rw [hw]; exact below_set (HB.out) GB21.out : Below w.heap.size w w25)); clear HO_5; clear BK127; clear HB; have HO_5 := n0_; have BK127 := n1_; have HB := n2_; clear n0_ n1_ n2_; clear hg hw hp_))
              go_roundg kj7
              case measure => have := HK1.out; have := HJ7.out; omega
              case rel => exact ⟨(y129), (wrap64 (x13_1 + 1)), (by first | rfl | (simp; done) | (simp [*]; done)), H', ⟨by have := HK1.out; have := HJ7.out; omega⟩, ⟨by (with_reducible repeat (first | apply Kd.R_alloc | apply Kd.R_drewN | apply Kd.R_drew)); exact HO_5.out⟩, ⟨by repeat (first | (with_reducible first | exact HB.out | apply below_alloc | apply pw_below_drewN | apply below_drew1 | refine below_set ?_ GE127.out) | exact HB.out)⟩⟩
             ·rw [if_neg c20] at H
              exact absurd H (by simp)
            ·rw [if_neg c19] at H
             have c19b0 : decide (((rd_T34 l0 x13_1).f0) < (x5_1.length : Int)) = false := decide_eq_false c19
             clear c19
             have H' := Aside0.mk H
             clear H
             have hcz26_0 : wc.cell? ⟨gb127, 0, none⟩ = some (.int .i64 ((rd_T34 l0 x13_1).f0)) := (blk_cell BK127.out 0).trans rfl
             have hcz26_1 : wc.cell? ⟨gb127, 1, none⟩ = some (.int .i64 ((rd_T34 l0 x13_1).f1)) := (blk_cell BK127.out 1).trans rfl
             have hfz26_0 := blk_frozen BK127.out 0
             have hfz26_1 := blk_frozen BK127.out 1
             obtain ⟨Ao27, co27, eo27⟩ := Kd.R_slice HO_5.out
             subst eo27
             have p128 : 0 ≤ (((rd_T34 l0 x13_1).f1) : Int) := of_decide_eq_true (by first | (with_reducible assumption) | assumption)
             have q128 : ((rd_T34 l0 x13_1).f1) < (x5_1.length : Int) := of_decide_eq_true (by first | (with_reducible assumption) | assumption)
             obtain ⟨ad128, e128, hx128_0⟩ := Kd.at_int (Kd.R_reads' HO_5.out).2.2 ((rd_T34 l0 x13_1).f1) p128 q128
             cases e128
             replace p128 := eq_true p128
             replace q128 := eq_true q128
             go_wp2
             go_roundg kj7
             case measure => have := HK1.out; have := HJ7.out; omega
             case rel => exact ⟨(x5_1), (wrap64 (x13_1 + 1)), (by first | rfl | (simp; done) | (simp [*]; done)), H', ⟨by have := HK1.out; have := HJ7.out; omega⟩, ⟨by (with_reducible repeat (first | apply Kd.R_alloc | apply Kd.R_drewN | apply Kd.R_drew)); exact HO_5.out⟩, ⟨by repeat (first | (with_reducible first | exact HB.out | apply below_alloc | apply pw_below_drewN | apply below_drew1 | refine below_set ?_ GE127.out) | exact HB.out)⟩⟩
           ·rw [if_neg c18] at H
            have c18b0 : decide (0 ≤ ((rd_T34 l0 x13_1).f0)) = false := decide_eq_false c18
            clear c18
            have H' := Aside0.mk H
            clear H
            have hcz28_0 : wc.cell? ⟨gb127, 0, none⟩ = some (.int .i64 ((rd_T34 l0 x13_1).f0)) := (blk_cell BK127.out 0).trans rfl
            have hcz28_1 : wc.cell? ⟨gb127, 1, none⟩ = some (.int .i64 ((rd_T34 l0 x13_1).f1)) := (blk_cell BK127.out 1).trans rfl
            have hfz28_0 := blk_frozen BK127.out 0
            have hfz28_1 := blk_frozen BK127.out 1
            obtain ⟨Ao29, co29, eo29⟩ := Kd.R_slice HO_5.out
            subst eo29
            have p128 : 0 ≤ (((rd_T34 l0 x13_1).f1) : Int) := of_decide_eq_true (by first | (with_reducible assumption) | assumption)
            have q128 : ((rd_T34 l0 x13_1).f1) < (x5_1.length : Int) := of_decide_eq_true (by first | (with_reducible assumption) | assumption)
            obtain ⟨ad128, e128, hx128_0⟩ := Kd.at_int (Kd.R_reads' HO_5.out).2.2 ((rd_T34 l0 x13_1).f1) p128 q128
            cases e128
            replace p128 := eq_true p128
            replace q128 := eq_true q128
            go_wp2
            go_roundg kj7
            case measure => have := HK1.out; have := HJ7.out; omega
            case rel => exact ⟨(x5_1), (wrap64 (x13_1 + 1)), (by first | rfl | (simp; done) | (simp [*]; done)), H', ⟨by have := HK1.out; have := HJ7.out; omega⟩, ⟨by (with_reducible repeat (first | apply Kd.R_alloc | apply Kd.R_drewN | apply Kd.R_drew)); exact HO_5.out⟩, ⟨by repeat (first | (with_reducible first | exact HB.out | apply below_alloc | apply pw_below_drewN | apply below_drew1 | refine below_set ?_ GE127.out) | exact HB.out)⟩⟩
          ·rw [if_neg c17] at H
           exact absurd H (by simp)
         ·rw [if_neg c16] at H
          exact absurd H (by simp)
        ·replace c15 := Bool.eq_false_iff.mpr c15
         subst c15
         have H1 : (if ((rd_T34 l0 x13_1).f0) ≥ 0 then (if ((rd_T34 l0 x13_1).f0) < (x5_1.length : Int) then (if 0 ≤ ((rd_T34 l0 x13_1).f0) then (copies_Made.l0 kj7 (x5_1.set (((rd_T34 l0 x13_1).f0) : Int).toNat 0) l0 (l0.length : Int) (wrap64 (x13_1 + 1))) else (none)) else (copies_Made.l0 kj7 x5_1 l0 (l0.length : Int) (wrap64 (x13_1 + 1)))) else (copies_Made.l0 kj7 x5_1 l0 (l0.length : Int) (wrap64 (x13_1 + 1)))) = some r := by rw [if_neg (show ¬ (false = true) by decide)] at H; exact H
         clear H
         have H := H1
         clear H1
         by_cases c30 : ((rd_T34 l0 x13_1).f0) ≥ 0
         ·rw [if_pos c30] at H
          have c30b0 : decide (0 ≤ ((rd_T34 l0 x13_1).f0)) = true := decide_eq_true c30
          clear c30
          by_cases c31 : ((rd_T34 l0 x13_1).f0) < (x5_1.length : Int)
          ·rw [if_pos c31] at H
           have c31b0 : decide (((rd_T34 l0 x13_1).f0) < (x5_1.length : Int)) = true := decide_eq_true c31
           clear c31
           by_cases c32 : 0 ≤ ((rd_T34 l0 x13_1).f0)
           ·rw [if_pos c32] at H
            have c32b0 : decide (0 ≤ ((rd_T34 l0 x13_1).f0)) = true := decide_eq_true c32
            clear c32
            obtain ⟨y130, hy130⟩ : ∃ y_ : List Int, y_ = (x5_1.set (((rd_T34 l0 x13_1).f0) : Int).toNat 0) := ⟨_, rfl⟩
            replace H : (copies_Made.l0 kj7 y130 l0 (l0.length : Int) (wrap64 (x13_1 + 1))) = some r := by first | (rw [hy130]; with_reducible exact H) | (have H2_ := (Option.bind_some _ _).symm.trans H; rw [hy130]; with_reducible exact H2_) | (have H2_ := (Option.bind_some _ _).symm.trans H; with_reducible exact H2_) | with_reducible exact H | (rw [hy130]; exact H) | exact H
            have Ny130 := Aside0.mk hy130
            clear hy130
            have H' := Aside0.mk H
            clear H
            have hcz34_0 : wc.cell? ⟨gb127, 0, none⟩ = some (.int .i64 ((rd_T34 l0 x13_1).f0)) := (blk_cell BK127.out 0).trans rfl
            have hcz34_1 : wc.cell? ⟨gb127, 1, none⟩ = some (.int .i64 ((rd_T34 l0 x13_1).f1)) := (blk_cell BK127.out 1).trans rfl
            have hfz34_0 := blk_frozen BK127.out 0
            have hfz34_1 := blk_frozen BK127.out 1
            obtain ⟨Ao35, co35, eo35⟩ := Kd.R_slice HO_5.out
            subst eo35
            have p33 : 0 ≤ (((rd_T34 l0 x13_1).f0) : Int) := of_decide_eq_true (by first | (with_reducible assumption) | assumption)
            have q33 : (((rd_T34 l0 x13_1).f0) : Int) < ((x5_1.length : Int) : Int) := of_decide_eq_true (by first | (with_reducible assumption) | assumption)
            obtain ⟨go33, co33, eo33, gb33, gl33, cl33, HG33⟩ := Kd.R_form HO_5.out (by omega)
            (first | cases eo33 | (injection eo33 with ea_ en_ ec_; (first | subst ea_ | (injection ea_ with ea_; subst ea_)); subst ec_; clear en_))
            have GB33 := Aside0.mk gb33
            have GG33 := Aside0.mk HG33
            clear gb33 gl33 HG33
            obtain ⟨hx33_0, hf33_0⟩ := Kd.R_celln 0 HO_5.out (((rd_T34 l0 x13_1).f0) : Int) p33 q33
            replace p33 := eq_true p33
            replace q33 := eq_true q33
            have HP36 := Kd.R_putg HO_5.out (((rd_T34 l0 x13_1).f0) : Int) 0
            go_wp2_with (first | ((with_reducible refine gate_store (t := 35) (p := 46) rfl ?_); refine store_event (t := 35) (p := 46) (v := ?vo_w37) (w1 := (wc.setCell ⟨go33, (((rd_T34 l0 x13_1).f0) : Int).toNat, none⟩ (.int .u16 0))) ?hg ?ho ?hn ?hr ?_; (case ho => rfl); (case hg => rfl); (case hn => rfl); (case hr => first | (go_simp; done) | (go_simp; rfl)); intro w37 hw; have hg : wc.grownBy w37 (some go33) := (by rw [hw]; exact HP36.2); have hp_ : Kd.R (Kd.int .u16) 35 w37 w.heap.size (fun _ => True) (.slice (some ⟨go33, 0, none⟩) x5_1.length co35) y130 := (by rw [hw, Ny130.out]; exact HP36.1); clear HP36; have n0_ := Aside0.mk (hp_); have n1_ := Aside0.mk (blk_grown (g := gb127) (o := .cells #[.int .i64 ((rd_T34 l0 x13_1).f0), .int .i64 ((rd_T34 l0 x13_1).f1)] 34 (0, 0)) (by (with_reducible repeat (first | refine blk_drewN ?_ _ | refine blk_drew ?_ | refine blk_alloc ?_ _)); exact BK127.out) hg (Kd.R_ne HO_5.out BK127.out (by decide))); have n2_ := Aside0.mk ((by rw [hw]; exact below_set (HB.out) GB33.out : Below w.heap.size w w37)); clear HO_5; clear BK127; clear HB; have HO_5 := n0_; have BK127 := n1_; have HB := n2_; clear n0_ n1_ n2_; clear hg hw hp_))
            go_roundg kj7
            case measure => have := HK1.out; have := HJ7.out; omega
            case rel => exact ⟨(y130), (wrap64 (x13_1 + 1)), (by first | rfl | (simp; done) | (simp [*]; done)), H', ⟨by have := HK1.out; have := HJ7.out; omega⟩, ⟨by (with_reducible repeat (first | apply Kd.R_alloc | apply Kd.R_drewN | apply Kd.R_drew)); exact HO_5.out⟩, ⟨by repeat (first | (with_reducible first | exact HB.out | apply below_alloc | apply pw_below_drewN | apply below_drew1 | refine below_set ?_ GE127.out) | exact HB.out)⟩⟩
           ·rw [if_neg c32] at H
            exact absurd H (by simp)
          ·rw [if_neg c31] at H
           have c31b0 : decide (((rd_T34 l0 x13_1).f0) < (x5_1.length : Int)) = false := decide_eq_false c31
           clear c31
           have H' := Aside0.mk H
           clear H
           have hcz38_0 : wc.cell? ⟨gb127, 0, none⟩ = some (.int .i64 ((rd_T34 l0 x13_1).f0)) := (blk_cell BK127.out 0).trans rfl
           have hcz38_1 : wc.cell? ⟨gb127, 1, none⟩ = some (.int .i64 ((rd_T34 l0 x13_1).f1)) := (blk_cell BK127.out 1).trans rfl
           have hfz38_0 := blk_frozen BK127.out 0
           have hfz38_1 := blk_frozen BK127.out 1
           obtain ⟨Ao39, co39, eo39⟩ := Kd.R_slice HO_5.out
           subst eo39
           go_wp2
           go_roundg kj7
           case measure => have := HK1.out; have := HJ7.out; omega
           case rel => exact ⟨(x5_1), (wrap64 (x13_1 + 1)), (by first | rfl | (simp; done) | (simp [*]; done)), H', ⟨by have := HK1.out; have := HJ7.out; omega⟩, ⟨by (with_reducible repeat (first | apply Kd.R_alloc | apply Kd.R_drewN | apply Kd.R_drew)); exact HO_5.out⟩, ⟨by repeat (first | (with_reducible first | exact HB.out | apply below_alloc | apply pw_below_drewN | apply below_drew1 | refine below_set ?_ GE127.out) | exact HB.out)⟩⟩
         ·rw [if_neg c30] at H
          have c30b0 : decide (0 ≤ ((rd_T34 l0 x13_1).f0)) = false := decide_eq_false c30
          clear c30
          have H' := Aside0.mk H
          clear H
          have hcz40_0 : wc.cell? ⟨gb127, 0, none⟩ = some (.int .i64 ((rd_T34 l0 x13_1).f0)) := (blk_cell BK127.out 0).trans rfl
          have hcz40_1 : wc.cell? ⟨gb127, 1, none⟩ = some (.int .i64 ((rd_T34 l0 x13_1).f1)) := (blk_cell BK127.out 1).trans rfl
          have hfz40_0 := blk_frozen BK127.out 0
          have hfz40_1 := blk_frozen BK127.out 1
          go_wp2
          go_roundg kj7
          case measure => have := HK1.out; have := HJ7.out; omega
          case rel => exact ⟨(x5_1), (wrap64 (x13_1 + 1)), (by first | rfl | (simp; done) | (simp [*]; done)), H', ⟨by have := HK1.out; have := HJ7.out; omega⟩, ⟨by (with_reducible repeat (first | apply Kd.R_alloc | apply Kd.R_drewN | apply Kd.R_drew)); exact HO_5.out⟩, ⟨by repeat (first | (with_reducible first | exact HB.out | apply below_alloc | apply pw_below_drewN | apply below_drew1 | refine below_set ?_ GE127.out) | exact HB.out)⟩⟩
     ·rw [if_neg c7] at H
      exact absurd H (by simp)
    ·rw [if_neg c6] at H
     exact absurd H (by simp)
   ·rw [if_neg c5] at H
    have c5b0 : decide (x13_1 < (l0.length : Int)) = false := decide_eq_false c5
    clear c5
    obtain rfl := Option.some.inj H
    go_wp2
    go_ret
    exact ⟨_, by first | rfl | (simp [errW_none, errW_some] <;> rfl) | (simp [*, errW_none, errW_some] <;> rfl), by (with_reducible repeat (first | apply Kd.R_alloc | apply Kd.R_drewN | apply Kd.R_drew)); exact HO_5.out, by repeat (first | (with_reducible first | exact HB.out | apply below_alloc | apply pw_below_drewN | apply below_drew1) | exact HB.out)⟩
end
end Go.Proofs.Ytfbbfnadmnejeaa.X
namespace Go.Proofs.Ytfbbfnadmnejeaa.X
open Go.Shelf Go.RowKit Go.Proofs.YtfbbfnadmnejeaaW.PrintWords Go.Proofs.YtfbbfnadmnejeaaW.PrintLast Go.Proofs.YtfbbfnadmnejeaaW.PrintMore
set_option linter.all false
def namedB (l : List S34) (a : Int) : Bool := decide (0 ≤ idxF (fun m : S34 => m.f0 == a || m.f1 == a) l 0)
def copies_Row.f (k : Nat) (l0 : List S34) (a1 : Int) : Option (List S34 × Int) :=
 if l0.length < 1000000 then (if mayL l0 = true then (if placeB a1 = true then (if namedB l0 a1 = true then some ([], 1) else (copies_row.f k l0 a1).bind fun p => some (p.1, 0)) else some ([], 1)) else some ([], 1)) else none
theorem copies_Row.mono : ∀ a0 a1 k, LeO (copies_Row.f k a0 a1) (copies_Row.f (k + 1) a0 a1) := by
 intro a0 a1 k
 unfold copies_Row.f
 repeat' first
   | (with_reducible exact LeO.refl _)
   | (with_reducible exact copies_row.mono _ _ _)
   | (with_reducible refine LeO.ite ?_ ?_)
   | (with_reducible refine LeO.bind ?_ (fun _ => ?_))
theorem row_pred (x : S34) (a : Int) (g : Nat) (w : World) (hb : w.heap[g]? = some (.cells #[.int .i64 a] 3 (0, 0))) :
  Calls Try.prog 22 #[.agg #[.int .i64 x.f0, .int .i64 x.f1], .pointer (some ⟨g, 0, none⟩)] w fun e w' => e = .returned (.bool (x.f0 == a || x.f1 == a)) ∧ Below w.heap.size w w' := by
 have BG := Aside0.mk hb
 clear hb
 cases h0 : (x.f0 == a) with
 | true =>
  go_enter Try.func22, Try.ntmps22
  go_wp2_with (((with_reducible refine gate_dst (N := 2) rfl ?_); refine box_event ?hg (N := 2) ?hd (cs := #[.int .i64 x.f0, .int .i64 x.f1]) (t := 34) ?hr ?_; (case hd => rfl); (case hg => rfl); (case hr => first | (go_simp; done) | (go_simp; rfl)); intro gb hg w4 hbox hb; have HB4 := Aside0.mk hb; have hcz0 := (blk_cell hbox 0).trans rfl; have hcz1 := (blk_cell hbox 1).trans rfl; have hcy0 : w4.cell? ⟨g, 0, none⟩ = some (.int .i64 a) := (blk_cell (blk_below BG.out hb) 0).trans rfl; clear hbox hb hg))
  go_ret
  exact ⟨rfl, HB4.out⟩
 | false =>
  go_enter Try.func22, Try.ntmps22
  go_wp2_with (((with_reducible refine gate_dst (N := 2) rfl ?_); refine box_event ?hg (N := 2) ?hd (cs := #[.int .i64 x.f0, .int .i64 x.f1]) (t := 34) ?hr ?_; (case hd => rfl); (case hg => rfl); (case hr => first | (go_simp; done) | (go_simp; rfl)); intro gb hg w4 hbox hb; have HB4 := Aside0.mk hb; have hcz0 := (blk_cell hbox 0).trans rfl; have hcz1 := (blk_cell hbox 1).trans rfl; have hcy0 : w4.cell? ⟨g, 0, none⟩ = some (.int .i64 a) := (blk_cell (blk_below BG.out hb) 0).trans rfl; clear hbox hb hg))
  go_ret
  exact ⟨rfl, HB4.out⟩
set_option maxHeartbeats 4000000 in
set_option maxRecDepth 100000 in
theorem copies_Row.calls (k : Nat) (A0 : Option Addr) (c0 : Nat) (l0 : List S34) (a1 : Int) (r1 : List S34) (r2 : Int) (w : World) (hr0 : Kd.C k34 w A0 l0.length l0) (hc0 : l0.length ≤ c0) (h : copies_Row.f k l0 a1 = some (r1, r2)) :
  Calls Try.prog 14 #[.slice A0 l0.length c0, .int .i64 a1] w fun e w' => ∃ v0_ : Value, e = .returned (.tuple #[v0_, .int .i64 r2]) ∧ Kd.R k34 34 w' w.heap.size (fun _ => True) v0_ r1 ∧ Below w.heap.size w w' := by
 unfold copies_Row.f at h
 by_cases hl : l0.length < 1000000
 ·rw [if_pos hl] at h
  have HMY := Aside0.mk (show copies_May.f l0 = some (mayL l0) by unfold copies_May.f; rw [if_pos hl])
  have HR := Aside0.mk hr0
  have HCC := Aside0.mk hc0
  clear hr0 hc0 hl
  obtain ⟨nm, HNM⟩ : ∃ nm, Aside0 (decide (0 ≤ idxF (fun m : S34 => m.f0 == a1 || m.f1 == a1) l0 0) = nm) := ⟨_, ⟨rfl⟩⟩
  rw [show namedB l0 a1 = nm from HNM.out] at h
  cases hm : mayL l0 with
  | false =>
   rw [hm, if_neg (by simp)] at h
   have HMV := Aside0.mk hm
   simp only [Option.some.injEq, Prod.mk.injEq] at h
   obtain ⟨rfl, rfl⟩ := h
   clear hm
   go_enter Try.func14, Try.ntmps14
   go_wp2_with (first | ((with_reducible refine gate_dst (N := 3) rfl ?_); refine box_event ?hg (N := 3) ?hd (cs := #[.int .i64 a1]) (t := 3) ?hr ?_; (case hd => rfl); (case hg => rfl); (case hr => first | (go_simp; done) | (go_simp; rfl)); intro gb hg w4 hbox hb; have BK := Aside0.mk hbox; have HB := Aside0.mk hb; clear hbox hb hg) | (go_at_call 21; refine (sl_ContainsFunc_mv A0 c0 l0 22 #[.pointer (some ⟨gb, 0, none⟩)] (fun m => m.f0 == a1 || m.f1 == a1) none _ (enters_of Try.func22 (by kernel_rfl) rfl) (Kd.C_below HR.out HB.out) HCC.out (fun y hy W hW => row_pred y a1 gb W (blk_grown BK.out hW (by simp)))).mono ?_; rintro e w5 ⟨rfl, hb⟩; have n0_ := Aside0.mk (below_step HB.out hb); have n1_ := Aside0.mk (blk_below BK.out hb); clear hb HB BK; have HB := n0_; have BK := n1_; clear n0_ n1_; rw [HNM.out]) | (go_at_call 7; refine (copies_May.calls A0 c0 l0 (mayL l0) _ (Kd.C_below HR.out HB.out) HCC.out HMY.out).mono ?_; rintro e w6 ⟨rfl, hb⟩; have n0_ := Aside0.mk (below_step HB.out hb); have n1_ := Aside0.mk (blk_below BK.out hb); clear hb HB BK; have HB := n0_; have BK := n1_; clear n0_ n1_; have hcy0 := (blk_cell BK.out 0).trans rfl; rw [HMV.out]))
   go_ret2
   exact ⟨_, rfl, Kd.R_nil _ _ _ _ _, HB.out⟩
  | true =>
   rw [hm, if_pos rfl] at h
   have HMV := Aside0.mk hm
   clear hm
   cases hp : placeB a1 with
   | false =>
    rw [hp, if_neg (by simp)] at h
    have HPL := Aside0.mk hp
    simp only [Option.some.injEq, Prod.mk.injEq] at h
    obtain ⟨rfl, rfl⟩ := h
    clear hp
    go_enter Try.func14, Try.ntmps14
    go_wp2_with (first | ((with_reducible refine gate_dst (N := 3) rfl ?_); refine box_event ?hg (N := 3) ?hd (cs := #[.int .i64 a1]) (t := 3) ?hr ?_; (case hd => rfl); (case hg => rfl); (case hr => first | (go_simp; done) | (go_simp; rfl)); intro gb hg w4 hbox hb; have BK := Aside0.mk hbox; have HB := Aside0.mk hb; clear hbox hb hg) | (go_at_call 21; refine (sl_ContainsFunc_mv A0 c0 l0 22 #[.pointer (some ⟨gb, 0, none⟩)] (fun m => m.f0 == a1 || m.f1 == a1) none _ (enters_of Try.func22 (by kernel_rfl) rfl) (Kd.C_below HR.out HB.out) HCC.out (fun y hy W hW => row_pred y a1 gb W (blk_grown BK.out hW (by simp)))).mono ?_; rintro e w5 ⟨rfl, hb⟩; have n0_ := Aside0.mk (below_step HB.out hb); have n1_ := Aside0.mk (blk_below BK.out hb); clear hb HB BK; have HB := n0_; have BK := n1_; clear n0_ n1_; rw [HNM.out]) | (go_at_call 7; refine (copies_May.calls A0 c0 l0 (mayL l0) _ (Kd.C_below HR.out HB.out) HCC.out HMY.out).mono ?_; rintro e w6 ⟨rfl, hb⟩; have n0_ := Aside0.mk (below_step HB.out hb); have n1_ := Aside0.mk (blk_below BK.out hb); clear hb HB BK; have HB := n0_; have BK := n1_; clear n0_ n1_; have hcy0 := (blk_cell BK.out 0).trans rfl; rw [HMV.out]) | (go_at_call 17; refine (copies_place.calls a1 _ _ (place_eq a1)).mono ?_; rintro e w7 ⟨rfl, hb⟩; have n0_ := Aside0.mk (below_step HB.out hb.below); have n1_ := Aside0.mk (blk_below BK.out hb.below); clear hb HB BK hcy0; have HB := n0_; have BK := n1_; clear n0_ n1_; have hcy0 := (blk_cell BK.out 0).trans rfl; rw [HPL.out]))
    go_ret2
    exact ⟨_, rfl, Kd.R_nil _ _ _ _ _, HB.out⟩
   | true =>
    rw [hp, if_pos rfl] at h
    have HPL := Aside0.mk hp
    clear hp
    cases nm with
    | true =>
     rw [if_pos rfl] at h
     simp only [Option.some.injEq, Prod.mk.injEq] at h
     obtain ⟨rfl, rfl⟩ := h
     go_enter Try.func14, Try.ntmps14
     go_wp2_with (first | ((with_reducible refine gate_dst (N := 3) rfl ?_); refine box_event ?hg (N := 3) ?hd (cs := #[.int .i64 a1]) (t := 3) ?hr ?_; (case hd => rfl); (case hg => rfl); (case hr => first | (go_simp; done) | (go_simp; rfl)); intro gb hg w4 hbox hb; have BK := Aside0.mk hbox; have HB := Aside0.mk hb; clear hbox hb hg) | (go_at_call 21; refine (sl_ContainsFunc_mv A0 c0 l0 22 #[.pointer (some ⟨gb, 0, none⟩)] (fun m => m.f0 == a1 || m.f1 == a1) none _ (enters_of Try.func22 (by kernel_rfl) rfl) (Kd.C_below HR.out HB.out) HCC.out (fun y hy W hW => row_pred y a1 gb W (blk_grown BK.out hW (by simp)))).mono ?_; rintro e w5 ⟨rfl, hb⟩; have n0_ := Aside0.mk (below_step HB.out hb); have n1_ := Aside0.mk (blk_below BK.out hb); clear hb HB BK; have HB := n0_; have BK := n1_; clear n0_ n1_; rw [HNM.out]) | (go_at_call 7; refine (copies_May.calls A0 c0 l0 (mayL l0) _ (Kd.C_below HR.out HB.out) HCC.out HMY.out).mono ?_; rintro e w6 ⟨rfl, hb⟩; have n0_ := Aside0.mk (below_step HB.out hb); have n1_ := Aside0.mk (blk_below BK.out hb); clear hb HB BK; have HB := n0_; have BK := n1_; clear n0_ n1_; have hcy0 := (blk_cell BK.out 0).trans rfl; rw [HMV.out]) | (go_at_call 17; refine (copies_place.calls a1 _ _ (place_eq a1)).mono ?_; rintro e w7 ⟨rfl, hb⟩; have n0_ := Aside0.mk (below_step HB.out hb.below); have n1_ := Aside0.mk (blk_below BK.out hb.below); clear hb HB BK hcy0; have HB := n0_; have BK := n1_; clear n0_ n1_; have hcy0 := (blk_cell BK.out 0).trans rfl; rw [HPL.out]))
     go_ret2
     exact ⟨_, rfl, Kd.R_nil _ _ _ _ _, HB.out⟩
    | false =>
     rw [if_neg (by simp)] at h
     obtain ⟨⟨q1, q2⟩, hq, h⟩ := Option.bind_eq_some_iff.1 h
     have HRW := Aside0.mk hq
     simp only [Option.some.injEq, Prod.mk.injEq] at h
     obtain ⟨rfl, rfl⟩ := h
     clear hq
     go_enter Try.func14, Try.ntmps14
     go_wp2_with (first | ((with_reducible refine gate_dst (N := 3) rfl ?_); refine box_event ?hg (N := 3) ?hd (cs := #[.int .i64 a1]) (t := 3) ?hr ?_; (case hd => rfl); (case hg => rfl); (case hr => first | (go_simp; done) | (go_simp; rfl)); intro gb hg w4 hbox hb; have BK := Aside0.mk hbox; have HB := Aside0.mk hb; clear hbox hb hg) | (go_at_call 21; refine (sl_ContainsFunc_mv A0 c0 l0 22 #[.pointer (some ⟨gb, 0, none⟩)] (fun m => m.f0 == a1 || m.f1 == a1) none _ (enters_of Try.func22 (by kernel_rfl) rfl) (Kd.C_below HR.out HB.out) HCC.out (fun y hy W hW => row_pred y a1 gb W (blk_grown BK.out hW (by simp)))).mono ?_; rintro e w5 ⟨rfl, hb⟩; have n0_ := Aside0.mk (below_step HB.out hb); have n1_ := Aside0.mk (blk_below BK.out hb); clear hb HB BK; have HB := n0_; have BK := n1_; clear n0_ n1_; rw [HNM.out]) | (go_at_call 7; refine (copies_May.calls A0 c0 l0 (mayL l0) _ (Kd.C_below HR.out HB.out) HCC.out HMY.out).mono ?_; rintro e w6 ⟨rfl, hb⟩; have n0_ := Aside0.mk (below_step HB.out hb); have n1_ := Aside0.mk (blk_below BK.out hb); clear hb HB BK; have HB := n0_; have BK := n1_; clear n0_ n1_; have hcy0 := (blk_cell BK.out 0).trans rfl; rw [HMV.out]) | (go_at_call 17; refine (copies_place.calls a1 _ _ (place_eq a1)).mono ?_; rintro e w7 ⟨rfl, hb⟩; have n0_ := Aside0.mk (below_step HB.out hb.below); have n1_ := Aside0.mk (blk_below BK.out hb.below); clear hb HB BK hcy0; have HB := n0_; have BK := n1_; clear n0_ n1_; have hcy0 := (blk_cell BK.out 0).trans rfl; rw [HPL.out]) | (go_at_call 18; refine (copies_row.calls k A0 c0 l0 a1 q1 q2 _ (Kd.C_below HR.out HB.out) HCC.out HRW.out).mono ?_; rintro e w8 ⟨v0, rfl, ho, hb⟩; have HO := Aside0.mk (Kd.R_lower ho (below_size HB.out)); have n0_ := Aside0.mk (below_step HB.out hb); clear hb HB hcy0 ho; have HB := n0_; clear n0_))
     go_ret2
     exact ⟨_, rfl, HO.out, HB.out⟩
 ·rw [if_neg hl] at h; cases h
end Go.Proofs.Ytfbbfnadmnejeaa.X
namespace Go.Proofs.Ytfbbfnadmnejeaa.X
open Go.RowKit Go.Proofs.YtfbbfnadmnejeaaW.PrintWords Go.Proofs.YtfbbfnadmnejeaaW.PrintLast Go.Proofs.YtfbbfnadmnejeaaW.PrintMore
attribute [local go_sem] max2_int min2_int max_two min_two max_three min_three max_four min_four
set_option linter.all false
noncomputable section
def davitlaw20_awake.f (k : Nat)  : Option (Bool) := (some (([(⟨0, 1⟩ : S34), (⟨1, 0⟩ : S34)] : List (S34)) : List (S34))).bind fun y131 => ((copies_Row.f k y131 2).bind fun bt134 => ((copies_Made.f k bt134.1 (([7, 8, 9] : List Int))).bind fun t141 => (if bt134.2 = 0 then (if (bt134.1.length : Int) = 3 then (if (t141.length : Int) = 3 then (if 0 < (t141.length : Int) then (if (rd t141 0) = 8 then (if 1 < (t141.length : Int) then (if (rd t141 1) = 7 then ((copies_May.f y131).bind fun t146 => (if t146 = true then ((copies_Rings.f k y131).bind fun t147 => (some (t147 == 1))) else (some false))) else (some false)) else (none)) else (some false)) else (none)) else (some false)) else (some false)) else (some false))))
theorem davitlaw20_awake.mono : ∀ k, LeO (davitlaw20_awake.f k ) (davitlaw20_awake.f (k + 1) ) := by
 intro  k
 unfold davitlaw20_awake.f
 repeat' first
   | (with_reducible exact copies_Made.mono _ _ _)
   | (with_reducible exact copies_Rings.mono _ _)
   | (with_reducible exact copies_Row.mono _ _ _)
   | (with_reducible exact LeO.refl _)
   | (with_reducible exact LeO.none _)
   | (with_reducible refine LeO.ite ?_ ?_)
   | (with_reducible refine LeO.bind ?_ (fun _ => ?_))
   | exact copies_Made.mono _ _ _
   | exact copies_Rings.mono _ _
   | exact copies_Row.mono _ _ _
   | exact LeO.none _
   | refine LeO.ite ?_ ?_
   | refine LeO.bind ?_ (fun _ => ?_)
set_option maxHeartbeats 8000000 in
set_option maxRecDepth 100000 in
theorem davitlaw20_awake.calls (k : Nat)  (r : Bool) (w : World) (h : davitlaw20_awake.f k  = some r) :
  Calls Try.prog 6 #[] w fun e w' => e = .returned (.bool r) ∧ Below w.heap.size w w' := by
 have hu34 := Try.underlying34
 have HB := Aside0.mk (Below.refl w.heap.size w)
 have H : ((some (([(⟨0, 1⟩ : S34), (⟨1, 0⟩ : S34)] : List (S34)) : List (S34))).bind fun y131 => ((copies_Row.f k y131 2).bind fun bt134 => ((copies_Made.f k bt134.1 (([7, 8, 9] : List Int))).bind fun t141 => (if bt134.2 = 0 then (if (bt134.1.length : Int) = 3 then (if (t141.length : Int) = 3 then (if 0 < (t141.length : Int) then (if (rd t141 0) = 8 then (if 1 < (t141.length : Int) then (if (rd t141 1) = 7 then ((copies_May.f y131).bind fun t146 => (if t146 = true then ((copies_Rings.f k y131).bind fun t147 => (some (t147 == 1))) else (some false))) else (some false)) else (none)) else (some false)) else (none)) else (some false)) else (some false)) else (some false))))) = some r := h
 clear h
 obtain ⟨y131, hy131⟩ : ∃ y_ : List (S34), y_ = (([(⟨0, 1⟩ : S34), (⟨1, 0⟩ : S34)] : List (S34))) := ⟨_, rfl⟩
 replace H : ((copies_Row.f k y131 2).bind fun bt134 => ((copies_Made.f k bt134.1 (([7, 8, 9] : List Int))).bind fun t141 => (if bt134.2 = 0 then (if (bt134.1.length : Int) = 3 then (if (t141.length : Int) = 3 then (if 0 < (t141.length : Int) then (if (rd t141 0) = 8 then (if 1 < (t141.length : Int) then (if (rd t141 1) = 7 then ((copies_May.f y131).bind fun t146 => (if t146 = true then ((copies_Rings.f k y131).bind fun t147 => (some (t147 == 1))) else (some false))) else (some false)) else (none)) else (some false)) else (none)) else (some false)) else (some false)) else (some false)))) = some r := by first | (rw [hy131]; with_reducible exact H) | (have H2_ := (Option.bind_some _ _).symm.trans H; rw [hy131]; with_reducible exact H2_) | (have H2_ := (Option.bind_some _ _).symm.trans H; with_reducible exact H2_) | with_reducible exact H | (rw [hy131]; exact H) | exact H
 have Ny131 := Aside0.mk hy131
 clear hy131
 replace H := Option.bind_eq_some_iff.mp H
 obtain ⟨⟨t134, t135⟩, A10, H⟩ := H
 replace H : ((copies_Made.f k t134 (([7, 8, 9] : List Int))).bind fun t141 => (if t135 = 0 then (if (t134.length : Int) = 3 then (if (t141.length : Int) = 3 then (if 0 < (t141.length : Int) then (if (rd t141 0) = 8 then (if 1 < (t141.length : Int) then (if (rd t141 1) = 7 then ((copies_May.f y131).bind fun t146 => (if t146 = true then ((copies_Rings.f k y131).bind fun t147 => (some (t147 == 1))) else (some false))) else (some false)) else (none)) else (some false)) else (none)) else (some false)) else (some false)) else (some false))) = some r := H
 have A1 := Aside0.mk A10
 clear A10
 obtain ⟨y138, hy138⟩ : ∃ y_ : List Int, y_ = (([7, 8, 9] : List Int)) := ⟨_, rfl⟩
 replace H : ((copies_Made.f k t134 y138).bind fun t141 => (if t135 = 0 then (if (t134.length : Int) = 3 then (if (t141.length : Int) = 3 then (if 0 < (t141.length : Int) then (if (rd t141 0) = 8 then (if 1 < (t141.length : Int) then (if (rd t141 1) = 7 then ((copies_May.f y131).bind fun t146 => (if t146 = true then ((copies_Rings.f k y131).bind fun t147 => (some (t147 == 1))) else (some false))) else (some false)) else (none)) else (some false)) else (none)) else (some false)) else (some false)) else (some false))) = some r := by first | (rw [hy138]; with_reducible exact H) | (have H2_ := (Option.bind_some _ _).symm.trans H; rw [hy138]; with_reducible exact H2_) | (have H2_ := (Option.bind_some _ _).symm.trans H; with_reducible exact H2_) | with_reducible exact H | (rw [hy138]; exact H) | exact H
 have Ny138 := Aside0.mk hy138
 clear hy138
 replace H := Option.bind_eq_some_iff.mp H
 obtain ⟨t141, A20, H⟩ := H
 replace H : (if t135 = 0 then (if (t134.length : Int) = 3 then (if (t141.length : Int) = 3 then (if 0 < (t141.length : Int) then (if (rd t141 0) = 8 then (if 1 < (t141.length : Int) then (if (rd t141 1) = 7 then ((copies_May.f y131).bind fun t146 => (if t146 = true then ((copies_Rings.f k y131).bind fun t147 => (some (t147 == 1))) else (some false))) else (some false)) else (none)) else (some false)) else (none)) else (some false)) else (some false)) else (some false)) = some r := H
 have A2 := Aside0.mk A20
 clear A20
 by_cases c3 : t135 = 0
 ·rw [if_pos c3] at H
  have c3b0 : (t135 == 0) = true := beq_iff_eq.mpr c3
  have c3b1 : (t135 != 0) = false := bne_eq_false_iff_eq.mpr c3
  clear c3
  by_cases c4 : (t134.length : Int) = 3
  ·rw [if_pos c4] at H
   have c4b0 : ((t134.length : Int) == 3) = true := beq_iff_eq.mpr c4
   have c4b1 : ((t134.length : Int) != 3) = false := bne_eq_false_iff_eq.mpr c4
   clear c4
   by_cases c5 : (t141.length : Int) = 3
   ·rw [if_pos c5] at H
    have c5b0 : ((t141.length : Int) == 3) = true := beq_iff_eq.mpr c5
    have c5b1 : ((t141.length : Int) != 3) = false := bne_eq_false_iff_eq.mpr c5
    clear c5
    by_cases c6 : 0 < (t141.length : Int)
    ·rw [if_pos c6] at H
     have c6b0 : decide (0 < (t141.length : Int)) = true := decide_eq_true c6
     have c6b1 : decide (0 < t141.length) = true := decide_eq_true (by omega)
     clear c6
     by_cases c7 : (rd t141 0) = 8
     ·rw [if_pos c7] at H
      have c7b0 : ((rd t141 0) == 8) = true := beq_iff_eq.mpr c7
      have c7b1 : ((rd t141 0) != 8) = false := bne_eq_false_iff_eq.mpr c7
      clear c7
      by_cases c8 : 1 < (t141.length : Int)
      ·rw [if_pos c8] at H
       have c8b0 : decide (1 < (t141.length : Int)) = true := decide_eq_true c8
       have c8b1 : decide (1 < t141.length) = true := decide_eq_true (by omega)
       clear c8
       by_cases c9 : (rd t141 1) = 7
       ·rw [if_pos c9] at H
        have c9b0 : ((rd t141 1) == 7) = true := beq_iff_eq.mpr c9
        have c9b1 : ((rd t141 1) != 7) = false := bne_eq_false_iff_eq.mpr c9
        clear c9
        replace H := Option.bind_eq_some_iff.mp H
        obtain ⟨t146, A100, H⟩ := H
        replace H : (if t146 = true then ((copies_Rings.f k y131).bind fun t147 => (some (t147 == 1))) else (some false)) = some r := H
        have A10 := Aside0.mk A100
        clear A100
        by_cases c11 : t146 = true
        ·subst c11
         have H1 : ((copies_Rings.f k y131).bind fun t147 => (some (t147 == 1))) = some r := by rw [if_pos rfl] at H; exact H
         clear H
         have H := H1
         clear H1
         replace H := Option.bind_eq_some_iff.mp H
         obtain ⟨t147, A120, H⟩ := H
         replace H : (some (t147 == 1)) = some r := H
         have A12 := Aside0.mk A120
         clear A120
         obtain rfl := Option.some.inj H
         go_enter Try.func6, Try.ntmps6
         go_wp2_with (first | ((with_reducible refine gate_dst (N := 7) rfl ?_); (try (refine gate_guard (by rfl) ?_; dsimp only)); refine Kd.R_lit k34 _ 34 ?hg (N := 7) ?hd (xs := ([(⟨0, 1⟩ : S34), (⟨1, 0⟩ : S34)] : List (S34))) (inner := [.int .i64 0, .int .i64 1, .int .i64 1, .int .i64 0]) (ok := fun _ => True) (okp := fun _ => True) ?hr ?hp (fun _ hk => hk) trivial (Below.refl _ _) (Nat.le_refl _) (by simp) ?_; (case hd => rfl); (case hg => rfl); (case hr => first | (go_simp; done) | (go_simp; rfl)); (case hp => exact (Reps.c2 (show Kd.M k34 _ _ _ (⟨0, 1⟩ : S34) [.int .i64 0, .int .i64 1] from (k34_mkM _ _ _ (⟨0, 1⟩ : S34) )) (Reps.c2 (show Kd.M k34 _ _ _ (⟨1, 0⟩ : S34) [.int .i64 1, .int .i64 0] from (k34_mkM _ _ _ (⟨1, 0⟩ : S34) )) (Reps.none _ _)))); intro v132 w13 ho14 hb hg_ hnew_; clear hg_ hnew_; (first | rw [← Ny131.out] at ho14 | (simp only [Int.reduceToNat] at ho14; rw [← Ny131.out] at ho14)); have n0_ := Aside0.mk (Kd.R_lower ho14 (below_size (by repeat (first | (with_reducible first | exact HB.out | apply below_alloc | apply pw_below_drewN | apply below_drew1) | exact HB.out)))); have n1_ := Aside0.mk (below_step (by repeat (first | (with_reducible first | exact HB.out | apply below_alloc | apply pw_below_drewN | apply below_drew1) | exact HB.out)) hb); clear HB; have HO133 := n0_; have HB := n1_; clear n0_ n1_; clear hb ho14; obtain ⟨Ao15, co15, eo15⟩ := Kd.R_slice HO133.out; subst eo15) | ((with_reducible refine gate_callee (f := 14) rfl ?_); refine goesL_ (some 10) rfl rfl Try.func14 (by kernel_rfl) rfl #[.slice Ao15 y131.length co15, .int .i64 2] rfl (by (try simp only [List.map_toArray, List.map_cons, List.map_nil]); first | done | rfl | (simp only [List.length_drop, List.length_take]; rfl)) ?_; (with_reducible refine (copies_Row.calls k _ _ y131 2 t134 t135 _ ?side1 ?side2 A1.out).mono ?_); (case side1 => repeat (first | exact (Kd.R_reads' HO133.out).2.2 | (with_reducible refine Kd.C_alloc ?_ _) | (with_reducible refine Kd.C_drewN ?_ _) | (with_reducible refine Kd.C_drew ?_))); (case side2 => exact (Kd.R_reads' HO133.out).2.1); rintro e w16 ⟨v136, rfl, ho0, hb⟩; refine ⟨_, rfl, ?_⟩; have n0_ := Aside0.mk (Kd.R_elder' (by (with_reducible repeat (first | apply Kd.R_alloc | apply Kd.R_drewN | apply Kd.R_drew)); exact HO133.out) (Kd.R_base ho0) hb); have n1_ := Aside0.mk (Kd.R_lower (Kd.R_new' ho0 (Kd.R_lt (by (with_reducible repeat (first | apply Kd.R_alloc | apply Kd.R_drewN | apply Kd.R_drew)); exact HO133.out))) (below_size (by repeat (first | (with_reducible first | exact HB.out | apply below_alloc | apply pw_below_drewN | apply below_drew1) | exact HB.out)))); have n2_ := Aside0.mk (below_step (by repeat (first | (with_reducible first | exact HB.out | apply below_alloc | apply pw_below_drewN | apply below_drew1) | exact HB.out)) hb); clear HO133; clear HB; have HO133 := n0_; have HO137 := n1_; have HB := n2_; clear n0_ n1_ n2_; (try clear hb); (try clear hb2); (try clear hk); (try clear hi); (try clear ho0)) | ((with_reducible refine gate_dst (N := 14) rfl ?_); (try (refine gate_guard (by rfl) ?_; dsimp only)); refine Kd.R_lit (Kd.int .u16) _ 35 ?hg (N := 14) ?hd (xs := ([7, 8, 9] : List Int)) (inner := [.int .u16 7, .int .u16 8, .int .u16 9]) (ok := fun _ => True) (okp := fun _ => True) ?hr ?hp (fun _ hk => hk) trivial (Below.refl _ _) (Nat.le_refl _) (by simp) ?_; (case hd => rfl); (case hg => rfl); (case hr => first | (go_simp; done) | (go_simp; rfl)); (case hp => exact (Reps.one (show Kd.M (Kd.int .u16) _ _ _ 7 [.int .u16 7] from rfl) (Reps.one (show Kd.M (Kd.int .u16) _ _ _ 8 [.int .u16 8] from rfl) (Reps.one (show Kd.M (Kd.int .u16) _ _ _ 9 [.int .u16 9] from rfl) (Reps.none _ _))))); intro v139 w17 ho18 hb hg_ hnew_; clear hg_ hnew_; (first | rw [← Ny138.out] at ho18 | (simp only [Int.reduceToNat] at ho18; rw [← Ny138.out] at ho18)); have n0_ := Aside0.mk (Kd.R_below (by (with_reducible repeat (first | apply Kd.R_alloc | apply Kd.R_drewN | apply Kd.R_drew)); exact HO133.out) hb); have n1_ := Aside0.mk (Kd.R_below (by (with_reducible repeat (first | apply Kd.R_alloc | apply Kd.R_drewN | apply Kd.R_drew)); exact HO137.out) hb); have n2_ := Aside0.mk (Kd.R_lower ho18 (below_size (by repeat (first | (with_reducible first | exact HB.out | apply below_alloc | apply pw_below_drewN | apply below_drew1) | exact HB.out)))); have n3_ := Aside0.mk (below_step (by repeat (first | (with_reducible first | exact HB.out | apply below_alloc | apply pw_below_drewN | apply below_drew1) | exact HB.out)) hb); clear HO133; clear HO137; clear HB; have HO133 := n0_; have HO137 := n1_; have HO140 := n2_; have HB := n3_; clear n0_ n1_ n2_ n3_; clear hb ho18; obtain ⟨Ao19, co19, eo19⟩ := Kd.R_slice HO137.out; subst eo19; obtain ⟨Ao20, co20, eo20⟩ := Kd.R_slice HO140.out; subst eo20) | ((with_reducible refine gate_callee (f := 12) rfl ?_); refine goesL_ (some 15) rfl rfl Try.func12 (by kernel_rfl) rfl #[.slice Ao19 t134.length co19, .slice Ao20 y138.length co20] rfl (by (try simp only [List.map_toArray, List.map_cons, List.map_nil]); first | done | rfl | (simp only [List.length_drop, List.length_take]; rfl)) ?_; (with_reducible refine (copies_Made.calls k _ _ t134 _ _ y138 t141 _ ?side1 ?side2 ?side3 ?side4 A2.out).mono ?_); (case side1 => repeat (first | exact (Kd.R_reads' HO137.out).2.2 | (with_reducible refine Kd.C_alloc ?_ _) | (with_reducible refine Kd.C_drewN ?_ _) | (with_reducible refine Kd.C_drew ?_))); (case side2 => exact (Kd.R_reads' HO137.out).2.1); (case side3 => repeat (first | exact (Kd.R_reads' HO140.out).2.2 | (with_reducible refine Kd.C_alloc ?_ _) | (with_reducible refine Kd.C_drewN ?_ _) | (with_reducible refine Kd.C_drew ?_))); (case side4 => exact (Kd.R_reads' HO140.out).2.1); rintro e w21 ⟨v142, rfl, ho0, hb⟩; refine ⟨_, rfl, ?_⟩; have n0_ := Aside0.mk (Kd.R_below (by (with_reducible repeat (first | apply Kd.R_alloc | apply Kd.R_drewN | apply Kd.R_drew)); exact HO133.out) hb); have n1_ := Aside0.mk (Kd.R_below (by (with_reducible repeat (first | apply Kd.R_alloc | apply Kd.R_drewN | apply Kd.R_drew)); exact HO137.out) hb); have n2_ := Aside0.mk (Kd.R_elder' (by (with_reducible repeat (first | apply Kd.R_alloc | apply Kd.R_drewN | apply Kd.R_drew)); exact HO140.out) (Kd.R_base ho0) hb); have n3_ := Aside0.mk (Kd.R_lower (Kd.R_new' ho0 (Kd.R_lt (by (with_reducible repeat (first | apply Kd.R_alloc | apply Kd.R_drewN | apply Kd.R_drew)); exact HO140.out))) (below_size (by repeat (first | (with_reducible first | exact HB.out | apply below_alloc | apply pw_below_drewN | apply below_drew1) | exact HB.out)))); have n4_ := Aside0.mk (below_step (by repeat (first | (with_reducible first | exact HB.out | apply below_alloc | apply pw_below_drewN | apply below_drew1) | exact HB.out)) hb); clear HO133; clear HO137; clear HO140; clear HB; have HO133 := n0_; have HO137 := n1_; have HO140 := n2_; have HO143 := n3_; have HB := n4_; clear n0_ n1_ n2_ n3_ n4_; (try clear hb); (try clear hb2); (try clear hk); (try clear hi); (try clear ho0); obtain ⟨Ao22, co22, eo22⟩ := Kd.R_slice HO143.out; subst eo22; have p144 : 0 ≤ (0 : Int) := (by omega); have q144 : 0 < (t141.length : Int) := of_decide_eq_true (by first | (with_reducible assumption) | assumption); obtain ⟨ad144, e144, hx144_0⟩ := Kd.at_int (Kd.R_reads' HO143.out).2.2 0 p144 q144; cases e144; have qi144 : (0 < t141.length) = True := eq_true (by omega); (try rw [show ((0 : Int)).toNat = 0 from rfl] at hx144_0); (try rw [Addr.add_zero'] at hx144_0); replace p144 := eq_true p144; replace q144 := eq_true q144; have p145 : 0 ≤ (1 : Int) := (by omega); have q145 : 1 < (t141.length : Int) := of_decide_eq_true (by first | (with_reducible assumption) | assumption); obtain ⟨ad145, e145, hx145_0⟩ := Kd.at_int (Kd.R_reads' HO143.out).2.2 1 p145 q145; obtain rfl : ad144 = ad145 := (by injection e145); (try simp only [show (1 : Int).toNat = 1 from rfl, Nat.reduceMul, Nat.reduceEqDiff, Go.Addr.add, ↓reduceIte] at hx145_0); have qi145 : (1 < t141.length) = True := eq_true (by omega); (try rw [show ((1 : Int)).toNat = 1 from rfl] at hx145_0); replace p145 := eq_true p145; replace q145 := eq_true q145) | (go_at_call 7; (with_reducible refine (copies_May.calls _ _ y131 true _ ?side1 ?side2 A10.out).mono ?_); (case side1 => repeat (first | exact (Kd.R_reads' HO133.out).2.2 | (with_reducible refine Kd.C_alloc ?_ _) | (with_reducible refine Kd.C_drewN ?_ _) | (with_reducible refine Kd.C_drew ?_))); (case side2 => exact (Kd.R_reads' HO133.out).2.1); rintro e w23 ⟨rfl, hb⟩; have n0_ := Aside0.mk (Kd.R_below (by (with_reducible repeat (first | apply Kd.R_alloc | apply Kd.R_drewN | apply Kd.R_drew)); exact HO133.out) hb); have n1_ := Aside0.mk (Kd.R_below (by (with_reducible repeat (first | apply Kd.R_alloc | apply Kd.R_drewN | apply Kd.R_drew)); exact HO137.out) hb); have n2_ := Aside0.mk (Kd.R_below (by (with_reducible repeat (first | apply Kd.R_alloc | apply Kd.R_drewN | apply Kd.R_drew)); exact HO140.out) hb); have n3_ := Aside0.mk (Kd.R_below (by (with_reducible repeat (first | apply Kd.R_alloc | apply Kd.R_drewN | apply Kd.R_drew)); exact HO143.out) hb); have n4_ := Aside0.mk (below_step (by repeat (first | (with_reducible first | exact HB.out | apply below_alloc | apply pw_below_drewN | apply below_drew1) | exact HB.out)) hb); clear HO133; clear HO137; clear HO140; clear HO143; clear HB; have HO133 := n0_; have HO137 := n1_; have HO140 := n2_; have HO143 := n3_; have HB := n4_; clear n0_ n1_ n2_ n3_ n4_; (try clear hb); (try clear hb2); (try clear hk); (try clear hi)) | (go_at_call 9; (with_reducible refine (copies_Rings.calls k _ _ y131 t147 _ ?side1 ?side2 A12.out).mono ?_); (case side1 => repeat (first | exact (Kd.R_reads' HO133.out).2.2 | (with_reducible refine Kd.C_alloc ?_ _) | (with_reducible refine Kd.C_drewN ?_ _) | (with_reducible refine Kd.C_drew ?_))); (case side2 => exact (Kd.R_reads' HO133.out).2.1); rintro e w24 ⟨rfl, hb⟩; have n0_ := Aside0.mk (Kd.R_below (by (with_reducible repeat (first | apply Kd.R_alloc | apply Kd.R_drewN | apply Kd.R_drew)); exact HO133.out) hb); have n1_ := Aside0.mk (Kd.R_below (by (with_reducible repeat (first | apply Kd.R_alloc | apply Kd.R_drewN | apply Kd.R_drew)); exact HO137.out) hb); have n2_ := Aside0.mk (Kd.R_below (by (with_reducible repeat (first | apply Kd.R_alloc | apply Kd.R_drewN | apply Kd.R_drew)); exact HO140.out) hb); have n3_ := Aside0.mk (Kd.R_below (by (with_reducible repeat (first | apply Kd.R_alloc | apply Kd.R_drewN | apply Kd.R_drew)); exact HO143.out) hb); have n4_ := Aside0.mk (below_step (by repeat (first | (with_reducible first | exact HB.out | apply below_alloc | apply pw_below_drewN | apply below_drew1) | exact HB.out)) hb); clear HO133; clear HO137; clear HO140; clear HO143; clear HB; have HO133 := n0_; have HO137 := n1_; have HO140 := n2_; have HO143 := n3_; have HB := n4_; clear n0_ n1_ n2_ n3_ n4_; (try clear hb); (try clear hb2); (try clear hk); (try clear hi)))
         go_ret
         exact ⟨by first | rfl | (simp [errW_none, errW_some] <;> rfl) | (simp [*, errW_none, errW_some] <;> rfl), by repeat (first | (with_reducible first | exact HB.out | apply below_alloc | apply pw_below_drewN | apply below_drew1) | exact HB.out)⟩
        ·replace c11 := Bool.eq_false_iff.mpr c11
         subst c11
         have H1 : (some false) = some r := by rw [if_neg (show ¬ (false = true) by decide)] at H; exact H
         clear H
         have H := H1
         clear H1
         obtain rfl := Option.some.inj H
         go_enter Try.func6, Try.ntmps6
         go_wp2_with (first | ((with_reducible refine gate_dst (N := 7) rfl ?_); (try (refine gate_guard (by rfl) ?_; dsimp only)); refine Kd.R_lit k34 _ 34 ?hg (N := 7) ?hd (xs := ([(⟨0, 1⟩ : S34), (⟨1, 0⟩ : S34)] : List (S34))) (inner := [.int .i64 0, .int .i64 1, .int .i64 1, .int .i64 0]) (ok := fun _ => True) (okp := fun _ => True) ?hr ?hp (fun _ hk => hk) trivial (Below.refl _ _) (Nat.le_refl _) (by simp) ?_; (case hd => rfl); (case hg => rfl); (case hr => first | (go_simp; done) | (go_simp; rfl)); (case hp => exact (Reps.c2 (show Kd.M k34 _ _ _ (⟨0, 1⟩ : S34) [.int .i64 0, .int .i64 1] from (k34_mkM _ _ _ (⟨0, 1⟩ : S34) )) (Reps.c2 (show Kd.M k34 _ _ _ (⟨1, 0⟩ : S34) [.int .i64 1, .int .i64 0] from (k34_mkM _ _ _ (⟨1, 0⟩ : S34) )) (Reps.none _ _)))); intro v132 w25 ho26 hb hg_ hnew_; clear hg_ hnew_; (first | rw [← Ny131.out] at ho26 | (simp only [Int.reduceToNat] at ho26; rw [← Ny131.out] at ho26)); have n0_ := Aside0.mk (Kd.R_lower ho26 (below_size (by repeat (first | (with_reducible first | exact HB.out | apply below_alloc | apply pw_below_drewN | apply below_drew1) | exact HB.out)))); have n1_ := Aside0.mk (below_step (by repeat (first | (with_reducible first | exact HB.out | apply below_alloc | apply pw_below_drewN | apply below_drew1) | exact HB.out)) hb); clear HB; have HO133 := n0_; have HB := n1_; clear n0_ n1_; clear hb ho26; obtain ⟨Ao27, co27, eo27⟩ := Kd.R_slice HO133.out; subst eo27) | ((with_reducible refine gate_callee (f := 14) rfl ?_); refine goesL_ (some 10) rfl rfl Try.func14 (by kernel_rfl) rfl #[.slice Ao27 y131.length co27, .int .i64 2] rfl (by (try simp only [List.map_toArray, List.map_cons, List.map_nil]); first | done | rfl | (simp only [List.length_drop, List.length_take]; rfl)) ?_; (with_reducible refine (copies_Row.calls k _ _ y131 2 t134 t135 _ ?side1 ?side2 A1.out).mono ?_); (case side1 => repeat (first | exact (Kd.R_reads' HO133.out).2.2 | (with_reducible refine Kd.C_alloc ?_ _) | (with_reducible refine Kd.C_drewN ?_ _) | (with_reducible refine Kd.C_drew ?_))); (case side2 => exact (Kd.R_reads' HO133.out).2.1); rintro e w28 ⟨v136, rfl, ho0, hb⟩; refine ⟨_, rfl, ?_⟩; have n0_ := Aside0.mk (Kd.R_elder' (by (with_reducible repeat (first | apply Kd.R_alloc | apply Kd.R_drewN | apply Kd.R_drew)); exact HO133.out) (Kd.R_base ho0) hb); have n1_ := Aside0.mk (Kd.R_lower (Kd.R_new' ho0 (Kd.R_lt (by (with_reducible repeat (first | apply Kd.R_alloc | apply Kd.R_drewN | apply Kd.R_drew)); exact HO133.out))) (below_size (by repeat (first | (with_reducible first | exact HB.out | apply below_alloc | apply pw_below_drewN | apply below_drew1) | exact HB.out)))); have n2_ := Aside0.mk (below_step (by repeat (first | (with_reducible first | exact HB.out | apply below_alloc | apply pw_below_drewN | apply below_drew1) | exact HB.out)) hb); clear HO133; clear HB; have HO133 := n0_; have HO137 := n1_; have HB := n2_; clear n0_ n1_ n2_; (try clear hb); (try clear hb2); (try clear hk); (try clear hi); (try clear ho0)) | ((with_reducible refine gate_dst (N := 14) rfl ?_); (try (refine gate_guard (by rfl) ?_; dsimp only)); refine Kd.R_lit (Kd.int .u16) _ 35 ?hg (N := 14) ?hd (xs := ([7, 8, 9] : List Int)) (inner := [.int .u16 7, .int .u16 8, .int .u16 9]) (ok := fun _ => True) (okp := fun _ => True) ?hr ?hp (fun _ hk => hk) trivial (Below.refl _ _) (Nat.le_refl _) (by simp) ?_; (case hd => rfl); (case hg => rfl); (case hr => first | (go_simp; done) | (go_simp; rfl)); (case hp => exact (Reps.one (show Kd.M (Kd.int .u16) _ _ _ 7 [.int .u16 7] from rfl) (Reps.one (show Kd.M (Kd.int .u16) _ _ _ 8 [.int .u16 8] from rfl) (Reps.one (show Kd.M (Kd.int .u16) _ _ _ 9 [.int .u16 9] from rfl) (Reps.none _ _))))); intro v139 w29 ho30 hb hg_ hnew_; clear hg_ hnew_; (first | rw [← Ny138.out] at ho30 | (simp only [Int.reduceToNat] at ho30; rw [← Ny138.out] at ho30)); have n0_ := Aside0.mk (Kd.R_below (by (with_reducible repeat (first | apply Kd.R_alloc | apply Kd.R_drewN | apply Kd.R_drew)); exact HO133.out) hb); have n1_ := Aside0.mk (Kd.R_below (by (with_reducible repeat (first | apply Kd.R_alloc | apply Kd.R_drewN | apply Kd.R_drew)); exact HO137.out) hb); have n2_ := Aside0.mk (Kd.R_lower ho30 (below_size (by repeat (first | (with_reducible first | exact HB.out | apply below_alloc | apply pw_below_drewN | apply below_drew1) | exact HB.out)))); have n3_ := Aside0.mk (below_step (by repeat (first | (with_reducible first | exact HB.out | apply below_alloc | apply pw_below_drewN | apply below_drew1) | exact HB.out)) hb); clear HO133; clear HO137; clear HB; have HO133 := n0_; have HO137 := n1_; have HO140 := n2_; have HB := n3_; clear n0_ n1_ n2_ n3_; clear hb ho30; obtain ⟨Ao31, co31, eo31⟩ := Kd.R_slice HO137.out; subst eo31; obtain ⟨Ao32, co32, eo32⟩ := Kd.R_slice HO140.out; subst eo32) | ((with_reducible refine gate_callee (f := 12) rfl ?_); refine goesL_ (some 15) rfl rfl Try.func12 (by kernel_rfl) rfl #[.slice Ao31 t134.length co31, .slice Ao32 y138.length co32] rfl (by (try simp only [List.map_toArray, List.map_cons, List.map_nil]); first | done | rfl | (simp only [List.length_drop, List.length_take]; rfl)) ?_; (with_reducible refine (copies_Made.calls k _ _ t134 _ _ y138 t141 _ ?side1 ?side2 ?side3 ?side4 A2.out).mono ?_); (case side1 => repeat (first | exact (Kd.R_reads' HO137.out).2.2 | (with_reducible refine Kd.C_alloc ?_ _) | (with_reducible refine Kd.C_drewN ?_ _) | (with_reducible refine Kd.C_drew ?_))); (case side2 => exact (Kd.R_reads' HO137.out).2.1); (case side3 => repeat (first | exact (Kd.R_reads' HO140.out).2.2 | (with_reducible refine Kd.C_alloc ?_ _) | (with_reducible refine Kd.C_drewN ?_ _) | (with_reducible refine Kd.C_drew ?_))); (case side4 => exact (Kd.R_reads' HO140.out).2.1); rintro e w33 ⟨v142, rfl, ho0, hb⟩; refine ⟨_, rfl, ?_⟩; have n0_ := Aside0.mk (Kd.R_below (by (with_reducible repeat (first | apply Kd.R_alloc | apply Kd.R_drewN | apply Kd.R_drew)); exact HO133.out) hb); have n1_ := Aside0.mk (Kd.R_below (by (with_reducible repeat (first | apply Kd.R_alloc | apply Kd.R_drewN | apply Kd.R_drew)); exact HO137.out) hb); have n2_ := Aside0.mk (Kd.R_elder' (by (with_reducible repeat (first | apply Kd.R_alloc | apply Kd.R_drewN | apply Kd.R_drew)); exact HO140.out) (Kd.R_base ho0) hb); have n3_ := Aside0.mk (Kd.R_lower (Kd.R_new' ho0 (Kd.R_lt (by (with_reducible repeat (first | apply Kd.R_alloc | apply Kd.R_drewN | apply Kd.R_drew)); exact HO140.out))) (below_size (by repeat (first | (with_reducible first | exact HB.out | apply below_alloc | apply pw_below_drewN | apply below_drew1) | exact HB.out)))); have n4_ := Aside0.mk (below_step (by repeat (first | (with_reducible first | exact HB.out | apply below_alloc | apply pw_below_drewN | apply below_drew1) | exact HB.out)) hb); clear HO133; clear HO137; clear HO140; clear HB; have HO133 := n0_; have HO137 := n1_; have HO140 := n2_; have HO143 := n3_; have HB := n4_; clear n0_ n1_ n2_ n3_ n4_; (try clear hb); (try clear hb2); (try clear hk); (try clear hi); (try clear ho0); obtain ⟨Ao34, co34, eo34⟩ := Kd.R_slice HO143.out; subst eo34; have p144 : 0 ≤ (0 : Int) := (by omega); have q144 : 0 < (t141.length : Int) := of_decide_eq_true (by first | (with_reducible assumption) | assumption); obtain ⟨ad144, e144, hx144_0⟩ := Kd.at_int (Kd.R_reads' HO143.out).2.2 0 p144 q144; cases e144; have qi144 : (0 < t141.length) = True := eq_true (by omega); (try rw [show ((0 : Int)).toNat = 0 from rfl] at hx144_0); (try rw [Addr.add_zero'] at hx144_0); replace p144 := eq_true p144; replace q144 := eq_true q144; have p145 : 0 ≤ (1 : Int) := (by omega); have q145 : 1 < (t141.length : Int) := of_decide_eq_true (by first | (with_reducible assumption) | assumption); obtain ⟨ad145, e145, hx145_0⟩ := Kd.at_int (Kd.R_reads' HO143.out).2.2 1 p145 q145; obtain rfl : ad144 = ad145 := (by injection e145); (try simp only [show (1 : Int).toNat = 1 from rfl, Nat.reduceMul, Nat.reduceEqDiff, Go.Addr.add, ↓reduceIte] at hx145_0); have qi145 : (1 < t141.length) = True := eq_true (by omega); (try rw [show ((1 : Int)).toNat = 1 from rfl] at hx145_0); replace p145 := eq_true p145; replace q145 := eq_true q145) | (go_at_call 7; (with_reducible refine (copies_May.calls _ _ y131 false _ ?side1 ?side2 A10.out).mono ?_); (case side1 => repeat (first | exact (Kd.R_reads' HO133.out).2.2 | (with_reducible refine Kd.C_alloc ?_ _) | (with_reducible refine Kd.C_drewN ?_ _) | (with_reducible refine Kd.C_drew ?_))); (case side2 => exact (Kd.R_reads' HO133.out).2.1); rintro e w35 ⟨rfl, hb⟩; have n0_ := Aside0.mk (Kd.R_below (by (with_reducible repeat (first | apply Kd.R_alloc | apply Kd.R_drewN | apply Kd.R_drew)); exact HO133.out) hb); have n1_ := Aside0.mk (Kd.R_below (by (with_reducible repeat (first | apply Kd.R_alloc | apply Kd.R_drewN | apply Kd.R_drew)); exact HO137.out) hb); have n2_ := Aside0.mk (Kd.R_below (by (with_reducible repeat (first | apply Kd.R_alloc | apply Kd.R_drewN | apply Kd.R_drew)); exact HO140.out) hb); have n3_ := Aside0.mk (Kd.R_below (by (with_reducible repeat (first | apply Kd.R_alloc | apply Kd.R_drewN | apply Kd.R_drew)); exact HO143.out) hb); have n4_ := Aside0.mk (below_step (by repeat (first | (with_reducible first | exact HB.out | apply below_alloc | apply pw_below_drewN | apply below_drew1) | exact HB.out)) hb); clear HO133; clear HO137; clear HO140; clear HO143; clear HB; have HO133 := n0_; have HO137 := n1_; have HO140 := n2_; have HO143 := n3_; have HB := n4_; clear n0_ n1_ n2_ n3_ n4_; (try clear hb); (try clear hb2); (try clear hk); (try clear hi)))
         go_ret
         exact ⟨by first | rfl | (simp [errW_none, errW_some] <;> rfl) | (simp [*, errW_none, errW_some] <;> rfl), by repeat (first | (with_reducible first | exact HB.out | apply below_alloc | apply pw_below_drewN | apply below_drew1) | exact HB.out)⟩
       ·rw [if_neg c9] at H
        have c9b0 : ((rd t141 1) == 7) = false := beq_eq_false_iff_ne.mpr c9
        have c9b1 : ((rd t141 1) != 7) = true := bne_iff_ne.mpr c9
        obtain rfl := Option.some.inj H
        go_enter Try.func6, Try.ntmps6
        go_wp2_with (first | ((with_reducible refine gate_dst (N := 7) rfl ?_); (try (refine gate_guard (by rfl) ?_; dsimp only)); refine Kd.R_lit k34 _ 34 ?hg (N := 7) ?hd (xs := ([(⟨0, 1⟩ : S34), (⟨1, 0⟩ : S34)] : List (S34))) (inner := [.int .i64 0, .int .i64 1, .int .i64 1, .int .i64 0]) (ok := fun _ => True) (okp := fun _ => True) ?hr ?hp (fun _ hk => hk) trivial (Below.refl _ _) (Nat.le_refl _) (by simp) ?_; (case hd => rfl); (case hg => rfl); (case hr => first | (go_simp; done) | (go_simp; rfl)); (case hp => exact (Reps.c2 (show Kd.M k34 _ _ _ (⟨0, 1⟩ : S34) [.int .i64 0, .int .i64 1] from (k34_mkM _ _ _ (⟨0, 1⟩ : S34) )) (Reps.c2 (show Kd.M k34 _ _ _ (⟨1, 0⟩ : S34) [.int .i64 1, .int .i64 0] from (k34_mkM _ _ _ (⟨1, 0⟩ : S34) )) (Reps.none _ _)))); intro v132 w36 ho37 hb hg_ hnew_; clear hg_ hnew_; (first | rw [← Ny131.out] at ho37 | (simp only [Int.reduceToNat] at ho37; rw [← Ny131.out] at ho37)); have n0_ := Aside0.mk (Kd.R_lower ho37 (below_size (by repeat (first | (with_reducible first | exact HB.out | apply below_alloc | apply pw_below_drewN | apply below_drew1) | exact HB.out)))); have n1_ := Aside0.mk (below_step (by repeat (first | (with_reducible first | exact HB.out | apply below_alloc | apply pw_below_drewN | apply below_drew1) | exact HB.out)) hb); clear HB; have HO133 := n0_; have HB := n1_; clear n0_ n1_; clear hb ho37; obtain ⟨Ao38, co38, eo38⟩ := Kd.R_slice HO133.out; subst eo38) | ((with_reducible refine gate_callee (f := 14) rfl ?_); refine goesL_ (some 10) rfl rfl Try.func14 (by kernel_rfl) rfl #[.slice Ao38 y131.length co38, .int .i64 2] rfl (by (try simp only [List.map_toArray, List.map_cons, List.map_nil]); first | done | rfl | (simp only [List.length_drop, List.length_take]; rfl)) ?_; (with_reducible refine (copies_Row.calls k _ _ y131 2 t134 t135 _ ?side1 ?side2 A1.out).mono ?_); (case side1 => repeat (first | exact (Kd.R_reads' HO133.out).2.2 | (with_reducible refine Kd.C_alloc ?_ _) | (with_reducible refine Kd.C_drewN ?_ _) | (with_reducible refine Kd.C_drew ?_))); (case side2 => exact (Kd.R_reads' HO133.out).2.1); rintro e w39 ⟨v136, rfl, ho0, hb⟩; refine ⟨_, rfl, ?_⟩; have n0_ := Aside0.mk (Kd.R_elder' (by (with_reducible repeat (first | apply Kd.R_alloc | apply Kd.R_drewN | apply Kd.R_drew)); exact HO133.out) (Kd.R_base ho0) hb); have n1_ := Aside0.mk (Kd.R_lower (Kd.R_new' ho0 (Kd.R_lt (by (with_reducible repeat (first | apply Kd.R_alloc | apply Kd.R_drewN | apply Kd.R_drew)); exact HO133.out))) (below_size (by repeat (first | (with_reducible first | exact HB.out | apply below_alloc | apply pw_below_drewN | apply below_drew1) | exact HB.out)))); have n2_ := Aside0.mk (below_step (by repeat (first | (with_reducible first | exact HB.out | apply below_alloc | apply pw_below_drewN | apply below_drew1) | exact HB.out)) hb); clear HO133; clear HB; have HO133 := n0_; have HO137 := n1_; have HB := n2_; clear n0_ n1_ n2_; (try clear hb); (try clear hb2); (try clear hk); (try clear hi); (try clear ho0)) | ((with_reducible refine gate_dst (N := 14) rfl ?_); (try (refine gate_guard (by rfl) ?_; dsimp only)); refine Kd.R_lit (Kd.int .u16) _ 35 ?hg (N := 14) ?hd (xs := ([7, 8, 9] : List Int)) (inner := [.int .u16 7, .int .u16 8, .int .u16 9]) (ok := fun _ => True) (okp := fun _ => True) ?hr ?hp (fun _ hk => hk) trivial (Below.refl _ _) (Nat.le_refl _) (by simp) ?_; (case hd => rfl); (case hg => rfl); (case hr => first | (go_simp; done) | (go_simp; rfl)); (case hp => exact (Reps.one (show Kd.M (Kd.int .u16) _ _ _ 7 [.int .u16 7] from rfl) (Reps.one (show Kd.M (Kd.int .u16) _ _ _ 8 [.int .u16 8] from rfl) (Reps.one (show Kd.M (Kd.int .u16) _ _ _ 9 [.int .u16 9] from rfl) (Reps.none _ _))))); intro v139 w40 ho41 hb hg_ hnew_; clear hg_ hnew_; (first | rw [← Ny138.out] at ho41 | (simp only [Int.reduceToNat] at ho41; rw [← Ny138.out] at ho41)); have n0_ := Aside0.mk (Kd.R_below (by (with_reducible repeat (first | apply Kd.R_alloc | apply Kd.R_drewN | apply Kd.R_drew)); exact HO133.out) hb); have n1_ := Aside0.mk (Kd.R_below (by (with_reducible repeat (first | apply Kd.R_alloc | apply Kd.R_drewN | apply Kd.R_drew)); exact HO137.out) hb); have n2_ := Aside0.mk (Kd.R_lower ho41 (below_size (by repeat (first | (with_reducible first | exact HB.out | apply below_alloc | apply pw_below_drewN | apply below_drew1) | exact HB.out)))); have n3_ := Aside0.mk (below_step (by repeat (first | (with_reducible first | exact HB.out | apply below_alloc | apply pw_below_drewN | apply below_drew1) | exact HB.out)) hb); clear HO133; clear HO137; clear HB; have HO133 := n0_; have HO137 := n1_; have HO140 := n2_; have HB := n3_; clear n0_ n1_ n2_ n3_; clear hb ho41; obtain ⟨Ao42, co42, eo42⟩ := Kd.R_slice HO137.out; subst eo42; obtain ⟨Ao43, co43, eo43⟩ := Kd.R_slice HO140.out; subst eo43) | ((with_reducible refine gate_callee (f := 12) rfl ?_); refine goesL_ (some 15) rfl rfl Try.func12 (by kernel_rfl) rfl #[.slice Ao42 t134.length co42, .slice Ao43 y138.length co43] rfl (by (try simp only [List.map_toArray, List.map_cons, List.map_nil]); first | done | rfl | (simp only [List.length_drop, List.length_take]; rfl)) ?_; (with_reducible refine (copies_Made.calls k _ _ t134 _ _ y138 t141 _ ?side1 ?side2 ?side3 ?side4 A2.out).mono ?_); (case side1 => repeat (first | exact (Kd.R_reads' HO137.out).2.2 | (with_reducible refine Kd.C_alloc ?_ _) | (with_reducible refine Kd.C_drewN ?_ _) | (with_reducible refine Kd.C_drew ?_))); (case side2 => exact (Kd.R_reads' HO137.out).2.1); (case side3 => repeat (first | exact (Kd.R_reads' HO140.out).2.2 | (with_reducible refine Kd.C_alloc ?_ _) | (with_reducible refine Kd.C_drewN ?_ _) | (with_reducible refine Kd.C_drew ?_))); (case side4 => exact (Kd.R_reads' HO140.out).2.1); rintro e w44 ⟨v142, rfl, ho0, hb⟩; refine ⟨_, rfl, ?_⟩; have n0_ := Aside0.mk (Kd.R_below (by (with_reducible repeat (first | apply Kd.R_alloc | apply Kd.R_drewN | apply Kd.R_drew)); exact HO133.out) hb); have n1_ := Aside0.mk (Kd.R_below (by (with_reducible repeat (first | apply Kd.R_alloc | apply Kd.R_drewN | apply Kd.R_drew)); exact HO137.out) hb); have n2_ := Aside0.mk (Kd.R_elder' (by (with_reducible repeat (first | apply Kd.R_alloc | apply Kd.R_drewN | apply Kd.R_drew)); exact HO140.out) (Kd.R_base ho0) hb); have n3_ := Aside0.mk (Kd.R_lower (Kd.R_new' ho0 (Kd.R_lt (by (with_reducible repeat (first | apply Kd.R_alloc | apply Kd.R_drewN | apply Kd.R_drew)); exact HO140.out))) (below_size (by repeat (first | (with_reducible first | exact HB.out | apply below_alloc | apply pw_below_drewN | apply below_drew1) | exact HB.out)))); have n4_ := Aside0.mk (below_step (by repeat (first | (with_reducible first | exact HB.out | apply below_alloc | apply pw_below_drewN | apply below_drew1) | exact HB.out)) hb); clear HO133; clear HO137; clear HO140; clear HB; have HO133 := n0_; have HO137 := n1_; have HO140 := n2_; have HO143 := n3_; have HB := n4_; clear n0_ n1_ n2_ n3_ n4_; (try clear hb); (try clear hb2); (try clear hk); (try clear hi); (try clear ho0); obtain ⟨Ao45, co45, eo45⟩ := Kd.R_slice HO143.out; subst eo45; have p144 : 0 ≤ (0 : Int) := (by omega); have q144 : 0 < (t141.length : Int) := of_decide_eq_true (by first | (with_reducible assumption) | assumption); obtain ⟨ad144, e144, hx144_0⟩ := Kd.at_int (Kd.R_reads' HO143.out).2.2 0 p144 q144; cases e144; have qi144 : (0 < t141.length) = True := eq_true (by omega); (try rw [show ((0 : Int)).toNat = 0 from rfl] at hx144_0); (try rw [Addr.add_zero'] at hx144_0); replace p144 := eq_true p144; replace q144 := eq_true q144; have p145 : 0 ≤ (1 : Int) := (by omega); have q145 : 1 < (t141.length : Int) := of_decide_eq_true (by first | (with_reducible assumption) | assumption); obtain ⟨ad145, e145, hx145_0⟩ := Kd.at_int (Kd.R_reads' HO143.out).2.2 1 p145 q145; obtain rfl : ad144 = ad145 := (by injection e145); (try simp only [show (1 : Int).toNat = 1 from rfl, Nat.reduceMul, Nat.reduceEqDiff, Go.Addr.add, ↓reduceIte] at hx145_0); have qi145 : (1 < t141.length) = True := eq_true (by omega); (try rw [show ((1 : Int)).toNat = 1 from rfl] at hx145_0); replace p145 := eq_true p145; replace q145 := eq_true q145))
        go_ret
        exact ⟨by first | rfl | (simp [errW_none, errW_some] <;> rfl) | (simp [*, errW_none, errW_some] <;> rfl), by repeat (first | (with_reducible first | exact HB.out | apply below_alloc | apply pw_below_drewN | apply below_drew1) | exact HB.out)⟩
      ·rw [if_neg c8] at H
       exact absurd H (by simp)
     ·rw [if_neg c7] at H
      have c7b0 : ((rd t141 0) == 8) = false := beq_eq_false_iff_ne.mpr c7
      have c7b1 : ((rd t141 0) != 8) = true := bne_iff_ne.mpr c7
      obtain rfl := Option.some.inj H
      go_enter Try.func6, Try.ntmps6
      go_wp2_with (first | ((with_reducible refine gate_dst (N := 7) rfl ?_); (try (refine gate_guard (by rfl) ?_; dsimp only)); refine Kd.R_lit k34 _ 34 ?hg (N := 7) ?hd (xs := ([(⟨0, 1⟩ : S34), (⟨1, 0⟩ : S34)] : List (S34))) (inner := [.int .i64 0, .int .i64 1, .int .i64 1, .int .i64 0]) (ok := fun _ => True) (okp := fun _ => True) ?hr ?hp (fun _ hk => hk) trivial (Below.refl _ _) (Nat.le_refl _) (by simp) ?_; (case hd => rfl); (case hg => rfl); (case hr => first | (go_simp; done) | (go_simp; rfl)); (case hp => exact (Reps.c2 (show Kd.M k34 _ _ _ (⟨0, 1⟩ : S34) [.int .i64 0, .int .i64 1] from (k34_mkM _ _ _ (⟨0, 1⟩ : S34) )) (Reps.c2 (show Kd.M k34 _ _ _ (⟨1, 0⟩ : S34) [.int .i64 1, .int .i64 0] from (k34_mkM _ _ _ (⟨1, 0⟩ : S34) )) (Reps.none _ _)))); intro v132 w46 ho47 hb hg_ hnew_; clear hg_ hnew_; (first | rw [← Ny131.out] at ho47 | (simp only [Int.reduceToNat] at ho47; rw [← Ny131.out] at ho47)); have n0_ := Aside0.mk (Kd.R_lower ho47 (below_size (by repeat (first | (with_reducible first | exact HB.out | apply below_alloc | apply pw_below_drewN | apply below_drew1) | exact HB.out)))); have n1_ := Aside0.mk (below_step (by repeat (first | (with_reducible first | exact HB.out | apply below_alloc | apply pw_below_drewN | apply below_drew1) | exact HB.out)) hb); clear HB; have HO133 := n0_; have HB := n1_; clear n0_ n1_; clear hb ho47; obtain ⟨Ao48, co48, eo48⟩ := Kd.R_slice HO133.out; subst eo48) | ((with_reducible refine gate_callee (f := 14) rfl ?_); refine goesL_ (some 10) rfl rfl Try.func14 (by kernel_rfl) rfl #[.slice Ao48 y131.length co48, .int .i64 2] rfl (by (try simp only [List.map_toArray, List.map_cons, List.map_nil]); first | done | rfl | (simp only [List.length_drop, List.length_take]; rfl)) ?_; (with_reducible refine (copies_Row.calls k _ _ y131 2 t134 t135 _ ?side1 ?side2 A1.out).mono ?_); (case side1 => repeat (first | exact (Kd.R_reads' HO133.out).2.2 | (with_reducible refine Kd.C_alloc ?_ _) | (with_reducible refine Kd.C_drewN ?_ _) | (with_reducible refine Kd.C_drew ?_))); (case side2 => exact (Kd.R_reads' HO133.out).2.1); rintro e w49 ⟨v136, rfl, ho0, hb⟩; refine ⟨_, rfl, ?_⟩; have n0_ := Aside0.mk (Kd.R_elder' (by (with_reducible repeat (first | apply Kd.R_alloc | apply Kd.R_drewN | apply Kd.R_drew)); exact HO133.out) (Kd.R_base ho0) hb); have n1_ := Aside0.mk (Kd.R_lower (Kd.R_new' ho0 (Kd.R_lt (by (with_reducible repeat (first | apply Kd.R_alloc | apply Kd.R_drewN | apply Kd.R_drew)); exact HO133.out))) (below_size (by repeat (first | (with_reducible first | exact HB.out | apply below_alloc | apply pw_below_drewN | apply below_drew1) | exact HB.out)))); have n2_ := Aside0.mk (below_step (by repeat (first | (with_reducible first | exact HB.out | apply below_alloc | apply pw_below_drewN | apply below_drew1) | exact HB.out)) hb); clear HO133; clear HB; have HO133 := n0_; have HO137 := n1_; have HB := n2_; clear n0_ n1_ n2_; (try clear hb); (try clear hb2); (try clear hk); (try clear hi); (try clear ho0)) | ((with_reducible refine gate_dst (N := 14) rfl ?_); (try (refine gate_guard (by rfl) ?_; dsimp only)); refine Kd.R_lit (Kd.int .u16) _ 35 ?hg (N := 14) ?hd (xs := ([7, 8, 9] : List Int)) (inner := [.int .u16 7, .int .u16 8, .int .u16 9]) (ok := fun _ => True) (okp := fun _ => True) ?hr ?hp (fun _ hk => hk) trivial (Below.refl _ _) (Nat.le_refl _) (by simp) ?_; (case hd => rfl); (case hg => rfl); (case hr => first | (go_simp; done) | (go_simp; rfl)); (case hp => exact (Reps.one (show Kd.M (Kd.int .u16) _ _ _ 7 [.int .u16 7] from rfl) (Reps.one (show Kd.M (Kd.int .u16) _ _ _ 8 [.int .u16 8] from rfl) (Reps.one (show Kd.M (Kd.int .u16) _ _ _ 9 [.int .u16 9] from rfl) (Reps.none _ _))))); intro v139 w50 ho51 hb hg_ hnew_; clear hg_ hnew_; (first | rw [← Ny138.out] at ho51 | (simp only [Int.reduceToNat] at ho51; rw [← Ny138.out] at ho51)); have n0_ := Aside0.mk (Kd.R_below (by (with_reducible repeat (first | apply Kd.R_alloc | apply Kd.R_drewN | apply Kd.R_drew)); exact HO133.out) hb); have n1_ := Aside0.mk (Kd.R_below (by (with_reducible repeat (first | apply Kd.R_alloc | apply Kd.R_drewN | apply Kd.R_drew)); exact HO137.out) hb); have n2_ := Aside0.mk (Kd.R_lower ho51 (below_size (by repeat (first | (with_reducible first | exact HB.out | apply below_alloc | apply pw_below_drewN | apply below_drew1) | exact HB.out)))); have n3_ := Aside0.mk (below_step (by repeat (first | (with_reducible first | exact HB.out | apply below_alloc | apply pw_below_drewN | apply below_drew1) | exact HB.out)) hb); clear HO133; clear HO137; clear HB; have HO133 := n0_; have HO137 := n1_; have HO140 := n2_; have HB := n3_; clear n0_ n1_ n2_ n3_; clear hb ho51; obtain ⟨Ao52, co52, eo52⟩ := Kd.R_slice HO137.out; subst eo52; obtain ⟨Ao53, co53, eo53⟩ := Kd.R_slice HO140.out; subst eo53) | ((with_reducible refine gate_callee (f := 12) rfl ?_); refine goesL_ (some 15) rfl rfl Try.func12 (by kernel_rfl) rfl #[.slice Ao52 t134.length co52, .slice Ao53 y138.length co53] rfl (by (try simp only [List.map_toArray, List.map_cons, List.map_nil]); first | done | rfl | (simp only [List.length_drop, List.length_take]; rfl)) ?_; (with_reducible refine (copies_Made.calls k _ _ t134 _ _ y138 t141 _ ?side1 ?side2 ?side3 ?side4 A2.out).mono ?_); (case side1 => repeat (first | exact (Kd.R_reads' HO137.out).2.2 | (with_reducible refine Kd.C_alloc ?_ _) | (with_reducible refine Kd.C_drewN ?_ _) | (with_reducible refine Kd.C_drew ?_))); (case side2 => exact (Kd.R_reads' HO137.out).2.1); (case side3 => repeat (first | exact (Kd.R_reads' HO140.out).2.2 | (with_reducible refine Kd.C_alloc ?_ _) | (with_reducible refine Kd.C_drewN ?_ _) | (with_reducible refine Kd.C_drew ?_))); (case side4 => exact (Kd.R_reads' HO140.out).2.1); rintro e w54 ⟨v142, rfl, ho0, hb⟩; refine ⟨_, rfl, ?_⟩; have n0_ := Aside0.mk (Kd.R_below (by (with_reducible repeat (first | apply Kd.R_alloc | apply Kd.R_drewN | apply Kd.R_drew)); exact HO133.out) hb); have n1_ := Aside0.mk (Kd.R_below (by (with_reducible repeat (first | apply Kd.R_alloc | apply Kd.R_drewN | apply Kd.R_drew)); exact HO137.out) hb); have n2_ := Aside0.mk (Kd.R_elder' (by (with_reducible repeat (first | apply Kd.R_alloc | apply Kd.R_drewN | apply Kd.R_drew)); exact HO140.out) (Kd.R_base ho0) hb); have n3_ := Aside0.mk (Kd.R_lower (Kd.R_new' ho0 (Kd.R_lt (by (with_reducible repeat (first | apply Kd.R_alloc | apply Kd.R_drewN | apply Kd.R_drew)); exact HO140.out))) (below_size (by repeat (first | (with_reducible first | exact HB.out | apply below_alloc | apply pw_below_drewN | apply below_drew1) | exact HB.out)))); have n4_ := Aside0.mk (below_step (by repeat (first | (with_reducible first | exact HB.out | apply below_alloc | apply pw_below_drewN | apply below_drew1) | exact HB.out)) hb); clear HO133; clear HO137; clear HO140; clear HB; have HO133 := n0_; have HO137 := n1_; have HO140 := n2_; have HO143 := n3_; have HB := n4_; clear n0_ n1_ n2_ n3_ n4_; (try clear hb); (try clear hb2); (try clear hk); (try clear hi); (try clear ho0); obtain ⟨Ao55, co55, eo55⟩ := Kd.R_slice HO143.out; subst eo55; have p144 : 0 ≤ (0 : Int) := (by omega); have q144 : 0 < (t141.length : Int) := of_decide_eq_true (by first | (with_reducible assumption) | assumption); obtain ⟨ad144, e144, hx144_0⟩ := Kd.at_int (Kd.R_reads' HO143.out).2.2 0 p144 q144; cases e144; have qi144 : (0 < t141.length) = True := eq_true (by omega); (try rw [show ((0 : Int)).toNat = 0 from rfl] at hx144_0); (try rw [Addr.add_zero'] at hx144_0); replace p144 := eq_true p144; replace q144 := eq_true q144))
      go_ret
      exact ⟨by first | rfl | (simp [errW_none, errW_some] <;> rfl) | (simp [*, errW_none, errW_some] <;> rfl), by repeat (first | (with_reducible first | exact HB.out | apply below_alloc | apply pw_below_drewN | apply below_drew1) | exact HB.out)⟩
    ·rw [if_neg c6] at H
     exact absurd H (by simp)
   ·rw [if_neg c5] at H
    have c5b0 : ((t141.length : Int) == 3) = false := beq_eq_false_iff_ne.mpr c5
    have c5b1 : ((t141.length : Int) != 3) = true := bne_iff_ne.mpr c5
    obtain rfl := Option.some.inj H
    go_enter Try.func6, Try.ntmps6
    go_wp2_with (first | ((with_reducible refine gate_dst (N := 7) rfl ?_); (try (refine gate_guard (by rfl) ?_; dsimp only)); refine Kd.R_lit k34 _ 34 ?hg (N := 7) ?hd (xs := ([(⟨0, 1⟩ : S34), (⟨1, 0⟩ : S34)] : List (S34))) (inner := [.int .i64 0, .int .i64 1, .int .i64 1, .int .i64 0]) (ok := fun _ => True) (okp := fun _ => True) ?hr ?hp (fun _ hk => hk) trivial (Below.refl _ _) (Nat.le_refl _) (by simp) ?_; (case hd => rfl); (case hg => rfl); (case hr => first | (go_simp; done) | (go_simp; rfl)); (case hp => exact (Reps.c2 (show Kd.M k34 _ _ _ (⟨0, 1⟩ : S34) [.int .i64 0, .int .i64 1] from (k34_mkM _ _ _ (⟨0, 1⟩ : S34) )) (Reps.c2 (show Kd.M k34 _ _ _ (⟨1, 0⟩ : S34) [.int .i64 1, .int .i64 0] from (k34_mkM _ _ _ (⟨1, 0⟩ : S34) )) (Reps.none _ _)))); intro v132 w56 ho57 hb hg_ hnew_; clear hg_ hnew_; (first | rw [← Ny131.out] at ho57 | (simp only [Int.reduceToNat] at ho57; rw [← Ny131.out] at ho57)); have n0_ := Aside0.mk (Kd.R_lower ho57 (below_size (by repeat (first | (with_reducible first | exact HB.out | apply below_alloc | apply pw_below_drewN | apply below_drew1) | exact HB.out)))); have n1_ := Aside0.mk (below_step (by repeat (first | (with_reducible first | exact HB.out | apply below_alloc | apply pw_below_drewN | apply below_drew1) | exact HB.out)) hb); clear HB; have HO133 := n0_; have HB := n1_; clear n0_ n1_; clear hb ho57; obtain ⟨Ao58, co58, eo58⟩ := Kd.R_slice HO133.out; subst eo58) | ((with_reducible refine gate_callee (f := 14) rfl ?_); refine goesL_ (some 10) rfl rfl Try.func14 (by kernel_rfl) rfl #[.slice Ao58 y131.length co58, .int .i64 2] rfl (by (try simp only [List.map_toArray, List.map_cons, List.map_nil]); first | done | rfl | (simp only [List.length_drop, List.length_take]; rfl)) ?_; (with_reducible refine (copies_Row.calls k _ _ y131 2 t134 t135 _ ?side1 ?side2 A1.out).mono ?_); (case side1 => repeat (first | exact (Kd.R_reads' HO133.out).2.2 | (with_reducible refine Kd.C_alloc ?_ _) | (with_reducible refine Kd.C_drewN ?_ _) | (with_reducible refine Kd.C_drew ?_))); (case side2 => exact (Kd.R_reads' HO133.out).2.1); rintro e w59 ⟨v136, rfl, ho0, hb⟩; refine ⟨_, rfl, ?_⟩; have n0_ := Aside0.mk (Kd.R_elder' (by (with_reducible repeat (first | apply Kd.R_alloc | apply Kd.R_drewN | apply Kd.R_drew)); exact HO133.out) (Kd.R_base ho0) hb); have n1_ := Aside0.mk (Kd.R_lower (Kd.R_new' ho0 (Kd.R_lt (by (with_reducible repeat (first | apply Kd.R_alloc | apply Kd.R_drewN | apply Kd.R_drew)); exact HO133.out))) (below_size (by repeat (first | (with_reducible first | exact HB.out | apply below_alloc | apply pw_below_drewN | apply below_drew1) | exact HB.out)))); have n2_ := Aside0.mk (below_step (by repeat (first | (with_reducible first | exact HB.out | apply below_alloc | apply pw_below_drewN | apply below_drew1) | exact HB.out)) hb); clear HO133; clear HB; have HO133 := n0_; have HO137 := n1_; have HB := n2_; clear n0_ n1_ n2_; (try clear hb); (try clear hb2); (try clear hk); (try clear hi); (try clear ho0)) | ((with_reducible refine gate_dst (N := 14) rfl ?_); (try (refine gate_guard (by rfl) ?_; dsimp only)); refine Kd.R_lit (Kd.int .u16) _ 35 ?hg (N := 14) ?hd (xs := ([7, 8, 9] : List Int)) (inner := [.int .u16 7, .int .u16 8, .int .u16 9]) (ok := fun _ => True) (okp := fun _ => True) ?hr ?hp (fun _ hk => hk) trivial (Below.refl _ _) (Nat.le_refl _) (by simp) ?_; (case hd => rfl); (case hg => rfl); (case hr => first | (go_simp; done) | (go_simp; rfl)); (case hp => exact (Reps.one (show Kd.M (Kd.int .u16) _ _ _ 7 [.int .u16 7] from rfl) (Reps.one (show Kd.M (Kd.int .u16) _ _ _ 8 [.int .u16 8] from rfl) (Reps.one (show Kd.M (Kd.int .u16) _ _ _ 9 [.int .u16 9] from rfl) (Reps.none _ _))))); intro v139 w60 ho61 hb hg_ hnew_; clear hg_ hnew_; (first | rw [← Ny138.out] at ho61 | (simp only [Int.reduceToNat] at ho61; rw [← Ny138.out] at ho61)); have n0_ := Aside0.mk (Kd.R_below (by (with_reducible repeat (first | apply Kd.R_alloc | apply Kd.R_drewN | apply Kd.R_drew)); exact HO133.out) hb); have n1_ := Aside0.mk (Kd.R_below (by (with_reducible repeat (first | apply Kd.R_alloc | apply Kd.R_drewN | apply Kd.R_drew)); exact HO137.out) hb); have n2_ := Aside0.mk (Kd.R_lower ho61 (below_size (by repeat (first | (with_reducible first | exact HB.out | apply below_alloc | apply pw_below_drewN | apply below_drew1) | exact HB.out)))); have n3_ := Aside0.mk (below_step (by repeat (first | (with_reducible first | exact HB.out | apply below_alloc | apply pw_below_drewN | apply below_drew1) | exact HB.out)) hb); clear HO133; clear HO137; clear HB; have HO133 := n0_; have HO137 := n1_; have HO140 := n2_; have HB := n3_; clear n0_ n1_ n2_ n3_; clear hb ho61; obtain ⟨Ao62, co62, eo62⟩ := Kd.R_slice HO137.out; subst eo62; obtain ⟨Ao63, co63, eo63⟩ := Kd.R_slice HO140.out; subst eo63) | ((with_reducible refine gate_callee (f := 12) rfl ?_); refine goesL_ (some 15) rfl rfl Try.func12 (by kernel_rfl) rfl #[.slice Ao62 t134.length co62, .slice Ao63 y138.length co63] rfl (by (try simp only [List.map_toArray, List.map_cons, List.map_nil]); first | done | rfl | (simp only [List.length_drop, List.length_take]; rfl)) ?_; (with_reducible refine (copies_Made.calls k _ _ t134 _ _ y138 t141 _ ?side1 ?side2 ?side3 ?side4 A2.out).mono ?_); (case side1 => repeat (first | exact (Kd.R_reads' HO137.out).2.2 | (with_reducible refine Kd.C_alloc ?_ _) | (with_reducible refine Kd.C_drewN ?_ _) | (with_reducible refine Kd.C_drew ?_))); (case side2 => exact (Kd.R_reads' HO137.out).2.1); (case side3 => repeat (first | exact (Kd.R_reads' HO140.out).2.2 | (with_reducible refine Kd.C_alloc ?_ _) | (with_reducible refine Kd.C_drewN ?_ _) | (with_reducible refine Kd.C_drew ?_))); (case side4 => exact (Kd.R_reads' HO140.out).2.1); rintro e w64 ⟨v142, rfl, ho0, hb⟩; refine ⟨_, rfl, ?_⟩; have n0_ := Aside0.mk (Kd.R_below (by (with_reducible repeat (first | apply Kd.R_alloc | apply Kd.R_drewN | apply Kd.R_drew)); exact HO133.out) hb); have n1_ := Aside0.mk (Kd.R_below (by (with_reducible repeat (first | apply Kd.R_alloc | apply Kd.R_drewN | apply Kd.R_drew)); exact HO137.out) hb); have n2_ := Aside0.mk (Kd.R_elder' (by (with_reducible repeat (first | apply Kd.R_alloc | apply Kd.R_drewN | apply Kd.R_drew)); exact HO140.out) (Kd.R_base ho0) hb); have n3_ := Aside0.mk (Kd.R_lower (Kd.R_new' ho0 (Kd.R_lt (by (with_reducible repeat (first | apply Kd.R_alloc | apply Kd.R_drewN | apply Kd.R_drew)); exact HO140.out))) (below_size (by repeat (first | (with_reducible first | exact HB.out | apply below_alloc | apply pw_below_drewN | apply below_drew1) | exact HB.out)))); have n4_ := Aside0.mk (below_step (by repeat (first | (with_reducible first | exact HB.out | apply below_alloc | apply pw_below_drewN | apply below_drew1) | exact HB.out)) hb); clear HO133; clear HO137; clear HO140; clear HB; have HO133 := n0_; have HO137 := n1_; have HO140 := n2_; have HO143 := n3_; have HB := n4_; clear n0_ n1_ n2_ n3_ n4_; (try clear hb); (try clear hb2); (try clear hk); (try clear hi); (try clear ho0); obtain ⟨Ao65, co65, eo65⟩ := Kd.R_slice HO143.out; subst eo65))
    go_ret
    exact ⟨by first | rfl | (simp [errW_none, errW_some] <;> rfl) | (simp [*, errW_none, errW_some] <;> rfl), by repeat (first | (with_reducible first | exact HB.out | apply below_alloc | apply pw_below_drewN | apply below_drew1) | exact HB.out)⟩
  ·rw [if_neg c4] at H
   have c4b0 : ((t134.length : Int) == 3) = false := beq_eq_false_iff_ne.mpr c4
   have c4b1 : ((t134.length : Int) != 3) = true := bne_iff_ne.mpr c4
   obtain rfl := Option.some.inj H
   go_enter Try.func6, Try.ntmps6
   go_wp2_with (first | ((with_reducible refine gate_dst (N := 7) rfl ?_); (try (refine gate_guard (by rfl) ?_; dsimp only)); refine Kd.R_lit k34 _ 34 ?hg (N := 7) ?hd (xs := ([(⟨0, 1⟩ : S34), (⟨1, 0⟩ : S34)] : List (S34))) (inner := [.int .i64 0, .int .i64 1, .int .i64 1, .int .i64 0]) (ok := fun _ => True) (okp := fun _ => True) ?hr ?hp (fun _ hk => hk) trivial (Below.refl _ _) (Nat.le_refl _) (by simp) ?_; (case hd => rfl); (case hg => rfl); (case hr => first | (go_simp; done) | (go_simp; rfl)); (case hp => exact (Reps.c2 (show Kd.M k34 _ _ _ (⟨0, 1⟩ : S34) [.int .i64 0, .int .i64 1] from (k34_mkM _ _ _ (⟨0, 1⟩ : S34) )) (Reps.c2 (show Kd.M k34 _ _ _ (⟨1, 0⟩ : S34) [.int .i64 1, .int .i64 0] from (k34_mkM _ _ _ (⟨1, 0⟩ : S34) )) (Reps.none _ _)))); intro v132 w66 ho67 hb hg_ hnew_; clear hg_ hnew_; (first | rw [← Ny131.out] at ho67 | (simp only [Int.reduceToNat] at ho67; rw [← Ny131.out] at ho67)); have n0_ := Aside0.mk (Kd.R_lower ho67 (below_size (by repeat (first | (with_reducible first | exact HB.out | apply below_alloc | apply pw_below_drewN | apply below_drew1) | exact HB.out)))); have n1_ := Aside0.mk (below_step (by repeat (first | (with_reducible first | exact HB.out | apply below_alloc | apply pw_below_drewN | apply below_drew1) | exact HB.out)) hb); clear HB; have HO133 := n0_; have HB := n1_; clear n0_ n1_; clear hb ho67; obtain ⟨Ao68, co68, eo68⟩ := Kd.R_slice HO133.out; subst eo68) | ((with_reducible refine gate_callee (f := 14) rfl ?_); refine goesL_ (some 10) rfl rfl Try.func14 (by kernel_rfl) rfl #[.slice Ao68 y131.length co68, .int .i64 2] rfl (by (try simp only [List.map_toArray, List.map_cons, List.map_nil]); first | done | rfl | (simp only [List.length_drop, List.length_take]; rfl)) ?_; (with_reducible refine (copies_Row.calls k _ _ y131 2 t134 t135 _ ?side1 ?side2 A1.out).mono ?_); (case side1 => repeat (first | exact (Kd.R_reads' HO133.out).2.2 | (with_reducible refine Kd.C_alloc ?_ _) | (with_reducible refine Kd.C_drewN ?_ _) | (with_reducible refine Kd.C_drew ?_))); (case side2 => exact (Kd.R_reads' HO133.out).2.1); rintro e w69 ⟨v136, rfl, ho0, hb⟩; refine ⟨_, rfl, ?_⟩; have n0_ := Aside0.mk (Kd.R_elder' (by (with_reducible repeat (first | apply Kd.R_alloc | apply Kd.R_drewN | apply Kd.R_drew)); exact HO133.out) (Kd.R_base ho0) hb); have n1_ := Aside0.mk (Kd.R_lower (Kd.R_new' ho0 (Kd.R_lt (by (with_reducible repeat (first | apply Kd.R_alloc | apply Kd.R_drewN | apply Kd.R_drew)); exact HO133.out))) (below_size (by repeat (first | (with_reducible first | exact HB.out | apply below_alloc | apply pw_below_drewN | apply below_drew1) | exact HB.out)))); have n2_ := Aside0.mk (below_step (by repeat (first | (with_reducible first | exact HB.out | apply below_alloc | apply pw_below_drewN | apply below_drew1) | exact HB.out)) hb); clear HO133; clear HB; have HO133 := n0_; have HO137 := n1_; have HB := n2_; clear n0_ n1_ n2_; (try clear hb); (try clear hb2); (try clear hk); (try clear hi); (try clear ho0)) | ((with_reducible refine gate_dst (N := 14) rfl ?_); (try (refine gate_guard (by rfl) ?_; dsimp only)); refine Kd.R_lit (Kd.int .u16) _ 35 ?hg (N := 14) ?hd (xs := ([7, 8, 9] : List Int)) (inner := [.int .u16 7, .int .u16 8, .int .u16 9]) (ok := fun _ => True) (okp := fun _ => True) ?hr ?hp (fun _ hk => hk) trivial (Below.refl _ _) (Nat.le_refl _) (by simp) ?_; (case hd => rfl); (case hg => rfl); (case hr => first | (go_simp; done) | (go_simp; rfl)); (case hp => exact (Reps.one (show Kd.M (Kd.int .u16) _ _ _ 7 [.int .u16 7] from rfl) (Reps.one (show Kd.M (Kd.int .u16) _ _ _ 8 [.int .u16 8] from rfl) (Reps.one (show Kd.M (Kd.int .u16) _ _ _ 9 [.int .u16 9] from rfl) (Reps.none _ _))))); intro v139 w70 ho71 hb hg_ hnew_; clear hg_ hnew_; (first | rw [← Ny138.out] at ho71 | (simp only [Int.reduceToNat] at ho71; rw [← Ny138.out] at ho71)); have n0_ := Aside0.mk (Kd.R_below (by (with_reducible repeat (first | apply Kd.R_alloc | apply Kd.R_drewN | apply Kd.R_drew)); exact HO133.out) hb); have n1_ := Aside0.mk (Kd.R_below (by (with_reducible repeat (first | apply Kd.R_alloc | apply Kd.R_drewN | apply Kd.R_drew)); exact HO137.out) hb); have n2_ := Aside0.mk (Kd.R_lower ho71 (below_size (by repeat (first | (with_reducible first | exact HB.out | apply below_alloc | apply pw_below_drewN | apply below_drew1) | exact HB.out)))); have n3_ := Aside0.mk (below_step (by repeat (first | (with_reducible first | exact HB.out | apply below_alloc | apply pw_below_drewN | apply below_drew1) | exact HB.out)) hb); clear HO133; clear HO137; clear HB; have HO133 := n0_; have HO137 := n1_; have HO140 := n2_; have HB := n3_; clear n0_ n1_ n2_ n3_; clear hb ho71; obtain ⟨Ao72, co72, eo72⟩ := Kd.R_slice HO137.out; subst eo72; obtain ⟨Ao73, co73, eo73⟩ := Kd.R_slice HO140.out; subst eo73) | ((with_reducible refine gate_callee (f := 12) rfl ?_); refine goesL_ (some 15) rfl rfl Try.func12 (by kernel_rfl) rfl #[.slice Ao72 t134.length co72, .slice Ao73 y138.length co73] rfl (by (try simp only [List.map_toArray, List.map_cons, List.map_nil]); first | done | rfl | (simp only [List.length_drop, List.length_take]; rfl)) ?_; (with_reducible refine (copies_Made.calls k _ _ t134 _ _ y138 t141 _ ?side1 ?side2 ?side3 ?side4 A2.out).mono ?_); (case side1 => repeat (first | exact (Kd.R_reads' HO137.out).2.2 | (with_reducible refine Kd.C_alloc ?_ _) | (with_reducible refine Kd.C_drewN ?_ _) | (with_reducible refine Kd.C_drew ?_))); (case side2 => exact (Kd.R_reads' HO137.out).2.1); (case side3 => repeat (first | exact (Kd.R_reads' HO140.out).2.2 | (with_reducible refine Kd.C_alloc ?_ _) | (with_reducible refine Kd.C_drewN ?_ _) | (with_reducible refine Kd.C_drew ?_))); (case side4 => exact (Kd.R_reads' HO140.out).2.1); rintro e w74 ⟨v142, rfl, ho0, hb⟩; refine ⟨_, rfl, ?_⟩; have n0_ := Aside0.mk (Kd.R_below (by (with_reducible repeat (first | apply Kd.R_alloc | apply Kd.R_drewN | apply Kd.R_drew)); exact HO133.out) hb); have n1_ := Aside0.mk (Kd.R_below (by (with_reducible repeat (first | apply Kd.R_alloc | apply Kd.R_drewN | apply Kd.R_drew)); exact HO137.out) hb); have n2_ := Aside0.mk (Kd.R_elder' (by (with_reducible repeat (first | apply Kd.R_alloc | apply Kd.R_drewN | apply Kd.R_drew)); exact HO140.out) (Kd.R_base ho0) hb); have n3_ := Aside0.mk (Kd.R_lower (Kd.R_new' ho0 (Kd.R_lt (by (with_reducible repeat (first | apply Kd.R_alloc | apply Kd.R_drewN | apply Kd.R_drew)); exact HO140.out))) (below_size (by repeat (first | (with_reducible first | exact HB.out | apply below_alloc | apply pw_below_drewN | apply below_drew1) | exact HB.out)))); have n4_ := Aside0.mk (below_step (by repeat (first | (with_reducible first | exact HB.out | apply below_alloc | apply pw_below_drewN | apply below_drew1) | exact HB.out)) hb); clear HO133; clear HO137; clear HO140; clear HB; have HO133 := n0_; have HO137 := n1_; have HO140 := n2_; have HO143 := n3_; have HB := n4_; clear n0_ n1_ n2_ n3_ n4_; (try clear hb); (try clear hb2); (try clear hk); (try clear hi); (try clear ho0)))
   go_ret
   exact ⟨by first | rfl | (simp [errW_none, errW_some] <;> rfl) | (simp [*, errW_none, errW_some] <;> rfl), by repeat (first | (with_reducible first | exact HB.out | apply below_alloc | apply pw_below_drewN | apply below_drew1) | exact HB.out)⟩
 ·rw [if_neg c3] at H
  have c3b0 : (t135 == 0) = false := beq_eq_false_iff_ne.mpr c3
  have c3b1 : (t135 != 0) = true := bne_iff_ne.mpr c3
  obtain rfl := Option.some.inj H
  go_enter Try.func6, Try.ntmps6
  go_wp2_with (first | ((with_reducible refine gate_dst (N := 7) rfl ?_); (try (refine gate_guard (by rfl) ?_; dsimp only)); refine Kd.R_lit k34 _ 34 ?hg (N := 7) ?hd (xs := ([(⟨0, 1⟩ : S34), (⟨1, 0⟩ : S34)] : List (S34))) (inner := [.int .i64 0, .int .i64 1, .int .i64 1, .int .i64 0]) (ok := fun _ => True) (okp := fun _ => True) ?hr ?hp (fun _ hk => hk) trivial (Below.refl _ _) (Nat.le_refl _) (by simp) ?_; (case hd => rfl); (case hg => rfl); (case hr => first | (go_simp; done) | (go_simp; rfl)); (case hp => exact (Reps.c2 (show Kd.M k34 _ _ _ (⟨0, 1⟩ : S34) [.int .i64 0, .int .i64 1] from (k34_mkM _ _ _ (⟨0, 1⟩ : S34) )) (Reps.c2 (show Kd.M k34 _ _ _ (⟨1, 0⟩ : S34) [.int .i64 1, .int .i64 0] from (k34_mkM _ _ _ (⟨1, 0⟩ : S34) )) (Reps.none _ _)))); intro v132 w75 ho76 hb hg_ hnew_; clear hg_ hnew_; (first | rw [← Ny131.out] at ho76 | (simp only [Int.reduceToNat] at ho76; rw [← Ny131.out] at ho76)); have n0_ := Aside0.mk (Kd.R_lower ho76 (below_size (by repeat (first | (with_reducible first | exact HB.out | apply below_alloc | apply pw_below_drewN | apply below_drew1) | exact HB.out)))); have n1_ := Aside0.mk (below_step (by repeat (first | (with_reducible first | exact HB.out | apply below_alloc | apply pw_below_drewN | apply below_drew1) | exact HB.out)) hb); clear HB; have HO133 := n0_; have HB := n1_; clear n0_ n1_; clear hb ho76; obtain ⟨Ao77, co77, eo77⟩ := Kd.R_slice HO133.out; subst eo77) | ((with_reducible refine gate_callee (f := 14) rfl ?_); refine goesL_ (some 10) rfl rfl Try.func14 (by kernel_rfl) rfl #[.slice Ao77 y131.length co77, .int .i64 2] rfl (by (try simp only [List.map_toArray, List.map_cons, List.map_nil]); first | done | rfl | (simp only [List.length_drop, List.length_take]; rfl)) ?_; (with_reducible refine (copies_Row.calls k _ _ y131 2 t134 t135 _ ?side1 ?side2 A1.out).mono ?_); (case side1 => repeat (first | exact (Kd.R_reads' HO133.out).2.2 | (with_reducible refine Kd.C_alloc ?_ _) | (with_reducible refine Kd.C_drewN ?_ _) | (with_reducible refine Kd.C_drew ?_))); (case side2 => exact (Kd.R_reads' HO133.out).2.1); rintro e w78 ⟨v136, rfl, ho0, hb⟩; refine ⟨_, rfl, ?_⟩; have n0_ := Aside0.mk (Kd.R_elder' (by (with_reducible repeat (first | apply Kd.R_alloc | apply Kd.R_drewN | apply Kd.R_drew)); exact HO133.out) (Kd.R_base ho0) hb); have n1_ := Aside0.mk (Kd.R_lower (Kd.R_new' ho0 (Kd.R_lt (by (with_reducible repeat (first | apply Kd.R_alloc | apply Kd.R_drewN | apply Kd.R_drew)); exact HO133.out))) (below_size (by repeat (first | (with_reducible first | exact HB.out | apply below_alloc | apply pw_below_drewN | apply below_drew1) | exact HB.out)))); have n2_ := Aside0.mk (below_step (by repeat (first | (with_reducible first | exact HB.out | apply below_alloc | apply pw_below_drewN | apply below_drew1) | exact HB.out)) hb); clear HO133; clear HB; have HO133 := n0_; have HO137 := n1_; have HB := n2_; clear n0_ n1_ n2_; (try clear hb); (try clear hb2); (try clear hk); (try clear hi); (try clear ho0)) | ((with_reducible refine gate_dst (N := 14) rfl ?_); (try (refine gate_guard (by rfl) ?_; dsimp only)); refine Kd.R_lit (Kd.int .u16) _ 35 ?hg (N := 14) ?hd (xs := ([7, 8, 9] : List Int)) (inner := [.int .u16 7, .int .u16 8, .int .u16 9]) (ok := fun _ => True) (okp := fun _ => True) ?hr ?hp (fun _ hk => hk) trivial (Below.refl _ _) (Nat.le_refl _) (by simp) ?_; (case hd => rfl); (case hg => rfl); (case hr => first | (go_simp; done) | (go_simp; rfl)); (case hp => exact (Reps.one (show Kd.M (Kd.int .u16) _ _ _ 7 [.int .u16 7] from rfl) (Reps.one (show Kd.M (Kd.int .u16) _ _ _ 8 [.int .u16 8] from rfl) (Reps.one (show Kd.M (Kd.int .u16) _ _ _ 9 [.int .u16 9] from rfl) (Reps.none _ _))))); intro v139 w79 ho80 hb hg_ hnew_; clear hg_ hnew_; (first | rw [← Ny138.out] at ho80 | (simp only [Int.reduceToNat] at ho80; rw [← Ny138.out] at ho80)); have n0_ := Aside0.mk (Kd.R_below (by (with_reducible repeat (first | apply Kd.R_alloc | apply Kd.R_drewN | apply Kd.R_drew)); exact HO133.out) hb); have n1_ := Aside0.mk (Kd.R_below (by (with_reducible repeat (first | apply Kd.R_alloc | apply Kd.R_drewN | apply Kd.R_drew)); exact HO137.out) hb); have n2_ := Aside0.mk (Kd.R_lower ho80 (below_size (by repeat (first | (with_reducible first | exact HB.out | apply below_alloc | apply pw_below_drewN | apply below_drew1) | exact HB.out)))); have n3_ := Aside0.mk (below_step (by repeat (first | (with_reducible first | exact HB.out | apply below_alloc | apply pw_below_drewN | apply below_drew1) | exact HB.out)) hb); clear HO133; clear HO137; clear HB; have HO133 := n0_; have HO137 := n1_; have HO140 := n2_; have HB := n3_; clear n0_ n1_ n2_ n3_; clear hb ho80; obtain ⟨Ao81, co81, eo81⟩ := Kd.R_slice HO137.out; subst eo81; obtain ⟨Ao82, co82, eo82⟩ := Kd.R_slice HO140.out; subst eo82) | ((with_reducible refine gate_callee (f := 12) rfl ?_); refine goesL_ (some 15) rfl rfl Try.func12 (by kernel_rfl) rfl #[.slice Ao81 t134.length co81, .slice Ao82 y138.length co82] rfl (by (try simp only [List.map_toArray, List.map_cons, List.map_nil]); first | done | rfl | (simp only [List.length_drop, List.length_take]; rfl)) ?_; (with_reducible refine (copies_Made.calls k _ _ t134 _ _ y138 t141 _ ?side1 ?side2 ?side3 ?side4 A2.out).mono ?_); (case side1 => repeat (first | exact (Kd.R_reads' HO137.out).2.2 | (with_reducible refine Kd.C_alloc ?_ _) | (with_reducible refine Kd.C_drewN ?_ _) | (with_reducible refine Kd.C_drew ?_))); (case side2 => exact (Kd.R_reads' HO137.out).2.1); (case side3 => repeat (first | exact (Kd.R_reads' HO140.out).2.2 | (with_reducible refine Kd.C_alloc ?_ _) | (with_reducible refine Kd.C_drewN ?_ _) | (with_reducible refine Kd.C_drew ?_))); (case side4 => exact (Kd.R_reads' HO140.out).2.1); rintro e w83 ⟨v142, rfl, ho0, hb⟩; refine ⟨_, rfl, ?_⟩; have n0_ := Aside0.mk (Kd.R_below (by (with_reducible repeat (first | apply Kd.R_alloc | apply Kd.R_drewN | apply Kd.R_drew)); exact HO133.out) hb); have n1_ := Aside0.mk (Kd.R_below (by (with_reducible repeat (first | apply Kd.R_alloc | apply Kd.R_drewN | apply Kd.R_drew)); exact HO137.out) hb); have n2_ := Aside0.mk (Kd.R_elder' (by (with_reducible repeat (first | apply Kd.R_alloc | apply Kd.R_drewN | apply Kd.R_drew)); exact HO140.out) (Kd.R_base ho0) hb); have n3_ := Aside0.mk (Kd.R_lower (Kd.R_new' ho0 (Kd.R_lt (by (with_reducible repeat (first | apply Kd.R_alloc | apply Kd.R_drewN | apply Kd.R_drew)); exact HO140.out))) (below_size (by repeat (first | (with_reducible first | exact HB.out | apply below_alloc | apply pw_below_drewN | apply below_drew1) | exact HB.out)))); have n4_ := Aside0.mk (below_step (by repeat (first | (with_reducible first | exact HB.out | apply below_alloc | apply pw_below_drewN | apply below_drew1) | exact HB.out)) hb); clear HO133; clear HO137; clear HO140; clear HB; have HO133 := n0_; have HO137 := n1_; have HO140 := n2_; have HO143 := n3_; have HB := n4_; clear n0_ n1_ n2_ n3_ n4_; (try clear hb); (try clear hb2); (try clear hk); (try clear hi); (try clear ho0)))
  go_ret
  exact ⟨by first | rfl | (simp [errW_none, errW_some] <;> rfl) | (simp [*, errW_none, errW_some] <;> rfl), by repeat (first | (with_reducible first | exact HB.out | apply below_alloc | apply pw_below_drewN | apply below_drew1) | exact HB.out)⟩
end
end Go.Proofs.Ytfbbfnadmnejeaa.X
namespace Go.Proofs.Ytfbbfnadmnejeaa.X
open Go.RowKit Go.Proofs.YtfbbfnadmnejeaaW.PrintWords Go.Proofs.YtfbbfnadmnejeaaW.PrintLast Go.Proofs.YtfbbfnadmnejeaaW.PrintMore
attribute [local go_sem] max2_int min2_int max_two min_two max_three min_three max_four min_four
set_option linter.all false
noncomputable section
mutual
def davitref20_May.l0 : Nat → List (S34) → Int → Option (Bool)
 | 0, _, _ => none
 | k + 1, x0, x3 => if x3 < (x0.length : Int) then (if x3 ≥ 64 then (davitref20_May.j1 k x0 x3 true) else (if 0 ≤ x3 then (if ((rd_T34 x0 x3).f0) < 0 then (davitref20_May.j1 k x0 x3 true) else (if ((rd_T34 x0 x3).f0) > 65535 then (davitref20_May.j1 k x0 x3 true) else (if ((rd_T34 x0 x3).f1) < 0 then (davitref20_May.j1 k x0 x3 true) else (davitref20_May.j1 k x0 x3 (decide (((rd_T34 x0 x3).f1) > 65535)))))) else (none))) else (some true)
def davitref20_May.j1 : Nat → List (S34) → Int → Bool → Option (Bool)
 | 0, _, _, _ => none
 | k + 1, x0, x3, x44 => if x44 = true then (some false) else (davitref20_May.l1 k x0 x3 0)
def davitref20_May.l1 : Nat → List (S34) → Int → Int → Option (Bool)
 | 0, _, _, _ => none
 | k + 1, x0, x3, x4 => if x4 < x3 then (if 0 ≤ x4 then (if x4 < (x0.length : Int) then (if 0 ≤ x3 then (if x3 < (x0.length : Int) then (if ((rd_T34 x0 x4).f0) = ((rd_T34 x0 x3).f0) then (some false) else (davitref20_May.l1 k x0 x3 (wrap64 (x4 + 1)))) else (none)) else (none)) else (none)) else (none)) else (davitref20_May.l0 k x0 (wrap64 (x3 + 1)))
end
def davitref20_May.f (k : Nat) (l0 : List (S34)) : Option (Bool) := davitref20_May.l0 k l0 0
theorem davitref20_May.mono_l : ∀ k, (∀ y0 y1, LeO (davitref20_May.l0 k y0 y1) (davitref20_May.l0 (k + 1) y0 y1)) ∧ (∀ y0 y1 y2, LeO (davitref20_May.j1 k y0 y1 y2) (davitref20_May.j1 (k + 1) y0 y1 y2)) ∧ (∀ y0 y1 y2, LeO (davitref20_May.l1 k y0 y1 y2) (davitref20_May.l1 (k + 1) y0 y1 y2))
 | 0 => ⟨fun _ _ r h => by simp [davitref20_May.l0] at h, fun _ _ _ r h => by simp [davitref20_May.j1] at h, fun _ _ _ r h => by simp [davitref20_May.l1] at h⟩
 | k + 1 => by
  obtain ⟨ih0, ih1, ih2⟩ := davitref20_May.mono_l k
  refine ⟨?_, ?_, ?_⟩
  ·intro y0 y1
   unfold davitref20_May.l0
   repeat' first
   | (with_reducible exact ih0 _ _)
   | (with_reducible exact ih1 _ _ _)
   | (with_reducible exact ih2 _ _ _)
   | (with_reducible exact LeO.refl _)
   | (with_reducible exact LeO.none _)
   | (with_reducible refine LeO.ite ?_ ?_)
   | (with_reducible refine LeO.bind ?_ (fun _ => ?_))
   | exact ih0 _ _
   | exact ih1 _ _ _
   | exact ih2 _ _ _
   | exact LeO.none _
   | refine LeO.ite ?_ ?_
   | refine LeO.bind ?_ (fun _ => ?_)
  ·intro y0 y1 y2
   unfold davitref20_May.j1
   repeat' first
   | (with_reducible exact ih0 _ _)
   | (with_reducible exact ih1 _ _ _)
   | (with_reducible exact ih2 _ _ _)
   | (with_reducible exact LeO.refl _)
   | (with_reducible exact LeO.none _)
   | (with_reducible refine LeO.ite ?_ ?_)
   | (with_reducible refine LeO.bind ?_ (fun _ => ?_))
   | exact ih0 _ _
   | exact ih1 _ _ _
   | exact ih2 _ _ _
   | exact LeO.none _
   | refine LeO.ite ?_ ?_
   | refine LeO.bind ?_ (fun _ => ?_)
  ·intro y0 y1 y2
   unfold davitref20_May.l1
   repeat' first
   | (with_reducible exact ih0 _ _)
   | (with_reducible exact ih1 _ _ _)
   | (with_reducible exact ih2 _ _ _)
   | (with_reducible exact LeO.refl _)
   | (with_reducible exact LeO.none _)
   | (with_reducible refine LeO.ite ?_ ?_)
   | (with_reducible refine LeO.bind ?_ (fun _ => ?_))
   | exact ih0 _ _
   | exact ih1 _ _ _
   | exact ih2 _ _ _
   | exact LeO.none _
   | refine LeO.ite ?_ ?_
   | refine LeO.bind ?_ (fun _ => ?_)
theorem davitref20_May.mono : ∀ a0 k, LeO (davitref20_May.f k a0) (davitref20_May.f (k + 1) a0) := by
 intro a0 k
 obtain ⟨ih0, ih1, ih2⟩ := davitref20_May.mono_l k
 unfold davitref20_May.f
 repeat' first
   | (with_reducible exact ih0 _ _)
   | (with_reducible exact ih1 _ _ _)
   | (with_reducible exact ih2 _ _ _)
   | (with_reducible exact LeO.refl _)
   | (with_reducible exact LeO.none _)
   | (with_reducible refine LeO.ite ?_ ?_)
   | (with_reducible refine LeO.bind ?_ (fun _ => ?_))
   | exact ih0 _ _
   | exact ih1 _ _ _
   | exact ih2 _ _ _
   | exact LeO.none _
   | refine LeO.ite ?_ ?_
   | refine LeO.bind ?_ (fun _ => ?_)
set_option maxHeartbeats 8000000 in
set_option maxRecDepth 100000 in
theorem davitref20_May.calls (k : Nat) (A0 : Option Addr) (c0 : Nat) (l0 : List (S34)) (r : Bool) (w : World) (hr0 : Kd.C k34 w A0 l0.length l0) (hc0 : l0.length ≤ c0) (h : davitref20_May.f k l0 = some r) :
  Calls Try.prog 8 #[.slice A0 l0.length c0] w fun e w' => e = .returned (.bool r) ∧ Drawn0 w w' := by
 have HR0 := Aside0.mk hr0
 have HC0 := Aside0.mk hc0
 clear hr0 hc0
 have H : (davitref20_May.l0 k l0 0) = some r := h
 clear h
 have H' := Aside0.mk H
 clear H
 go_enter Try.func8, Try.ntmps8
 go_wp2
 repeat (go_quiet (fail); try go_wp2)
 go_loopg [3] k (fun kq v3 w' => ∃ (x3_1 : Int), v3 = .int .i64 x3_1 ∧ Aside0 (davitref20_May.l0 kq l0 x3_1 = some r) ∧ Aside0 (kq ≤ k) ∧ Drawn0 w w')
 case atStart => exact ⟨(0), (by first | rfl | (simp; done) | (simp [*]; done)), H', ⟨Nat.le_refl _⟩, by repeat (first | exact Drawn0.refl _ | apply Drawn0.step)⟩
 case round =>
  clear H'
  obtain ⟨x3_1, rfl, HA, HK1, ⟨m1, rfl⟩⟩ := hrel
  cases gk with
  | zero => exact absurd HA.out (by simp [davitref20_May.l0])
  | succ k1 =>
   have H := HA.out
   clear HA
   simp only [davitref20_May.l0] at H
   by_cases c2 : x3_1 < (l0.length : Int)
   ·rw [if_pos c2] at H
    have c2b0 : decide (x3_1 < (l0.length : Int)) = true := decide_eq_true c2
    clear c2
    have HC3 := Aside0.mk H
    clear H
    go_upto_region 4 with (fail)
    repeat (go_quiet (fail); go_upto_region 4 with (fail))
    go_cut [44] (fun v44 wc => ∃ (kq : Nat) (x44_2 : Bool), v44 = .bool x44_2 ∧ Aside0 (davitref20_May.j1 kq l0 x3_1 x44_2 = some r) ∧ Aside0 (kq ≤ k1) ∧ Drawn0 w wc)
    case first =>
     have H := HC3.out
     clear HC3
     by_cases c4 : x3_1 ≥ 64
     ·rw [if_pos c4] at H
      have c4b0 : decide (64 ≤ x3_1) = true := decide_eq_true c4
      clear c4
      (first | rw [c4b0] | (simp only [i64_w, i32_w]; rw [c4b0]) | skip)
      have H' := Aside0.mk H
      clear H
      go_wp2
      repeat (go_quiet (fail); try go_wp2)
      go_meet
      case rel => exact ⟨_, (true), (by first | rfl | (simp; done) | (simp [*]; done)), H', ⟨by have := HK1.out; first | omega | exact Nat.le_refl _⟩, by repeat (first | exact Drawn0.refl _ | apply Drawn0.step)⟩
     ·rw [if_neg c4] at H
      have c4b0 : decide (64 ≤ x3_1) = false := decide_eq_false c4
      clear c4
      (first | rw [c4b0] | (simp only [i64_w, i32_w]; rw [c4b0]) | skip)
      by_cases c5 : 0 ≤ x3_1
      ·rw [if_pos c5] at H
       have c5b0 : decide (0 ≤ x3_1) = true := decide_eq_true c5
       clear c5
       by_cases c6 : ((rd_T34 l0 x3_1).f0) < 0
       ·rw [if_pos c6] at H
        have c6b0 : decide (((rd_T34 l0 x3_1).f0) < 0) = true := decide_eq_true c6
        clear c6
        have H' := Aside0.mk H
        clear H
        have p148 : 0 ≤ (x3_1 : Int) := of_decide_eq_true (by first | (with_reducible assumption) | assumption)
        have q148 : x3_1 < (l0.length : Int) := of_decide_eq_true (by first | (with_reducible assumption) | assumption)
        obtain ⟨ad148, e148, hx148_0, hx148_1⟩ := at_T34 HR0.out x3_1 p148 q148
        cases e148
        replace p148 := eq_true p148
        replace q148 := eq_true q148
        go_wp2
        repeat (go_quiet (fail); try go_wp2)
        go_meet
        case rel => exact ⟨_, (true), (by first | rfl | (simp; done) | (simp [*]; done)), H', ⟨by have := HK1.out; first | omega | exact Nat.le_refl _⟩, by repeat (first | exact Drawn0.refl _ | apply Drawn0.step)⟩
       ·rw [if_neg c6] at H
        have c6b0 : decide (((rd_T34 l0 x3_1).f0) < 0) = false := decide_eq_false c6
        clear c6
        by_cases c7 : ((rd_T34 l0 x3_1).f0) > 65535
        ·rw [if_pos c7] at H
         have c7b0 : decide (65535 < ((rd_T34 l0 x3_1).f0)) = true := decide_eq_true c7
         clear c7
         have H' := Aside0.mk H
         clear H
         have p148 : 0 ≤ (x3_1 : Int) := of_decide_eq_true (by first | (with_reducible assumption) | assumption)
         have q148 : x3_1 < (l0.length : Int) := of_decide_eq_true (by first | (with_reducible assumption) | assumption)
         obtain ⟨ad148, e148, hx148_0, hx148_1⟩ := at_T34 HR0.out x3_1 p148 q148
         cases e148
         replace p148 := eq_true p148
         replace q148 := eq_true q148
         have p149 : 0 ≤ (x3_1 : Int) := of_decide_eq_true (by first | (with_reducible assumption) | assumption)
         have q149 : x3_1 < (l0.length : Int) := of_decide_eq_true (by first | (with_reducible assumption) | assumption)
         obtain ⟨ad149, e149, hx149_0, hx149_1⟩ := at_T34 HR0.out x3_1 p149 q149
         obtain rfl : ad148 = ad149 := (by injection e149)
         replace p149 := eq_true p149
         replace q149 := eq_true q149
         go_wp2
         repeat (go_quiet (fail); try go_wp2)
         go_meet
         case rel => exact ⟨_, (true), (by first | rfl | (simp; done) | (simp [*]; done)), H', ⟨by have := HK1.out; first | omega | exact Nat.le_refl _⟩, by repeat (first | exact Drawn0.refl _ | apply Drawn0.step)⟩
        ·rw [if_neg c7] at H
         have c7b0 : decide (65535 < ((rd_T34 l0 x3_1).f0)) = false := decide_eq_false c7
         clear c7
         by_cases c8 : ((rd_T34 l0 x3_1).f1) < 0
         ·rw [if_pos c8] at H
          have c8b0 : decide (((rd_T34 l0 x3_1).f1) < 0) = true := decide_eq_true c8
          clear c8
          have H' := Aside0.mk H
          clear H
          have p148 : 0 ≤ (x3_1 : Int) := of_decide_eq_true (by first | (with_reducible assumption) | assumption)
          have q148 : x3_1 < (l0.length : Int) := of_decide_eq_true (by first | (with_reducible assumption) | assumption)
          obtain ⟨ad148, e148, hx148_0, hx148_1⟩ := at_T34 HR0.out x3_1 p148 q148
          cases e148
          replace p148 := eq_true p148
          replace q148 := eq_true q148
          have p149 : 0 ≤ (x3_1 : Int) := of_decide_eq_true (by first | (with_reducible assumption) | assumption)
          have q149 : x3_1 < (l0.length : Int) := of_decide_eq_true (by first | (with_reducible assumption) | assumption)
          obtain ⟨ad149, e149, hx149_0, hx149_1⟩ := at_T34 HR0.out x3_1 p149 q149
          obtain rfl : ad148 = ad149 := (by injection e149)
          replace p149 := eq_true p149
          replace q149 := eq_true q149
          have p150 : 0 ≤ (x3_1 : Int) := of_decide_eq_true (by first | (with_reducible assumption) | assumption)
          have q150 : x3_1 < (l0.length : Int) := of_decide_eq_true (by first | (with_reducible assumption) | assumption)
          obtain ⟨ad150, e150, hx150_0, hx150_1⟩ := at_T34 HR0.out x3_1 p150 q150
          obtain rfl : ad148 = ad150 := (by injection e150)
          replace p150 := eq_true p150
          replace q150 := eq_true q150
          go_wp2
          repeat (go_quiet (fail); try go_wp2)
          go_meet
          case rel => exact ⟨_, (true), (by first | rfl | (simp; done) | (simp [*]; done)), H', ⟨by have := HK1.out; first | omega | exact Nat.le_refl _⟩, by repeat (first | exact Drawn0.refl _ | apply Drawn0.step)⟩
         ·rw [if_neg c8] at H
          have c8b0 : decide (((rd_T34 l0 x3_1).f1) < 0) = false := decide_eq_false c8
          clear c8
          have H' := Aside0.mk H
          clear H
          have p148 : 0 ≤ (x3_1 : Int) := of_decide_eq_true (by first | (with_reducible assumption) | assumption)
          have q148 : x3_1 < (l0.length : Int) := of_decide_eq_true (by first | (with_reducible assumption) | assumption)
          obtain ⟨ad148, e148, hx148_0, hx148_1⟩ := at_T34 HR0.out x3_1 p148 q148
          cases e148
          replace p148 := eq_true p148
          replace q148 := eq_true q148
          have p149 : 0 ≤ (x3_1 : Int) := of_decide_eq_true (by first | (with_reducible assumption) | assumption)
          have q149 : x3_1 < (l0.length : Int) := of_decide_eq_true (by first | (with_reducible assumption) | assumption)
          obtain ⟨ad149, e149, hx149_0, hx149_1⟩ := at_T34 HR0.out x3_1 p149 q149
          obtain rfl : ad148 = ad149 := (by injection e149)
          replace p149 := eq_true p149
          replace q149 := eq_true q149
          have p150 : 0 ≤ (x3_1 : Int) := of_decide_eq_true (by first | (with_reducible assumption) | assumption)
          have q150 : x3_1 < (l0.length : Int) := of_decide_eq_true (by first | (with_reducible assumption) | assumption)
          obtain ⟨ad150, e150, hx150_0, hx150_1⟩ := at_T34 HR0.out x3_1 p150 q150
          obtain rfl : ad148 = ad150 := (by injection e150)
          replace p150 := eq_true p150
          replace q150 := eq_true q150
          have p151 : 0 ≤ (x3_1 : Int) := of_decide_eq_true (by first | (with_reducible assumption) | assumption)
          have q151 : x3_1 < (l0.length : Int) := of_decide_eq_true (by first | (with_reducible assumption) | assumption)
          obtain ⟨ad151, e151, hx151_0, hx151_1⟩ := at_T34 HR0.out x3_1 p151 q151
          obtain rfl : ad148 = ad151 := (by injection e151)
          replace p151 := eq_true p151
          replace q151 := eq_true q151
          go_wp2
          repeat (go_quiet (fail); try go_wp2)
          go_meet
          case rel => exact ⟨_, (decide (((rd_T34 l0 x3_1).f1) > 65535)), (by first | rfl | (simp; done) | (simp [*]; done)), H', ⟨by have := HK1.out; first | omega | exact Nat.le_refl _⟩, by repeat (first | exact Drawn0.refl _ | apply Drawn0.step)⟩
      ·rw [if_neg c5] at H
       exact absurd H (by simp)
    case rest =>
     clear HC3
     try clear p1
     try clear q1
     try clear hx1
     try clear c2
     try clear c2b0
     try clear p2
     try clear c4
     try clear c4b0
     try clear c5
     try clear c5b0
     try clear c6
     try clear c6b0
     try clear c7
     try clear c7b0
     try clear c8
     try clear c8b0
     try clear hx148_0
     try clear hx148_1
     try clear hx149_0
     try clear hx149_1
     try clear hx150_0
     try clear hx150_1
     try clear hx151_0
     try clear hx151_1
     try clear p148
     try clear p149
     try clear p150
     try clear p151
     try clear q148
     try clear q149
     try clear q150
     try clear q151
     obtain ⟨kq, x44_2, rfl, HA, HJ2, ⟨mc2, rfl⟩⟩ := hcut
     cases kq with
     | zero => exact absurd HA.out (by simp [davitref20_May.j1])
     | succ kj2 =>
      have H := HA.out
      clear HA
      simp only [davitref20_May.j1] at H
      by_cases c9 : x44_2 = true
      ·subst c9
       have H1 : (some false) = some r := by rw [if_pos rfl] at H; exact H
       clear H
       have H := H1
       clear H1
       obtain rfl := Option.some.inj H
       go_wp2
       repeat (go_quiet (fail); try go_wp2)
       go_ret
       exact ⟨by first | rfl | (simp; done) | (simp [*]; done), by repeat (first | exact Drawn0.refl _ | apply Drawn0.step)⟩
      ·replace c9 := Bool.eq_false_iff.mpr c9
       subst c9
       have H1 : (davitref20_May.l1 kj2 l0 x3_1 0) = some r := by rw [if_neg (show ¬ (false = true) by decide)] at H; exact H
       clear H
       have H := H1
       clear H1
       have H' := Aside0.mk H
       clear H
       go_wp2
       repeat (go_quiet (fail); try go_wp2)
       go_loopg [4] kj2 (fun kq v4 w' => ∃ (x4_3 : Int), v4 = .int .i64 x4_3 ∧ Aside0 (davitref20_May.l1 kq l0 x3_1 x4_3 = some r) ∧ Aside0 (kq ≤ kj2) ∧ Drawn0 w w')
       case atStart => exact ⟨(0), (by first | rfl | (simp; done) | (simp [*]; done)), H', ⟨Nat.le_refl _⟩, by repeat (first | exact Drawn0.refl _ | apply Drawn0.step)⟩
       case round =>
        clear H'
        try clear p1
        try clear q1
        try clear hx1
        try clear c2
        try clear c2b0
        try clear p2
        try clear c4
        try clear c4b0
        try clear c5
        try clear c5b0
        try clear c6
        try clear c6b0
        try clear c7
        try clear c7b0
        try clear c8
        try clear c8b0
        try clear c9
        try clear hx148_0
        try clear hx148_1
        try clear hx149_0
        try clear hx149_1
        try clear hx150_0
        try clear hx150_1
        try clear hx151_0
        try clear hx151_1
        try clear p1
        try clear p148
        try clear p149
        try clear p150
        try clear p151
        try clear p2
        try clear q1
        try clear q148
        try clear q149
        try clear q150
        try clear q151
        obtain ⟨x4_3, rfl, HA, HK3, ⟨m3, rfl⟩⟩ := hrel
        cases gk with
        | zero => exact absurd HA.out (by simp [davitref20_May.l1])
        | succ k3 =>
         have H := HA.out
         clear HA
         simp only [davitref20_May.l1] at H
         by_cases c10 : x4_3 < x3_1
         ·rw [if_pos c10] at H
          have c10b0 : decide (x4_3 < x3_1) = true := decide_eq_true c10
          clear c10
          by_cases c11 : 0 ≤ x4_3
          ·rw [if_pos c11] at H
           have c11b0 : decide (0 ≤ x4_3) = true := decide_eq_true c11
           clear c11
           by_cases c12 : x4_3 < (l0.length : Int)
           ·rw [if_pos c12] at H
            have c12b0 : decide (x4_3 < (l0.length : Int)) = true := decide_eq_true c12
            clear c12
            by_cases c13 : 0 ≤ x3_1
            ·rw [if_pos c13] at H
             have c13b0 : decide (0 ≤ x3_1) = true := decide_eq_true c13
             clear c13
             by_cases c14 : x3_1 < (l0.length : Int)
             ·rw [if_pos c14] at H
              have c14b0 : decide (x3_1 < (l0.length : Int)) = true := decide_eq_true c14
              clear c14
              by_cases c15 : ((rd_T34 l0 x4_3).f0) = ((rd_T34 l0 x3_1).f0)
              ·rw [if_pos c15] at H
               have c15b0 : (((rd_T34 l0 x4_3).f0) == ((rd_T34 l0 x3_1).f0)) = true := beq_iff_eq.mpr c15
               have c15b1 : (((rd_T34 l0 x4_3).f0) != ((rd_T34 l0 x3_1).f0)) = false := bne_eq_false_iff_eq.mpr c15
               clear c15
               obtain rfl := Option.some.inj H
               have p152 : 0 ≤ (x4_3 : Int) := of_decide_eq_true (by first | (with_reducible assumption) | assumption)
               have q152 : x4_3 < (l0.length : Int) := of_decide_eq_true (by first | (with_reducible assumption) | assumption)
               obtain ⟨ad152, e152, hx152_0, hx152_1⟩ := at_T34 HR0.out x4_3 p152 q152
               cases e152
               replace p152 := eq_true p152
               replace q152 := eq_true q152
               have p153 : 0 ≤ (x3_1 : Int) := of_decide_eq_true (by first | (with_reducible assumption) | assumption)
               have q153 : x3_1 < (l0.length : Int) := of_decide_eq_true (by first | (with_reducible assumption) | assumption)
               obtain ⟨ad153, e153, hx153_0, hx153_1⟩ := at_T34 HR0.out x3_1 p153 q153
               obtain rfl : ad152 = ad153 := (by injection e153)
               replace p153 := eq_true p153
               replace q153 := eq_true q153
               go_wp2
               repeat (go_quiet (fail); try go_wp2)
               go_ret
               exact ⟨by first | rfl | (simp; done) | (simp [*]; done), by repeat (first | exact Drawn0.refl _ | apply Drawn0.step)⟩
              ·rw [if_neg c15] at H
               have c15b0 : (((rd_T34 l0 x4_3).f0) == ((rd_T34 l0 x3_1).f0)) = false := beq_eq_false_iff_ne.mpr c15
               have c15b1 : (((rd_T34 l0 x4_3).f0) != ((rd_T34 l0 x3_1).f0)) = true := bne_iff_ne.mpr c15
               have H' := Aside0.mk H
               clear H
               have p152 : 0 ≤ (x4_3 : Int) := of_decide_eq_true (by first | (with_reducible assumption) | assumption)
               have q152 : x4_3 < (l0.length : Int) := of_decide_eq_true (by first | (with_reducible assumption) | assumption)
               obtain ⟨ad152, e152, hx152_0, hx152_1⟩ := at_T34 HR0.out x4_3 p152 q152
               cases e152
               replace p152 := eq_true p152
               replace q152 := eq_true q152
               have p153 : 0 ≤ (x3_1 : Int) := of_decide_eq_true (by first | (with_reducible assumption) | assumption)
               have q153 : x3_1 < (l0.length : Int) := of_decide_eq_true (by first | (with_reducible assumption) | assumption)
               obtain ⟨ad153, e153, hx153_0, hx153_1⟩ := at_T34 HR0.out x3_1 p153 q153
               obtain rfl : ad152 = ad153 := (by injection e153)
               replace p153 := eq_true p153
               replace q153 := eq_true q153
               go_wp2
               repeat (go_quiet (fail); try go_wp2)
               go_roundg k3
               case measure => have := HK1.out; have := HJ2.out; have := HK3.out; omega
               case rel => exact ⟨(wrap64 (x4_3 + 1)), (by first | rfl | (simp; done) | (simp [*]; done)), H', ⟨by have := HK1.out; have := HJ2.out; have := HK3.out; omega⟩, by repeat (first | exact Drawn0.refl _ | apply Drawn0.step)⟩
             ·rw [if_neg c14] at H
              exact absurd H (by simp)
            ·rw [if_neg c13] at H
             exact absurd H (by simp)
           ·rw [if_neg c12] at H
            exact absurd H (by simp)
          ·rw [if_neg c11] at H
           exact absurd H (by simp)
         ·rw [if_neg c10] at H
          have c10b0 : decide (x4_3 < x3_1) = false := decide_eq_false c10
          clear c10
          have H' := Aside0.mk H
          clear H
          go_wp2
          repeat (go_quiet (fail); try go_wp2)
          go_roundg k3
          case measure => have := HK1.out; have := HJ2.out; have := HK3.out; omega
          case rel => exact ⟨(wrap64 (x3_1 + 1)), (by first | rfl | (simp; done) | (simp [*]; done)), H', ⟨by have := HK1.out; have := HJ2.out; have := HK3.out; omega⟩, by repeat (first | exact Drawn0.refl _ | apply Drawn0.step)⟩
   ·rw [if_neg c2] at H
    have c2b0 : decide (x3_1 < (l0.length : Int)) = false := decide_eq_false c2
    clear c2
    obtain rfl := Option.some.inj H
    go_wp2
    repeat (go_quiet (fail); try go_wp2)
    go_ret
    exact ⟨by first | rfl | (simp; done) | (simp [*]; done), by repeat (first | exact Drawn0.refl _ | apply Drawn0.step)⟩
end
end Go.Proofs.Ytfbbfnadmnejeaa.X
namespace Go.Proofs.Ytfbbfnadmnejeaa.X
open Go.RowKit Go.Proofs.YtfbbfnadmnejeaaW.PrintWords Go.Proofs.YtfbbfnadmnejeaaW.PrintLast Go.Proofs.YtfbbfnadmnejeaaW.PrintMore
attribute [local go_sem] max2_int min2_int max_two min_two max_three min_three max_four min_four
set_option linter.all false
noncomputable section
def davitref20_from.l0 : Nat → List (S34) → Int → Int → Option (Int)
 | 0, _, _, _ => none
 | k + 1, x0, x1, x5 => if x5 < (x0.length : Int) then (if 0 ≤ x5 then (if ((rd_T34 x0 x5).f0) = x1 then (some ((rd_T34 x0 x5).f1)) else (davitref20_from.l0 k x0 x1 (wrap64 (x5 + 1)))) else (none)) else (some (-1))
def davitref20_from.f (k : Nat) (l0 : List (S34)) (a1 : Int) : Option (Int) := davitref20_from.l0 k l0 a1 0
theorem davitref20_from.mono_l : ∀ k, (∀ y0 y1 y2, LeO (davitref20_from.l0 k y0 y1 y2) (davitref20_from.l0 (k + 1) y0 y1 y2))
 | 0 => fun _ _ _ r h => by simp [davitref20_from.l0] at h
 | k + 1 => by
  have ih0 := davitref20_from.mono_l k
  ·intro y0 y1 y2
   unfold davitref20_from.l0
   repeat' first
   | (with_reducible exact ih0 _ _ _)
   | (with_reducible exact LeO.refl _)
   | (with_reducible exact LeO.none _)
   | (with_reducible refine LeO.ite ?_ ?_)
   | (with_reducible refine LeO.bind ?_ (fun _ => ?_))
   | exact ih0 _ _ _
   | exact LeO.none _
   | refine LeO.ite ?_ ?_
   | refine LeO.bind ?_ (fun _ => ?_)
theorem davitref20_from.mono : ∀ a0 a1 k, LeO (davitref20_from.f k a0 a1) (davitref20_from.f (k + 1) a0 a1) := by
 intro a0 a1 k
 have ih0 := davitref20_from.mono_l k
 unfold davitref20_from.f
 repeat' first
   | (with_reducible exact ih0 _ _ _)
   | (with_reducible exact LeO.refl _)
   | (with_reducible exact LeO.none _)
   | (with_reducible refine LeO.ite ?_ ?_)
   | (with_reducible refine LeO.bind ?_ (fun _ => ?_))
   | exact ih0 _ _ _
   | exact LeO.none _
   | refine LeO.ite ?_ ?_
   | refine LeO.bind ?_ (fun _ => ?_)
set_option maxHeartbeats 8000000 in
set_option maxRecDepth 100000 in
theorem davitref20_from.calls (k : Nat) (A0 : Option Addr) (c0 : Nat) (l0 : List (S34)) (a1 : Int) (r : Int) (w : World) (hr0 : Kd.C k34 w A0 l0.length l0) (hc0 : l0.length ≤ c0) (h : davitref20_from.f k l0 a1 = some r) :
  Calls Try.prog 19 #[.slice A0 l0.length c0, .int .i64 a1] w fun e w' => e = .returned (.int .i64 r) ∧ Drawn0 w w' := by
 have HR0 := Aside0.mk hr0
 have HC0 := Aside0.mk hc0
 clear hr0 hc0
 have H : (davitref20_from.l0 k l0 a1 0) = some r := h
 clear h
 have H' := Aside0.mk H
 clear H
 go_enter Try.func19, Try.ntmps19
 go_wp2
 go_loopg [5] k (fun kq v5 w' => ∃ (x5_1 : Int), v5 = .int .i64 x5_1 ∧ Aside0 (davitref20_from.l0 kq l0 a1 x5_1 = some r) ∧ Aside0 (kq ≤ k) ∧ Drawn0 w w')
 case atStart => exact ⟨(0), (by first | rfl | (simp; done) | (simp [*]; done)), H', ⟨Nat.le_refl _⟩, by repeat (first | exact Drawn0.refl _ | apply Drawn0.step)⟩
 case round =>
  clear H'
  try clear c1
  try clear p2
  obtain ⟨x5_1, rfl, HA, HK1, ⟨m1, rfl⟩⟩ := hrel
  cases gk with
  | zero => exact absurd HA.out (by simp [davitref20_from.l0])
  | succ k1 =>
   have H := HA.out
   clear HA
   simp only [davitref20_from.l0] at H
   by_cases c3 : x5_1 < (l0.length : Int)
   ·rw [if_pos c3] at H
    have c3b0 : decide (x5_1 < (l0.length : Int)) = true := decide_eq_true c3
    clear c3
    by_cases c4 : 0 ≤ x5_1
    ·rw [if_pos c4] at H
     have c4b0 : decide (0 ≤ x5_1) = true := decide_eq_true c4
     clear c4
     by_cases c5 : ((rd_T34 l0 x5_1).f0) = a1
     ·rw [if_pos c5] at H
      have c5b0 : (((rd_T34 l0 x5_1).f0) == a1) = true := beq_iff_eq.mpr c5
      have c5b1 : (((rd_T34 l0 x5_1).f0) != a1) = false := bne_eq_false_iff_eq.mpr c5
      clear c5
      obtain rfl := Option.some.inj H
      have p154 : 0 ≤ (x5_1 : Int) := of_decide_eq_true (by first | (with_reducible assumption) | assumption)
      have q154 : x5_1 < (l0.length : Int) := of_decide_eq_true (by first | (with_reducible assumption) | assumption)
      obtain ⟨ad154, e154, hx154_0, hx154_1⟩ := at_T34 HR0.out x5_1 p154 q154
      cases e154
      replace p154 := eq_true p154
      replace q154 := eq_true q154
      have p155 : 0 ≤ (x5_1 : Int) := of_decide_eq_true (by first | (with_reducible assumption) | assumption)
      have q155 : x5_1 < (l0.length : Int) := of_decide_eq_true (by first | (with_reducible assumption) | assumption)
      obtain ⟨ad155, e155, hx155_0, hx155_1⟩ := at_T34 HR0.out x5_1 p155 q155
      obtain rfl : ad154 = ad155 := (by injection e155)
      replace p155 := eq_true p155
      replace q155 := eq_true q155
      go_wp2
      go_ret
      exact ⟨by first | rfl | (simp; done) | (simp [*]; done), by repeat (first | exact Drawn0.refl _ | apply Drawn0.step)⟩
     ·rw [if_neg c5] at H
      have c5b0 : (((rd_T34 l0 x5_1).f0) == a1) = false := beq_eq_false_iff_ne.mpr c5
      have c5b1 : (((rd_T34 l0 x5_1).f0) != a1) = true := bne_iff_ne.mpr c5
      have H' := Aside0.mk H
      clear H
      have p154 : 0 ≤ (x5_1 : Int) := of_decide_eq_true (by first | (with_reducible assumption) | assumption)
      have q154 : x5_1 < (l0.length : Int) := of_decide_eq_true (by first | (with_reducible assumption) | assumption)
      obtain ⟨ad154, e154, hx154_0, hx154_1⟩ := at_T34 HR0.out x5_1 p154 q154
      cases e154
      replace p154 := eq_true p154
      replace q154 := eq_true q154
      go_wp2
      go_roundg k1
      case measure => have := HK1.out; omega
      case rel => exact ⟨(wrap64 (x5_1 + 1)), (by first | rfl | (simp; done) | (simp [*]; done)), H', ⟨by have := HK1.out; omega⟩, by repeat (first | exact Drawn0.refl _ | apply Drawn0.step)⟩
    ·rw [if_neg c4] at H
     exact absurd H (by simp)
   ·rw [if_neg c3] at H
    have c3b0 : decide (x5_1 < (l0.length : Int)) = false := decide_eq_false c3
    clear c3
    obtain rfl := Option.some.inj H
    go_wp2
    go_ret
    exact ⟨by first | rfl | (simp; done) | (simp [*]; done), by repeat (first | exact Drawn0.refl _ | apply Drawn0.step)⟩
end
end Go.Proofs.Ytfbbfnadmnejeaa.X
namespace Go.Proofs.Ytfbbfnadmnejeaa.X
open Go.RowKit Go.Proofs.YtfbbfnadmnejeaaW.PrintWords Go.Proofs.YtfbbfnadmnejeaaW.PrintLast Go.Proofs.YtfbbfnadmnejeaaW.PrintMore
attribute [local go_sem] max2_int min2_int max_two min_two max_three min_three max_four min_four
set_option linter.all false
noncomputable section
mutual
def davitref20_Rings.l0 : Nat → List (S34) → Int → Int → Option (Int)
 | 0, _, _, _ => none
 | k + 1, x0, x3, x4 => if x4 < (x0.length : Int) then (if 0 ≤ x4 then (davitref20_Rings.l1 k x0 x3 x4 ((rd_T34 x0 x4).f1) true 0) else (none)) else (some x3)
def davitref20_Rings.l1 : Nat → List (S34) → Int → Int → Int → Bool → Int → Option (Int)
 | 0, _, _, _, _, _, _ => none
 | k + 1, x0, x3, x4, x5, x6, x7 => if x7 < (x0.length : Int) then (if x5 ≥ 0 then (if 0 ≤ x4 then (if x4 < (x0.length : Int) then (if x5 = ((rd_T34 x0 x4).f0) then (if ((rd_T34 x0 x4).f1) = ((rd_T34 x0 x4).f0) then (davitref20_Rings.l0 k x0 x3 (wrap64 (x4 + 1))) else (if x6 = true then (davitref20_Rings.l0 k x0 (wrap64 (x3 + 1)) (wrap64 (x4 + 1))) else (davitref20_Rings.l0 k x0 x3 (wrap64 (x4 + 1))))) else (if x6 = true then ((davitref20_from.f k x0 x5).bind fun t163 => (davitref20_Rings.l1 k x0 x3 x4 t163 (decide (x5 > ((rd_T34 x0 x4).f0))) (wrap64 (x7 + 1)))) else ((davitref20_from.f k x0 x5).bind fun t164 => (davitref20_Rings.l1 k x0 x3 x4 t164 false (wrap64 (x7 + 1)))))) else (none)) else (none)) else (if 0 ≤ x4 then (if x4 < (x0.length : Int) then (if x5 = ((rd_T34 x0 x4).f0) then (if ((rd_T34 x0 x4).f1) = ((rd_T34 x0 x4).f0) then (davitref20_Rings.l0 k x0 x3 (wrap64 (x4 + 1))) else (if x6 = true then (davitref20_Rings.l0 k x0 (wrap64 (x3 + 1)) (wrap64 (x4 + 1))) else (davitref20_Rings.l0 k x0 x3 (wrap64 (x4 + 1))))) else (davitref20_Rings.l0 k x0 x3 (wrap64 (x4 + 1)))) else (none)) else (none))) else (if 0 ≤ x4 then (if x4 < (x0.length : Int) then (if x5 = ((rd_T34 x0 x4).f0) then (if ((rd_T34 x0 x4).f1) = ((rd_T34 x0 x4).f0) then (davitref20_Rings.l0 k x0 x3 (wrap64 (x4 + 1))) else (if x6 = true then (davitref20_Rings.l0 k x0 (wrap64 (x3 + 1)) (wrap64 (x4 + 1))) else (davitref20_Rings.l0 k x0 x3 (wrap64 (x4 + 1))))) else (davitref20_Rings.l0 k x0 x3 (wrap64 (x4 + 1)))) else (none)) else (none))
end
def davitref20_Rings.f (k : Nat) (l0 : List (S34)) : Option (Int) := (davitref20_May.f k l0).bind fun t156 => (if t156 = true then (davitref20_Rings.l0 k l0 0 0) else (some 0))
theorem davitref20_Rings.mono_l : ∀ k, (∀ y0 y1 y2, LeO (davitref20_Rings.l0 k y0 y1 y2) (davitref20_Rings.l0 (k + 1) y0 y1 y2)) ∧ (∀ y0 y1 y2 y3 y4 y5, LeO (davitref20_Rings.l1 k y0 y1 y2 y3 y4 y5) (davitref20_Rings.l1 (k + 1) y0 y1 y2 y3 y4 y5))
 | 0 => ⟨fun _ _ _ r h => by simp [davitref20_Rings.l0] at h, fun _ _ _ _ _ _ r h => by simp [davitref20_Rings.l1] at h⟩
 | k + 1 => by
  obtain ⟨ih0, ih1⟩ := davitref20_Rings.mono_l k
  refine ⟨?_, ?_⟩
  ·intro y0 y1 y2
   unfold davitref20_Rings.l0
   repeat' first
   | (with_reducible exact ih0 _ _ _)
   | (with_reducible exact ih1 _ _ _ _ _ _)
   | (with_reducible exact davitref20_May.mono _ _)
   | (with_reducible exact davitref20_from.mono _ _ _)
   | (with_reducible exact LeO.refl _)
   | (with_reducible exact LeO.none _)
   | (with_reducible refine LeO.ite ?_ ?_)
   | (with_reducible refine LeO.bind ?_ (fun _ => ?_))
   | exact ih0 _ _ _
   | exact ih1 _ _ _ _ _ _
   | exact davitref20_May.mono _ _
   | exact davitref20_from.mono _ _ _
   | exact LeO.none _
   | refine LeO.ite ?_ ?_
   | refine LeO.bind ?_ (fun _ => ?_)
  ·intro y0 y1 y2 y3 y4 y5
   unfold davitref20_Rings.l1
   repeat' first
   | (with_reducible exact ih0 _ _ _)
   | (with_reducible exact ih1 _ _ _ _ _ _)
   | (with_reducible exact davitref20_May.mono _ _)
   | (with_reducible exact davitref20_from.mono _ _ _)
   | (with_reducible exact LeO.refl _)
   | (with_reducible exact LeO.none _)
   | (with_reducible refine LeO.ite ?_ ?_)
   | (with_reducible refine LeO.bind ?_ (fun _ => ?_))
   | exact ih0 _ _ _
   | exact ih1 _ _ _ _ _ _
   | exact davitref20_May.mono _ _
   | exact davitref20_from.mono _ _ _
   | exact LeO.none _
   | refine LeO.ite ?_ ?_
   | refine LeO.bind ?_ (fun _ => ?_)
theorem davitref20_Rings.mono : ∀ a0 k, LeO (davitref20_Rings.f k a0) (davitref20_Rings.f (k + 1) a0) := by
 intro a0 k
 obtain ⟨ih0, ih1⟩ := davitref20_Rings.mono_l k
 unfold davitref20_Rings.f
 repeat' first
   | (with_reducible exact ih0 _ _ _)
   | (with_reducible exact ih1 _ _ _ _ _ _)
   | (with_reducible exact davitref20_May.mono _ _)
   | (with_reducible exact davitref20_from.mono _ _ _)
   | (with_reducible exact LeO.refl _)
   | (with_reducible exact LeO.none _)
   | (with_reducible refine LeO.ite ?_ ?_)
   | (with_reducible refine LeO.bind ?_ (fun _ => ?_))
   | exact ih0 _ _ _
   | exact ih1 _ _ _ _ _ _
   | exact davitref20_May.mono _ _
   | exact davitref20_from.mono _ _ _
   | exact LeO.none _
   | refine LeO.ite ?_ ?_
   | refine LeO.bind ?_ (fun _ => ?_)
set_option maxHeartbeats 8000000 in
set_option maxRecDepth 100000 in
theorem davitref20_Rings.calls (k : Nat) (A0 : Option Addr) (c0 : Nat) (l0 : List (S34)) (r : Int) (w : World) (hr0 : Kd.C k34 w A0 l0.length l0) (hc0 : l0.length ≤ c0) (h : davitref20_Rings.f k l0 = some r) :
  Calls Try.prog 10 #[.slice A0 l0.length c0] w fun e w' => e = .returned (.int .i64 r) ∧ Drawn0 w w' := by
 have HR0 := Aside0.mk hr0
 have HC0 := Aside0.mk hc0
 clear hr0 hc0
 have H : ((davitref20_May.f k l0).bind fun t156 => (if t156 = true then (davitref20_Rings.l0 k l0 0 0) else (some 0))) = some r := h
 clear h
 replace H := Option.bind_eq_some_iff.mp H
 obtain ⟨t156, A20, H⟩ := H
 replace H : (if t156 = true then (davitref20_Rings.l0 k l0 0 0) else (some 0)) = some r := H
 have A2 := Aside0.mk A20
 clear A20
 by_cases c3 : t156 = true
 ·subst c3
  have H1 : (davitref20_Rings.l0 k l0 0 0) = some r := by rw [if_pos rfl] at H; exact H
  clear H
  have H := H1
  clear H1
  have H' := Aside0.mk H
  clear H
  go_enter Try.func10, Try.ntmps10
  go_wp2_with (first | (go_at_call 8; (with_reducible refine (davitref20_May.calls k _ _ l0 true _ ?side1 ?side2 A2.out).mono ?_); (case side1 => repeat (first | exact HR0.out | (with_reducible refine Kd.C_alloc ?_ _) | (with_reducible refine Kd.C_drewN ?_ _) | (with_reducible refine Kd.C_drew ?_))); (case side2 => exact HC0.out); rintro e w' ⟨rfl, ⟨nd, rfl⟩⟩; (try first | exact ⟨rfl, _, World.drewN_drewN _ _ _⟩ | exact ⟨rfl, _, Eq.trans (World.drewN_drewN _ _ _) (congrArg (World.drewN _) (Nat.add_assoc _ _ _))⟩)))
  repeat (go_quiet (first | (go_at_call 8; (with_reducible refine (davitref20_May.calls k _ _ l0 true _ ?side1 ?side2 A2.out).mono ?_); (case side1 => repeat (first | exact HR0.out | (with_reducible refine Kd.C_alloc ?_ _) | (with_reducible refine Kd.C_drewN ?_ _) | (with_reducible refine Kd.C_drew ?_))); (case side2 => exact HC0.out); rintro e w' ⟨rfl, ⟨nd, rfl⟩⟩; (try first | exact ⟨rfl, _, World.drewN_drewN _ _ _⟩ | exact ⟨rfl, _, Eq.trans (World.drewN_drewN _ _ _) (congrArg (World.drewN _) (Nat.add_assoc _ _ _))⟩))); try go_wp2_with (first | (go_at_call 8; (with_reducible refine (davitref20_May.calls k _ _ l0 true _ ?side1 ?side2 A2.out).mono ?_); (case side1 => repeat (first | exact HR0.out | (with_reducible refine Kd.C_alloc ?_ _) | (with_reducible refine Kd.C_drewN ?_ _) | (with_reducible refine Kd.C_drew ?_))); (case side2 => exact HC0.out); rintro e w' ⟨rfl, ⟨nd, rfl⟩⟩; (try first | exact ⟨rfl, _, World.drewN_drewN _ _ _⟩ | exact ⟨rfl, _, Eq.trans (World.drewN_drewN _ _ _) (congrArg (World.drewN _) (Nat.add_assoc _ _ _))⟩))))
  go_loopg [3, 4] k (fun kq v3 v4 w' => ∃ (x3_1 : Int) (x4_1 : Int), v3 = .int .i64 x3_1 ∧ v4 = .int .i64 x4_1 ∧ Aside0 (davitref20_Rings.l0 kq l0 x3_1 x4_1 = some r) ∧ Aside0 (kq ≤ k) ∧ Drawn0 w w')
  case atStart => exact ⟨(0), (0), (by first | rfl | (simp; done) | (simp [*]; done)), (by first | rfl | (simp; done) | (simp [*]; done)), H', ⟨Nat.le_refl _⟩, by repeat (first | exact Drawn0.refl _ | apply Drawn0.step)⟩
  case round =>
   clear H'
   try clear c1
   try clear p2
   try clear c3
   obtain ⟨x3_1, x4_1, rfl, rfl, HA, HK1, ⟨m1, rfl⟩⟩ := hrel
   cases gk with
   | zero => exact absurd HA.out (by simp [davitref20_Rings.l0])
   | succ k1 =>
    have H := HA.out
    clear HA
    simp only [davitref20_Rings.l0] at H
    by_cases c4 : x4_1 < (l0.length : Int)
    ·rw [if_pos c4] at H
     have c4b0 : decide (x4_1 < (l0.length : Int)) = true := decide_eq_true c4
     clear c4
     by_cases c5 : 0 ≤ x4_1
     ·rw [if_pos c5] at H
      have c5b0 : decide (0 ≤ x4_1) = true := decide_eq_true c5
      clear c5
      have H' := Aside0.mk H
      clear H
      have p157 : 0 ≤ (x4_1 : Int) := of_decide_eq_true (by first | (with_reducible assumption) | assumption)
      have q157 : x4_1 < (l0.length : Int) := of_decide_eq_true (by first | (with_reducible assumption) | assumption)
      obtain ⟨ad157, e157, hx157_0, hx157_1⟩ := at_T34 HR0.out x4_1 p157 q157
      cases e157
      replace p157 := eq_true p157
      replace q157 := eq_true q157
      go_wp2
      repeat (go_quiet (fail); try go_wp2)
      go_loopg [5, 6, 7] k1 (fun kq v5 v6 v7 w' => ∃ (x5_2 : Int) (x6_2 : Bool) (x7_2 : Int), v5 = .int .i64 x5_2 ∧ v6 = .bool x6_2 ∧ v7 = .int .i64 x7_2 ∧ Aside0 (davitref20_Rings.l1 kq l0 x3_1 x4_1 x5_2 x6_2 x7_2 = some r) ∧ Aside0 (kq ≤ k1) ∧ Drawn0 w w')
      case atStart => exact ⟨((rd_T34 l0 x4_1).f1), (true), (0), (by first | rfl | (simp; done) | (simp [*]; done)), (by first | rfl | (simp; done) | (simp [*]; done)), (by first | rfl | (simp; done) | (simp [*]; done)), H', ⟨Nat.le_refl _⟩, by repeat (first | exact Drawn0.refl _ | apply Drawn0.step)⟩
      case round =>
       clear H'
       try clear c1
       try clear p1
       try clear q1
       try clear hx1
       try clear p2
       try clear c3
       try clear c4
       try clear c4b0
       try clear c5
       try clear c5b0
       try clear hx157_0
       try clear hx157_1
       try clear p157
       try clear p2
       try clear q157
       obtain ⟨x5_2, x6_2, x7_2, rfl, rfl, rfl, HA, HK2, ⟨m2, rfl⟩⟩ := hrel
       cases gk with
       | zero => exact absurd HA.out (by simp [davitref20_Rings.l1])
       | succ k2 =>
        have H := HA.out
        clear HA
        simp only [davitref20_Rings.l1] at H
        by_cases c6 : x7_2 < (l0.length : Int)
        ·rw [if_pos c6] at H
         have c6b0 : decide (x7_2 < (l0.length : Int)) = true := decide_eq_true c6
         clear c6
         by_cases c7 : x5_2 ≥ 0
         ·rw [if_pos c7] at H
          have c7b0 : decide (0 ≤ x5_2) = true := decide_eq_true c7
          clear c7
          by_cases c8 : 0 ≤ x4_1
          ·rw [if_pos c8] at H
           have c8b0 : decide (0 ≤ x4_1) = true := decide_eq_true c8
           clear c8
           by_cases c9 : x4_1 < (l0.length : Int)
           ·rw [if_pos c9] at H
            have c9b0 : decide (x4_1 < (l0.length : Int)) = true := decide_eq_true c9
            clear c9
            by_cases c10 : x5_2 = ((rd_T34 l0 x4_1).f0)
            ·rw [if_pos c10] at H
             have c10b0 : (x5_2 == ((rd_T34 l0 x4_1).f0)) = true := beq_iff_eq.mpr c10
             have c10b1 : (x5_2 != ((rd_T34 l0 x4_1).f0)) = false := bne_eq_false_iff_eq.mpr c10
             clear c10
             by_cases c11 : ((rd_T34 l0 x4_1).f1) = ((rd_T34 l0 x4_1).f0)
             ·rw [if_pos c11] at H
              have c11b0 : (((rd_T34 l0 x4_1).f1) == ((rd_T34 l0 x4_1).f0)) = true := beq_iff_eq.mpr c11
              have c11b1 : (((rd_T34 l0 x4_1).f1) != ((rd_T34 l0 x4_1).f0)) = false := bne_eq_false_iff_eq.mpr c11
              clear c11
              have H' := Aside0.mk H
              clear H
              have p158 : 0 ≤ (x4_1 : Int) := of_decide_eq_true (by first | (with_reducible assumption) | assumption)
              have q158 : x4_1 < (l0.length : Int) := of_decide_eq_true (by first | (with_reducible assumption) | assumption)
              obtain ⟨ad158, e158, hx158_0, hx158_1⟩ := at_T34 HR0.out x4_1 p158 q158
              obtain rfl : ad157 = ad158 := (by injection e158)
              replace p158 := eq_true p158
              replace q158 := eq_true q158
              have p159 : 0 ≤ (x4_1 : Int) := of_decide_eq_true (by first | (with_reducible assumption) | assumption)
              have q159 : x4_1 < (l0.length : Int) := of_decide_eq_true (by first | (with_reducible assumption) | assumption)
              obtain ⟨ad159, e159, hx159_0, hx159_1⟩ := at_T34 HR0.out x4_1 p159 q159
              obtain rfl : ad157 = ad159 := (by injection e159)
              replace p159 := eq_true p159
              replace q159 := eq_true q159
              have p160 : 0 ≤ (x4_1 : Int) := of_decide_eq_true (by first | (with_reducible assumption) | assumption)
              have q160 : x4_1 < (l0.length : Int) := of_decide_eq_true (by first | (with_reducible assumption) | assumption)
              obtain ⟨ad160, e160, hx160_0, hx160_1⟩ := at_T34 HR0.out x4_1 p160 q160
              obtain rfl : ad157 = ad160 := (by injection e160)
              replace p160 := eq_true p160
              replace q160 := eq_true q160
              have p161 : 0 ≤ (x4_1 : Int) := of_decide_eq_true (by first | (with_reducible assumption) | assumption)
              have q161 : x4_1 < (l0.length : Int) := of_decide_eq_true (by first | (with_reducible assumption) | assumption)
              obtain ⟨ad161, e161, hx161_0, hx161_1⟩ := at_T34 HR0.out x4_1 p161 q161
              obtain rfl : ad157 = ad161 := (by injection e161)
              replace p161 := eq_true p161
              replace q161 := eq_true q161
              go_wp2
              repeat (go_quiet (fail); try go_wp2)
              go_roundg k2
              case measure => have := HK1.out; have := HK2.out; omega
              case rel => exact ⟨(x3_1), (wrap64 (x4_1 + 1)), (by first | rfl | (simp; done) | (simp [*]; done)), (by first | rfl | (simp; done) | (simp [*]; done)), H', ⟨by have := HK1.out; have := HK2.out; omega⟩, by repeat (first | exact Drawn0.refl _ | apply Drawn0.step)⟩
             ·rw [if_neg c11] at H
              have c11b0 : (((rd_T34 l0 x4_1).f1) == ((rd_T34 l0 x4_1).f0)) = false := beq_eq_false_iff_ne.mpr c11
              have c11b1 : (((rd_T34 l0 x4_1).f1) != ((rd_T34 l0 x4_1).f0)) = true := bne_iff_ne.mpr c11
              by_cases c12 : x6_2 = true
              ·subst c12
               have H1 : (davitref20_Rings.l0 k2 l0 (wrap64 (x3_1 + 1)) (wrap64 (x4_1 + 1))) = some r := by rw [if_pos rfl] at H; exact H
               clear H
               have H := H1
               clear H1
               have H' := Aside0.mk H
               clear H
               have p158 : 0 ≤ (x4_1 : Int) := of_decide_eq_true (by first | (with_reducible assumption) | assumption)
               have q158 : x4_1 < (l0.length : Int) := of_decide_eq_true (by first | (with_reducible assumption) | assumption)
               obtain ⟨ad158, e158, hx158_0, hx158_1⟩ := at_T34 HR0.out x4_1 p158 q158
               obtain rfl : ad157 = ad158 := (by injection e158)
               replace p158 := eq_true p158
               replace q158 := eq_true q158
               have p159 : 0 ≤ (x4_1 : Int) := of_decide_eq_true (by first | (with_reducible assumption) | assumption)
               have q159 : x4_1 < (l0.length : Int) := of_decide_eq_true (by first | (with_reducible assumption) | assumption)
               obtain ⟨ad159, e159, hx159_0, hx159_1⟩ := at_T34 HR0.out x4_1 p159 q159
               obtain rfl : ad157 = ad159 := (by injection e159)
               replace p159 := eq_true p159
               replace q159 := eq_true q159
               have p160 : 0 ≤ (x4_1 : Int) := of_decide_eq_true (by first | (with_reducible assumption) | assumption)
               have q160 : x4_1 < (l0.length : Int) := of_decide_eq_true (by first | (with_reducible assumption) | assumption)
               obtain ⟨ad160, e160, hx160_0, hx160_1⟩ := at_T34 HR0.out x4_1 p160 q160
               obtain rfl : ad157 = ad160 := (by injection e160)
               replace p160 := eq_true p160
               replace q160 := eq_true q160
               have p161 : 0 ≤ (x4_1 : Int) := of_decide_eq_true (by first | (with_reducible assumption) | assumption)
               have q161 : x4_1 < (l0.length : Int) := of_decide_eq_true (by first | (with_reducible assumption) | assumption)
               obtain ⟨ad161, e161, hx161_0, hx161_1⟩ := at_T34 HR0.out x4_1 p161 q161
               obtain rfl : ad157 = ad161 := (by injection e161)
               replace p161 := eq_true p161
               replace q161 := eq_true q161
               go_wp2
               repeat (go_quiet (fail); try go_wp2)
               go_roundg k2
               case measure => have := HK1.out; have := HK2.out; omega
               case rel => exact ⟨(wrap64 (x3_1 + 1)), (wrap64 (x4_1 + 1)), (by first | rfl | (simp; done) | (simp [*]; done)), (by first | rfl | (simp; done) | (simp [*]; done)), H', ⟨by have := HK1.out; have := HK2.out; omega⟩, by repeat (first | exact Drawn0.refl _ | apply Drawn0.step)⟩
              ·replace c12 := Bool.eq_false_iff.mpr c12
               subst c12
               have H1 : (davitref20_Rings.l0 k2 l0 x3_1 (wrap64 (x4_1 + 1))) = some r := by rw [if_neg (show ¬ (false = true) by decide)] at H; exact H
               clear H
               have H := H1
               clear H1
               have H' := Aside0.mk H
               clear H
               have p158 : 0 ≤ (x4_1 : Int) := of_decide_eq_true (by first | (with_reducible assumption) | assumption)
               have q158 : x4_1 < (l0.length : Int) := of_decide_eq_true (by first | (with_reducible assumption) | assumption)
               obtain ⟨ad158, e158, hx158_0, hx158_1⟩ := at_T34 HR0.out x4_1 p158 q158
               obtain rfl : ad157 = ad158 := (by injection e158)
               replace p158 := eq_true p158
               replace q158 := eq_true q158
               have p159 : 0 ≤ (x4_1 : Int) := of_decide_eq_true (by first | (with_reducible assumption) | assumption)
               have q159 : x4_1 < (l0.length : Int) := of_decide_eq_true (by first | (with_reducible assumption) | assumption)
               obtain ⟨ad159, e159, hx159_0, hx159_1⟩ := at_T34 HR0.out x4_1 p159 q159
               obtain rfl : ad157 = ad159 := (by injection e159)
               replace p159 := eq_true p159
               replace q159 := eq_true q159
               have p160 : 0 ≤ (x4_1 : Int) := of_decide_eq_true (by first | (with_reducible assumption) | assumption)
               have q160 : x4_1 < (l0.length : Int) := of_decide_eq_true (by first | (with_reducible assumption) | assumption)
               obtain ⟨ad160, e160, hx160_0, hx160_1⟩ := at_T34 HR0.out x4_1 p160 q160
               obtain rfl : ad157 = ad160 := (by injection e160)
               replace p160 := eq_true p160
               replace q160 := eq_true q160
               have p161 : 0 ≤ (x4_1 : Int) := of_decide_eq_true (by first | (with_reducible assumption) | assumption)
               have q161 : x4_1 < (l0.length : Int) := of_decide_eq_true (by first | (with_reducible assumption) | assumption)
               obtain ⟨ad161, e161, hx161_0, hx161_1⟩ := at_T34 HR0.out x4_1 p161 q161
               obtain rfl : ad157 = ad161 := (by injection e161)
               replace p161 := eq_true p161
               replace q161 := eq_true q161
               go_wp2
               repeat (go_quiet (fail); try go_wp2)
               go_roundg k2
               case measure => have := HK1.out; have := HK2.out; omega
               case rel => exact ⟨(x3_1), (wrap64 (x4_1 + 1)), (by first | rfl | (simp; done) | (simp [*]; done)), (by first | rfl | (simp; done) | (simp [*]; done)), H', ⟨by have := HK1.out; have := HK2.out; omega⟩, by repeat (first | exact Drawn0.refl _ | apply Drawn0.step)⟩
            ·rw [if_neg c10] at H
             have c10b0 : (x5_2 == ((rd_T34 l0 x4_1).f0)) = false := beq_eq_false_iff_ne.mpr c10
             have c10b1 : (x5_2 != ((rd_T34 l0 x4_1).f0)) = true := bne_iff_ne.mpr c10
             by_cases c13 : x6_2 = true
             ·subst c13
              have H1 : ((davitref20_from.f k2 l0 x5_2).bind fun t163 => (davitref20_Rings.l1 k2 l0 x3_1 x4_1 t163 (decide (x5_2 > ((rd_T34 l0 x4_1).f0))) (wrap64 (x7_2 + 1)))) = some r := by rw [if_pos rfl] at H; exact H
              clear H
              have H := H1
              clear H1
              replace H := Option.bind_eq_some_iff.mp H
              obtain ⟨t163, A140, H⟩ := H
              replace H : (davitref20_Rings.l1 k2 l0 x3_1 x4_1 t163 (decide (x5_2 > ((rd_T34 l0 x4_1).f0))) (wrap64 (x7_2 + 1))) = some r := H
              have A14 := Aside0.mk A140
              clear A140
              have H' := Aside0.mk H
              clear H
              have p158 : 0 ≤ (x4_1 : Int) := of_decide_eq_true (by first | (with_reducible assumption) | assumption)
              have q158 : x4_1 < (l0.length : Int) := of_decide_eq_true (by first | (with_reducible assumption) | assumption)
              obtain ⟨ad158, e158, hx158_0, hx158_1⟩ := at_T34 HR0.out x4_1 p158 q158
              obtain rfl : ad157 = ad158 := (by injection e158)
              replace p158 := eq_true p158
              replace q158 := eq_true q158
              have p162 : 0 ≤ (x4_1 : Int) := of_decide_eq_true (by first | (with_reducible assumption) | assumption)
              have q162 : x4_1 < (l0.length : Int) := of_decide_eq_true (by first | (with_reducible assumption) | assumption)
              obtain ⟨ad162, e162, hx162_0, hx162_1⟩ := at_T34 HR0.out x4_1 p162 q162
              obtain rfl : ad157 = ad162 := (by injection e162)
              replace p162 := eq_true p162
              replace q162 := eq_true q162
              go_wp2_with (first | (go_at_call 19; (with_reducible refine (davitref20_from.calls k2 _ _ l0 x5_2 t163 _ ?side1 ?side2 A14.out).mono ?_); (case side1 => repeat (first | exact HR0.out | (with_reducible refine Kd.C_alloc ?_ _) | (with_reducible refine Kd.C_drewN ?_ _) | (with_reducible refine Kd.C_drew ?_))); (case side2 => exact HC0.out); rintro e w' ⟨rfl, ⟨nd, rfl⟩⟩; (try first | exact ⟨rfl, _, World.drewN_drewN _ _ _⟩ | exact ⟨rfl, _, Eq.trans (World.drewN_drewN _ _ _) (congrArg (World.drewN _) (Nat.add_assoc _ _ _))⟩)))
              repeat (go_quiet (first | (go_at_call 19; (with_reducible refine (davitref20_from.calls k2 _ _ l0 x5_2 t163 _ ?side1 ?side2 A14.out).mono ?_); (case side1 => repeat (first | exact HR0.out | (with_reducible refine Kd.C_alloc ?_ _) | (with_reducible refine Kd.C_drewN ?_ _) | (with_reducible refine Kd.C_drew ?_))); (case side2 => exact HC0.out); rintro e w' ⟨rfl, ⟨nd, rfl⟩⟩; (try first | exact ⟨rfl, _, World.drewN_drewN _ _ _⟩ | exact ⟨rfl, _, Eq.trans (World.drewN_drewN _ _ _) (congrArg (World.drewN _) (Nat.add_assoc _ _ _))⟩))); try go_wp2_with (first | (go_at_call 19; (with_reducible refine (davitref20_from.calls k2 _ _ l0 x5_2 t163 _ ?side1 ?side2 A14.out).mono ?_); (case side1 => repeat (first | exact HR0.out | (with_reducible refine Kd.C_alloc ?_ _) | (with_reducible refine Kd.C_drewN ?_ _) | (with_reducible refine Kd.C_drew ?_))); (case side2 => exact HC0.out); rintro e w' ⟨rfl, ⟨nd, rfl⟩⟩; (try first | exact ⟨rfl, _, World.drewN_drewN _ _ _⟩ | exact ⟨rfl, _, Eq.trans (World.drewN_drewN _ _ _) (congrArg (World.drewN _) (Nat.add_assoc _ _ _))⟩))))
              go_roundg k2
              case measure => have := HK1.out; have := HK2.out; omega
              case rel => exact ⟨(t163), (decide (x5_2 > ((rd_T34 l0 x4_1).f0))), (wrap64 (x7_2 + 1)), (by first | rfl | (simp; done) | (simp [*]; done)), (by first | rfl | (simp; done) | (simp [*]; done)), (by first | rfl | (simp; done) | (simp [*]; done)), H', ⟨by have := HK1.out; have := HK2.out; omega⟩, by repeat (first | exact Drawn0.refl _ | apply Drawn0.step)⟩
             ·replace c13 := Bool.eq_false_iff.mpr c13
              subst c13
              have H1 : ((davitref20_from.f k2 l0 x5_2).bind fun t164 => (davitref20_Rings.l1 k2 l0 x3_1 x4_1 t164 false (wrap64 (x7_2 + 1)))) = some r := by rw [if_neg (show ¬ (false = true) by decide)] at H; exact H
              clear H
              have H := H1
              clear H1
              replace H := Option.bind_eq_some_iff.mp H
              obtain ⟨t164, A150, H⟩ := H
              replace H : (davitref20_Rings.l1 k2 l0 x3_1 x4_1 t164 false (wrap64 (x7_2 + 1))) = some r := H
              have A15 := Aside0.mk A150
              clear A150
              have H' := Aside0.mk H
              clear H
              have p158 : 0 ≤ (x4_1 : Int) := of_decide_eq_true (by first | (with_reducible assumption) | assumption)
              have q158 : x4_1 < (l0.length : Int) := of_decide_eq_true (by first | (with_reducible assumption) | assumption)
              obtain ⟨ad158, e158, hx158_0, hx158_1⟩ := at_T34 HR0.out x4_1 p158 q158
              obtain rfl : ad157 = ad158 := (by injection e158)
              replace p158 := eq_true p158
              replace q158 := eq_true q158
              go_wp2_with (first | (go_at_call 19; (with_reducible refine (davitref20_from.calls k2 _ _ l0 x5_2 t164 _ ?side1 ?side2 A15.out).mono ?_); (case side1 => repeat (first | exact HR0.out | (with_reducible refine Kd.C_alloc ?_ _) | (with_reducible refine Kd.C_drewN ?_ _) | (with_reducible refine Kd.C_drew ?_))); (case side2 => exact HC0.out); rintro e w' ⟨rfl, ⟨nd, rfl⟩⟩; (try first | exact ⟨rfl, _, World.drewN_drewN _ _ _⟩ | exact ⟨rfl, _, Eq.trans (World.drewN_drewN _ _ _) (congrArg (World.drewN _) (Nat.add_assoc _ _ _))⟩)))
              repeat (go_quiet (first | (go_at_call 19; (with_reducible refine (davitref20_from.calls k2 _ _ l0 x5_2 t164 _ ?side1 ?side2 A15.out).mono ?_); (case side1 => repeat (first | exact HR0.out | (with_reducible refine Kd.C_alloc ?_ _) | (with_reducible refine Kd.C_drewN ?_ _) | (with_reducible refine Kd.C_drew ?_))); (case side2 => exact HC0.out); rintro e w' ⟨rfl, ⟨nd, rfl⟩⟩; (try first | exact ⟨rfl, _, World.drewN_drewN _ _ _⟩ | exact ⟨rfl, _, Eq.trans (World.drewN_drewN _ _ _) (congrArg (World.drewN _) (Nat.add_assoc _ _ _))⟩))); try go_wp2_with (first | (go_at_call 19; (with_reducible refine (davitref20_from.calls k2 _ _ l0 x5_2 t164 _ ?side1 ?side2 A15.out).mono ?_); (case side1 => repeat (first | exact HR0.out | (with_reducible refine Kd.C_alloc ?_ _) | (with_reducible refine Kd.C_drewN ?_ _) | (with_reducible refine Kd.C_drew ?_))); (case side2 => exact HC0.out); rintro e w' ⟨rfl, ⟨nd, rfl⟩⟩; (try first | exact ⟨rfl, _, World.drewN_drewN _ _ _⟩ | exact ⟨rfl, _, Eq.trans (World.drewN_drewN _ _ _) (congrArg (World.drewN _) (Nat.add_assoc _ _ _))⟩))))
              go_roundg k2
              case measure => have := HK1.out; have := HK2.out; omega
              case rel => exact ⟨(t164), (false), (wrap64 (x7_2 + 1)), (by first | rfl | (simp; done) | (simp [*]; done)), (by first | rfl | (simp; done) | (simp [*]; done)), (by first | rfl | (simp; done) | (simp [*]; done)), H', ⟨by have := HK1.out; have := HK2.out; omega⟩, by repeat (first | exact Drawn0.refl _ | apply Drawn0.step)⟩
           ·rw [if_neg c9] at H
            exact absurd H (by simp)
          ·rw [if_neg c8] at H
           exact absurd H (by simp)
         ·rw [if_neg c7] at H
          have c7b0 : decide (0 ≤ x5_2) = false := decide_eq_false c7
          clear c7
          by_cases c16 : 0 ≤ x4_1
          ·rw [if_pos c16] at H
           have c16b0 : decide (0 ≤ x4_1) = true := decide_eq_true c16
           clear c16
           by_cases c17 : x4_1 < (l0.length : Int)
           ·rw [if_pos c17] at H
            have c17b0 : decide (x4_1 < (l0.length : Int)) = true := decide_eq_true c17
            clear c17
            by_cases c18 : x5_2 = ((rd_T34 l0 x4_1).f0)
            ·rw [if_pos c18] at H
             have c18b0 : (x5_2 == ((rd_T34 l0 x4_1).f0)) = true := beq_iff_eq.mpr c18
             have c18b1 : (x5_2 != ((rd_T34 l0 x4_1).f0)) = false := bne_eq_false_iff_eq.mpr c18
             clear c18
             by_cases c19 : ((rd_T34 l0 x4_1).f1) = ((rd_T34 l0 x4_1).f0)
             ·rw [if_pos c19] at H
              have c19b0 : (((rd_T34 l0 x4_1).f1) == ((rd_T34 l0 x4_1).f0)) = true := beq_iff_eq.mpr c19
              have c19b1 : (((rd_T34 l0 x4_1).f1) != ((rd_T34 l0 x4_1).f0)) = false := bne_eq_false_iff_eq.mpr c19
              clear c19
              have H' := Aside0.mk H
              clear H
              have p165 : 0 ≤ (x4_1 : Int) := of_decide_eq_true (by first | (with_reducible assumption) | assumption)
              have q165 : x4_1 < (l0.length : Int) := of_decide_eq_true (by first | (with_reducible assumption) | assumption)
              obtain ⟨ad165, e165, hx165_0, hx165_1⟩ := at_T34 HR0.out x4_1 p165 q165
              obtain rfl : ad157 = ad165 := (by injection e165)
              replace p165 := eq_true p165
              replace q165 := eq_true q165
              have p166 : 0 ≤ (x4_1 : Int) := of_decide_eq_true (by first | (with_reducible assumption) | assumption)
              have q166 : x4_1 < (l0.length : Int) := of_decide_eq_true (by first | (with_reducible assumption) | assumption)
              obtain ⟨ad166, e166, hx166_0, hx166_1⟩ := at_T34 HR0.out x4_1 p166 q166
              obtain rfl : ad157 = ad166 := (by injection e166)
              replace p166 := eq_true p166
              replace q166 := eq_true q166
              have p167 : 0 ≤ (x4_1 : Int) := of_decide_eq_true (by first | (with_reducible assumption) | assumption)
              have q167 : x4_1 < (l0.length : Int) := of_decide_eq_true (by first | (with_reducible assumption) | assumption)
              obtain ⟨ad167, e167, hx167_0, hx167_1⟩ := at_T34 HR0.out x4_1 p167 q167
              obtain rfl : ad157 = ad167 := (by injection e167)
              replace p167 := eq_true p167
              replace q167 := eq_true q167
              go_wp2
              repeat (go_quiet (fail); try go_wp2)
              go_roundg k2
              case measure => have := HK1.out; have := HK2.out; omega
              case rel => exact ⟨(x3_1), (wrap64 (x4_1 + 1)), (by first | rfl | (simp; done) | (simp [*]; done)), (by first | rfl | (simp; done) | (simp [*]; done)), H', ⟨by have := HK1.out; have := HK2.out; omega⟩, by repeat (first | exact Drawn0.refl _ | apply Drawn0.step)⟩
             ·rw [if_neg c19] at H
              have c19b0 : (((rd_T34 l0 x4_1).f1) == ((rd_T34 l0 x4_1).f0)) = false := beq_eq_false_iff_ne.mpr c19
              have c19b1 : (((rd_T34 l0 x4_1).f1) != ((rd_T34 l0 x4_1).f0)) = true := bne_iff_ne.mpr c19
              by_cases c20 : x6_2 = true
              ·subst c20
               have H1 : (davitref20_Rings.l0 k2 l0 (wrap64 (x3_1 + 1)) (wrap64 (x4_1 + 1))) = some r := by rw [if_pos rfl] at H; exact H
               clear H
               have H := H1
               clear H1
               have H' := Aside0.mk H
               clear H
               have p165 : 0 ≤ (x4_1 : Int) := of_decide_eq_true (by first | (with_reducible assumption) | assumption)
               have q165 : x4_1 < (l0.length : Int) := of_decide_eq_true (by first | (with_reducible assumption) | assumption)
               obtain ⟨ad165, e165, hx165_0, hx165_1⟩ := at_T34 HR0.out x4_1 p165 q165
               obtain rfl : ad157 = ad165 := (by injection e165)
               replace p165 := eq_true p165
               replace q165 := eq_true q165
               have p166 : 0 ≤ (x4_1 : Int) := of_decide_eq_true (by first | (with_reducible assumption) | assumption)
               have q166 : x4_1 < (l0.length : Int) := of_decide_eq_true (by first | (with_reducible assumption) | assumption)
               obtain ⟨ad166, e166, hx166_0, hx166_1⟩ := at_T34 HR0.out x4_1 p166 q166
               obtain rfl : ad157 = ad166 := (by injection e166)
               replace p166 := eq_true p166
               replace q166 := eq_true q166
               have p167 : 0 ≤ (x4_1 : Int) := of_decide_eq_true (by first | (with_reducible assumption) | assumption)
               have q167 : x4_1 < (l0.length : Int) := of_decide_eq_true (by first | (with_reducible assumption) | assumption)
               obtain ⟨ad167, e167, hx167_0, hx167_1⟩ := at_T34 HR0.out x4_1 p167 q167
               obtain rfl : ad157 = ad167 := (by injection e167)
               replace p167 := eq_true p167
               replace q167 := eq_true q167
               go_wp2
               repeat (go_quiet (fail); try go_wp2)
               go_roundg k2
               case measure => have := HK1.out; have := HK2.out; omega
               case rel => exact ⟨(wrap64 (x3_1 + 1)), (wrap64 (x4_1 + 1)), (by first | rfl | (simp; done) | (simp [*]; done)), (by first | rfl | (simp; done) | (simp [*]; done)), H', ⟨by have := HK1.out; have := HK2.out; omega⟩, by repeat (first | exact Drawn0.refl _ | apply Drawn0.step)⟩
              ·replace c20 := Bool.eq_false_iff.mpr c20
               subst c20
               have H1 : (davitref20_Rings.l0 k2 l0 x3_1 (wrap64 (x4_1 + 1))) = some r := by rw [if_neg (show ¬ (false = true) by decide)] at H; exact H
               clear H
               have H := H1
               clear H1
               have H' := Aside0.mk H
               clear H
               have p165 : 0 ≤ (x4_1 : Int) := of_decide_eq_true (by first | (with_reducible assumption) | assumption)
               have q165 : x4_1 < (l0.length : Int) := of_decide_eq_true (by first | (with_reducible assumption) | assumption)
               obtain ⟨ad165, e165, hx165_0, hx165_1⟩ := at_T34 HR0.out x4_1 p165 q165
               obtain rfl : ad157 = ad165 := (by injection e165)
               replace p165 := eq_true p165
               replace q165 := eq_true q165
               have p166 : 0 ≤ (x4_1 : Int) := of_decide_eq_true (by first | (with_reducible assumption) | assumption)
               have q166 : x4_1 < (l0.length : Int) := of_decide_eq_true (by first | (with_reducible assumption) | assumption)
               obtain ⟨ad166, e166, hx166_0, hx166_1⟩ := at_T34 HR0.out x4_1 p166 q166
               obtain rfl : ad157 = ad166 := (by injection e166)
               replace p166 := eq_true p166
               replace q166 := eq_true q166
               have p167 : 0 ≤ (x4_1 : Int) := of_decide_eq_true (by first | (with_reducible assumption) | assumption)
               have q167 : x4_1 < (l0.length : Int) := of_decide_eq_true (by first | (with_reducible assumption) | assumption)
               obtain ⟨ad167, e167, hx167_0, hx167_1⟩ := at_T34 HR0.out x4_1 p167 q167
               obtain rfl : ad157 = ad167 := (by injection e167)
               replace p167 := eq_true p167
               replace q167 := eq_true q167
               go_wp2
               repeat (go_quiet (fail); try go_wp2)
               go_roundg k2
               case measure => have := HK1.out; have := HK2.out; omega
               case rel => exact ⟨(x3_1), (wrap64 (x4_1 + 1)), (by first | rfl | (simp; done) | (simp [*]; done)), (by first | rfl | (simp; done) | (simp [*]; done)), H', ⟨by have := HK1.out; have := HK2.out; omega⟩, by repeat (first | exact Drawn0.refl _ | apply Drawn0.step)⟩
            ·rw [if_neg c18] at H
             have c18b0 : (x5_2 == ((rd_T34 l0 x4_1).f0)) = false := beq_eq_false_iff_ne.mpr c18
             have c18b1 : (x5_2 != ((rd_T34 l0 x4_1).f0)) = true := bne_iff_ne.mpr c18
             have H' := Aside0.mk H
             clear H
             have p165 : 0 ≤ (x4_1 : Int) := of_decide_eq_true (by first | (with_reducible assumption) | assumption)
             have q165 : x4_1 < (l0.length : Int) := of_decide_eq_true (by first | (with_reducible assumption) | assumption)
             obtain ⟨ad165, e165, hx165_0, hx165_1⟩ := at_T34 HR0.out x4_1 p165 q165
             obtain rfl : ad157 = ad165 := (by injection e165)
             replace p165 := eq_true p165
             replace q165 := eq_true q165
             go_wp2
             repeat (go_quiet (fail); try go_wp2)
             go_roundg k2
             case measure => have := HK1.out; have := HK2.out; omega
             case rel => exact ⟨(x3_1), (wrap64 (x4_1 + 1)), (by first | rfl | (simp; done) | (simp [*]; done)), (by first | rfl | (simp; done) | (simp [*]; done)), H', ⟨by have := HK1.out; have := HK2.out; omega⟩, by repeat (first | exact Drawn0.refl _ | apply Drawn0.step)⟩
           ·rw [if_neg c17] at H
            exact absurd H (by simp)
          ·rw [if_neg c16] at H
           exact absurd H (by simp)
        ·rw [if_neg c6] at H
         have c6b0 : decide (x7_2 < (l0.length : Int)) = false := decide_eq_false c6
         clear c6
         by_cases c21 : 0 ≤ x4_1
         ·rw [if_pos c21] at H
          have c21b0 : decide (0 ≤ x4_1) = true := decide_eq_true c21
          clear c21
          by_cases c22 : x4_1 < (l0.length : Int)
          ·rw [if_pos c22] at H
           have c22b0 : decide (x4_1 < (l0.length : Int)) = true := decide_eq_true c22
           clear c22
           by_cases c23 : x5_2 = ((rd_T34 l0 x4_1).f0)
           ·rw [if_pos c23] at H
            have c23b0 : (x5_2 == ((rd_T34 l0 x4_1).f0)) = true := beq_iff_eq.mpr c23
            have c23b1 : (x5_2 != ((rd_T34 l0 x4_1).f0)) = false := bne_eq_false_iff_eq.mpr c23
            clear c23
            by_cases c24 : ((rd_T34 l0 x4_1).f1) = ((rd_T34 l0 x4_1).f0)
            ·rw [if_pos c24] at H
             have c24b0 : (((rd_T34 l0 x4_1).f1) == ((rd_T34 l0 x4_1).f0)) = true := beq_iff_eq.mpr c24
             have c24b1 : (((rd_T34 l0 x4_1).f1) != ((rd_T34 l0 x4_1).f0)) = false := bne_eq_false_iff_eq.mpr c24
             clear c24
             have H' := Aside0.mk H
             clear H
             have p168 : 0 ≤ (x4_1 : Int) := of_decide_eq_true (by first | (with_reducible assumption) | assumption)
             have q168 : x4_1 < (l0.length : Int) := of_decide_eq_true (by first | (with_reducible assumption) | assumption)
             obtain ⟨ad168, e168, hx168_0, hx168_1⟩ := at_T34 HR0.out x4_1 p168 q168
             obtain rfl : ad157 = ad168 := (by injection e168)
             replace p168 := eq_true p168
             replace q168 := eq_true q168
             have p169 : 0 ≤ (x4_1 : Int) := of_decide_eq_true (by first | (with_reducible assumption) | assumption)
             have q169 : x4_1 < (l0.length : Int) := of_decide_eq_true (by first | (with_reducible assumption) | assumption)
             obtain ⟨ad169, e169, hx169_0, hx169_1⟩ := at_T34 HR0.out x4_1 p169 q169
             obtain rfl : ad157 = ad169 := (by injection e169)
             replace p169 := eq_true p169
             replace q169 := eq_true q169
             have p170 : 0 ≤ (x4_1 : Int) := of_decide_eq_true (by first | (with_reducible assumption) | assumption)
             have q170 : x4_1 < (l0.length : Int) := of_decide_eq_true (by first | (with_reducible assumption) | assumption)
             obtain ⟨ad170, e170, hx170_0, hx170_1⟩ := at_T34 HR0.out x4_1 p170 q170
             obtain rfl : ad157 = ad170 := (by injection e170)
             replace p170 := eq_true p170
             replace q170 := eq_true q170
             go_wp2
             repeat (go_quiet (fail); try go_wp2)
             go_roundg k2
             case measure => have := HK1.out; have := HK2.out; omega
             case rel => exact ⟨(x3_1), (wrap64 (x4_1 + 1)), (by first | rfl | (simp; done) | (simp [*]; done)), (by first | rfl | (simp; done) | (simp [*]; done)), H', ⟨by have := HK1.out; have := HK2.out; omega⟩, by repeat (first | exact Drawn0.refl _ | apply Drawn0.step)⟩
            ·rw [if_neg c24] at H
             have c24b0 : (((rd_T34 l0 x4_1).f1) == ((rd_T34 l0 x4_1).f0)) = false := beq_eq_false_iff_ne.mpr c24
             have c24b1 : (((rd_T34 l0 x4_1).f1) != ((rd_T34 l0 x4_1).f0)) = true := bne_iff_ne.mpr c24
             by_cases c25 : x6_2 = true
             ·subst c25
              have H1 : (davitref20_Rings.l0 k2 l0 (wrap64 (x3_1 + 1)) (wrap64 (x4_1 + 1))) = some r := by rw [if_pos rfl] at H; exact H
              clear H
              have H := H1
              clear H1
              have H' := Aside0.mk H
              clear H
              have p168 : 0 ≤ (x4_1 : Int) := of_decide_eq_true (by first | (with_reducible assumption) | assumption)
              have q168 : x4_1 < (l0.length : Int) := of_decide_eq_true (by first | (with_reducible assumption) | assumption)
              obtain ⟨ad168, e168, hx168_0, hx168_1⟩ := at_T34 HR0.out x4_1 p168 q168
              obtain rfl : ad157 = ad168 := (by injection e168)
              replace p168 := eq_true p168
              replace q168 := eq_true q168
              have p169 : 0 ≤ (x4_1 : Int) := of_decide_eq_true (by first | (with_reducible assumption) | assumption)
              have q169 : x4_1 < (l0.length : Int) := of_decide_eq_true (by first | (with_reducible assumption) | assumption)
              obtain ⟨ad169, e169, hx169_0, hx169_1⟩ := at_T34 HR0.out x4_1 p169 q169
              obtain rfl : ad157 = ad169 := (by injection e169)
              replace p169 := eq_true p169
              replace q169 := eq_true q169
              have p170 : 0 ≤ (x4_1 : Int) := of_decide_eq_true (by first | (with_reducible assumption) | assumption)
              have q170 : x4_1 < (l0.length : Int) := of_decide_eq_true (by first | (with_reducible assumption) | assumption)
              obtain ⟨ad170, e170, hx170_0, hx170_1⟩ := at_T34 HR0.out x4_1 p170 q170
              obtain rfl : ad157 = ad170 := (by injection e170)
              replace p170 := eq_true p170
              replace q170 := eq_true q170
              go_wp2
              repeat (go_quiet (fail); try go_wp2)
              go_roundg k2
              case measure => have := HK1.out; have := HK2.out; omega
              case rel => exact ⟨(wrap64 (x3_1 + 1)), (wrap64 (x4_1 + 1)), (by first | rfl | (simp; done) | (simp [*]; done)), (by first | rfl | (simp; done) | (simp [*]; done)), H', ⟨by have := HK1.out; have := HK2.out; omega⟩, by repeat (first | exact Drawn0.refl _ | apply Drawn0.step)⟩
             ·replace c25 := Bool.eq_false_iff.mpr c25
              subst c25
              have H1 : (davitref20_Rings.l0 k2 l0 x3_1 (wrap64 (x4_1 + 1))) = some r := by rw [if_neg (show ¬ (false = true) by decide)] at H; exact H
              clear H
              have H := H1
              clear H1
              have H' := Aside0.mk H
              clear H
              have p168 : 0 ≤ (x4_1 : Int) := of_decide_eq_true (by first | (with_reducible assumption) | assumption)
              have q168 : x4_1 < (l0.length : Int) := of_decide_eq_true (by first | (with_reducible assumption) | assumption)
              obtain ⟨ad168, e168, hx168_0, hx168_1⟩ := at_T34 HR0.out x4_1 p168 q168
              obtain rfl : ad157 = ad168 := (by injection e168)
              replace p168 := eq_true p168
              replace q168 := eq_true q168
              have p169 : 0 ≤ (x4_1 : Int) := of_decide_eq_true (by first | (with_reducible assumption) | assumption)
              have q169 : x4_1 < (l0.length : Int) := of_decide_eq_true (by first | (with_reducible assumption) | assumption)
              obtain ⟨ad169, e169, hx169_0, hx169_1⟩ := at_T34 HR0.out x4_1 p169 q169
              obtain rfl : ad157 = ad169 := (by injection e169)
              replace p169 := eq_true p169
              replace q169 := eq_true q169
              have p170 : 0 ≤ (x4_1 : Int) := of_decide_eq_true (by first | (with_reducible assumption) | assumption)
              have q170 : x4_1 < (l0.length : Int) := of_decide_eq_true (by first | (with_reducible assumption) | assumption)
              obtain ⟨ad170, e170, hx170_0, hx170_1⟩ := at_T34 HR0.out x4_1 p170 q170
              obtain rfl : ad157 = ad170 := (by injection e170)
              replace p170 := eq_true p170
              replace q170 := eq_true q170
              go_wp2
              repeat (go_quiet (fail); try go_wp2)
              go_roundg k2
              case measure => have := HK1.out; have := HK2.out; omega
              case rel => exact ⟨(x3_1), (wrap64 (x4_1 + 1)), (by first | rfl | (simp; done) | (simp [*]; done)), (by first | rfl | (simp; done) | (simp [*]; done)), H', ⟨by have := HK1.out; have := HK2.out; omega⟩, by repeat (first | exact Drawn0.refl _ | apply Drawn0.step)⟩
           ·rw [if_neg c23] at H
            have c23b0 : (x5_2 == ((rd_T34 l0 x4_1).f0)) = false := beq_eq_false_iff_ne.mpr c23
            have c23b1 : (x5_2 != ((rd_T34 l0 x4_1).f0)) = true := bne_iff_ne.mpr c23
            have H' := Aside0.mk H
            clear H
            have p168 : 0 ≤ (x4_1 : Int) := of_decide_eq_true (by first | (with_reducible assumption) | assumption)
            have q168 : x4_1 < (l0.length : Int) := of_decide_eq_true (by first | (with_reducible assumption) | assumption)
            obtain ⟨ad168, e168, hx168_0, hx168_1⟩ := at_T34 HR0.out x4_1 p168 q168
            obtain rfl : ad157 = ad168 := (by injection e168)
            replace p168 := eq_true p168
            replace q168 := eq_true q168
            go_wp2
            repeat (go_quiet (fail); try go_wp2)
            go_roundg k2
            case measure => have := HK1.out; have := HK2.out; omega
            case rel => exact ⟨(x3_1), (wrap64 (x4_1 + 1)), (by first | rfl | (simp; done) | (simp [*]; done)), (by first | rfl | (simp; done) | (simp [*]; done)), H', ⟨by have := HK1.out; have := HK2.out; omega⟩, by repeat (first | exact Drawn0.refl _ | apply Drawn0.step)⟩
          ·rw [if_neg c22] at H
           exact absurd H (by simp)
         ·rw [if_neg c21] at H
          exact absurd H (by simp)
     ·rw [if_neg c5] at H
      exact absurd H (by simp)
    ·rw [if_neg c4] at H
     have c4b0 : decide (x4_1 < (l0.length : Int)) = false := decide_eq_false c4
     clear c4
     obtain rfl := Option.some.inj H
     go_wp2
     repeat (go_quiet (fail); try go_wp2)
     go_ret
     exact ⟨by first | rfl | (simp; done) | (simp [*]; done), by repeat (first | exact Drawn0.refl _ | apply Drawn0.step)⟩
 ·replace c3 := Bool.eq_false_iff.mpr c3
  subst c3
  have H1 : (some 0) = some r := by rw [if_neg (show ¬ (false = true) by decide)] at H; exact H
  clear H
  have H := H1
  clear H1
  obtain rfl := Option.some.inj H
  go_enter Try.func10, Try.ntmps10
  go_wp2_with (first | (go_at_call 8; (with_reducible refine (davitref20_May.calls k _ _ l0 false _ ?side1 ?side2 A2.out).mono ?_); (case side1 => repeat (first | exact HR0.out | (with_reducible refine Kd.C_alloc ?_ _) | (with_reducible refine Kd.C_drewN ?_ _) | (with_reducible refine Kd.C_drew ?_))); (case side2 => exact HC0.out); rintro e w' ⟨rfl, ⟨nd, rfl⟩⟩; (try first | exact ⟨rfl, _, World.drewN_drewN _ _ _⟩ | exact ⟨rfl, _, Eq.trans (World.drewN_drewN _ _ _) (congrArg (World.drewN _) (Nat.add_assoc _ _ _))⟩)))
  repeat (go_quiet (first | (go_at_call 8; (with_reducible refine (davitref20_May.calls k _ _ l0 false _ ?side1 ?side2 A2.out).mono ?_); (case side1 => repeat (first | exact HR0.out | (with_reducible refine Kd.C_alloc ?_ _) | (with_reducible refine Kd.C_drewN ?_ _) | (with_reducible refine Kd.C_drew ?_))); (case side2 => exact HC0.out); rintro e w' ⟨rfl, ⟨nd, rfl⟩⟩; (try first | exact ⟨rfl, _, World.drewN_drewN _ _ _⟩ | exact ⟨rfl, _, Eq.trans (World.drewN_drewN _ _ _) (congrArg (World.drewN _) (Nat.add_assoc _ _ _))⟩))); try go_wp2_with (first | (go_at_call 8; (with_reducible refine (davitref20_May.calls k _ _ l0 false _ ?side1 ?side2 A2.out).mono ?_); (case side1 => repeat (first | exact HR0.out | (with_reducible refine Kd.C_alloc ?_ _) | (with_reducible refine Kd.C_drewN ?_ _) | (with_reducible refine Kd.C_drew ?_))); (case side2 => exact HC0.out); rintro e w' ⟨rfl, ⟨nd, rfl⟩⟩; (try first | exact ⟨rfl, _, World.drewN_drewN _ _ _⟩ | exact ⟨rfl, _, Eq.trans (World.drewN_drewN _ _ _) (congrArg (World.drewN _) (Nat.add_assoc _ _ _))⟩))))
  go_ret
  exact ⟨by first | rfl | (simp; done) | (simp [*]; done), by repeat (first | exact Drawn0.refl _ | apply Drawn0.step)⟩
end
end Go.Proofs.Ytfbbfnadmnejeaa.X
namespace Go.Proofs.Ytfbbfnadmnejeaa.X
open Go.RowKit Go.Proofs.YtfbbfnadmnejeaaW.PrintWords Go.Proofs.YtfbbfnadmnejeaaW.PrintLast Go.Proofs.YtfbbfnadmnejeaaW.PrintMore
attribute [local go_sem] max2_int min2_int max_two min_two max_three min_three max_four min_four
set_option linter.all false
noncomputable section
def davitref20_At.f (l0 : List Int) (a1 : Int) : Option (Int) := if a1 < 0 then (some 0) else (if a1 ≥ (l0.length : Int) then (some 0) else (if 0 ≤ a1 then (if a1 < (l0.length : Int) then (some (rd l0 a1)) else (none)) else (none)))
set_option maxHeartbeats 8000000 in
set_option maxRecDepth 100000 in
theorem davitref20_At.calls (A0 : Option Addr) (c0 : Nat) (l0 : List Int) (a1 : Int) (r : Int) (w : World) (hr0 : Kd.C (Kd.int .u16) w A0 l0.length l0) (hc0 : l0.length ≤ c0) (h : davitref20_At.f l0 a1 = some r) :
  Calls Try.prog 23 #[.slice A0 l0.length c0, .int .i64 a1] w fun e w' => e = .returned (.int .u16 r) ∧ Drawn0 w w' := by
 have HR0 := Aside0.mk hr0
 have HC0 := Aside0.mk hc0
 clear hr0 hc0
 have H : (if a1 < 0 then (some 0) else (if a1 ≥ (l0.length : Int) then (some 0) else (if 0 ≤ a1 then (if a1 < (l0.length : Int) then (some (rd l0 a1)) else (none)) else (none)))) = some r := h
 clear h
 by_cases c3 : a1 < 0
 ·rw [if_pos c3] at H
  have c3b0 : decide (a1 < 0) = true := decide_eq_true c3
  clear c3
  obtain rfl := Option.some.inj H
  go_enter Try.func23, Try.ntmps23
  go_wp2
  go_ret
  exact ⟨by first | rfl | (simp; done) | (simp [*]; done), by repeat (first | exact Drawn0.refl _ | apply Drawn0.step)⟩
 ·rw [if_neg c3] at H
  have c3b0 : decide (a1 < 0) = false := decide_eq_false c3
  clear c3
  by_cases c4 : a1 ≥ (l0.length : Int)
  ·rw [if_pos c4] at H
   have c4b0 : decide ((l0.length : Int) ≤ a1) = true := decide_eq_true c4
   clear c4
   obtain rfl := Option.some.inj H
   go_enter Try.func23, Try.ntmps23
   go_wp2
   go_ret
   exact ⟨by first | rfl | (simp; done) | (simp [*]; done), by repeat (first | exact Drawn0.refl _ | apply Drawn0.step)⟩
  ·rw [if_neg c4] at H
   have c4b0 : decide ((l0.length : Int) ≤ a1) = false := decide_eq_false c4
   clear c4
   by_cases c5 : 0 ≤ a1
   ·rw [if_pos c5] at H
    have c5b0 : decide (0 ≤ a1) = true := decide_eq_true c5
    clear c5
    by_cases c6 : a1 < (l0.length : Int)
    ·rw [if_pos c6] at H
     have c6b0 : decide (a1 < (l0.length : Int)) = true := decide_eq_true c6
     clear c6
     obtain rfl := Option.some.inj H
     have p173 : 0 ≤ (a1 : Int) := of_decide_eq_true (by first | (with_reducible assumption) | assumption)
     have q173 : a1 < (l0.length : Int) := of_decide_eq_true (by first | (with_reducible assumption) | assumption)
     obtain ⟨ad173, e173, hx173_0⟩ := Kd.at_int HR0.out a1 p173 q173
     cases e173
     replace p173 := eq_true p173
     replace q173 := eq_true q173
     go_enter Try.func23, Try.ntmps23
     go_wp2
     go_ret
     exact ⟨by first | rfl | (simp; done) | (simp [*]; done), by repeat (first | exact Drawn0.refl _ | apply Drawn0.step)⟩
    ·rw [if_neg c6] at H
     exact absurd H (by simp)
   ·rw [if_neg c5] at H
    exact absurd H (by simp)
end
end Go.Proofs.Ytfbbfnadmnejeaa.X
namespace Go.Proofs.Ytfbbfnadmnejeaa.X
open Go.RowKit Go.Proofs.YtfbbfnadmnejeaaW.PrintWords Go.Proofs.YtfbbfnadmnejeaaW.PrintLast Go.Proofs.YtfbbfnadmnejeaaW.PrintMore
attribute [local go_sem] max2_int min2_int max_two min_two max_three min_three max_four min_four
set_option linter.all false
noncomputable section
def davitref20_Once.l0 : Nat → List (S34) → List Int → List Int → Int → Option (List Int)
 | 0, _, _, _, _ => none
 | k + 1, x0, x1, x5, x6 => if x6 < (x0.length : Int) then (if 0 ≤ x6 then (if ((rd_T34 x0 x6).f0) ≥ 0 then (if ((rd_T34 x0 x6).f0) < (x5.length : Int) then ((davitref20_At.f x1 ((rd_T34 x0 x6).f1)).bind fun t184 => (if 0 ≤ ((rd_T34 x0 x6).f0) then (davitref20_Once.l0 k x0 x1 (x5.set (((rd_T34 x0 x6).f0) : Int).toNat t184) (wrap64 (x6 + 1))) else (none))) else (davitref20_Once.l0 k x0 x1 x5 (wrap64 (x6 + 1)))) else (davitref20_Once.l0 k x0 x1 x5 (wrap64 (x6 + 1)))) else (none)) else (some x5)
def davitref20_Once.f (k : Nat) (l0 : List (S34)) (l1 : List Int) : Option (List Int) := (some (([] : List Int) : List Int)).bind fun y174 => (if y174.length + l1.length < 70368744177664 then (davitref20_Once.l0 k l0 l1 (y174 ++ l1) 0) else (none))
theorem davitref20_Once.mono_l : ∀ k, (∀ y0 y1 y2 y3, LeO (davitref20_Once.l0 k y0 y1 y2 y3) (davitref20_Once.l0 (k + 1) y0 y1 y2 y3))
 | 0 => fun _ _ _ _ r h => by simp [davitref20_Once.l0] at h
 | k + 1 => by
  have ih0 := davitref20_Once.mono_l k
  ·intro y0 y1 y2 y3
   unfold davitref20_Once.l0
   repeat' first
   | (with_reducible exact ih0 _ _ _ _)
   | (with_reducible exact LeO.refl _)
   | (with_reducible exact LeO.none _)
   | (with_reducible refine LeO.ite ?_ ?_)
   | (with_reducible refine LeO.bind ?_ (fun _ => ?_))
   | exact ih0 _ _ _ _
   | exact LeO.none _
   | refine LeO.ite ?_ ?_
   | refine LeO.bind ?_ (fun _ => ?_)
theorem davitref20_Once.mono : ∀ a0 a1 k, LeO (davitref20_Once.f k a0 a1) (davitref20_Once.f (k + 1) a0 a1) := by
 intro a0 a1 k
 have ih0 := davitref20_Once.mono_l k
 unfold davitref20_Once.f
 repeat' first
   | (with_reducible exact ih0 _ _ _ _)
   | (with_reducible exact LeO.refl _)
   | (with_reducible exact LeO.none _)
   | (with_reducible refine LeO.ite ?_ ?_)
   | (with_reducible refine LeO.bind ?_ (fun _ => ?_))
   | exact ih0 _ _ _ _
   | exact LeO.none _
   | refine LeO.ite ?_ ?_
   | refine LeO.bind ?_ (fun _ => ?_)
def davitref20_Once.T6 : Bool × List (List Nat × List Nat) := (true, [([], []), ([], []), ([], []), ([1, 2], [1, 2]), ([3], [3]), ([4], [4]), ([], []), ([], []), ([], []), ([7, 8], [7, 8]), ([9], [9]), ([10], [10]), ([6, 11], [6, 11]), ([0, 5, 0, 1, 2, 3, 4, 5, 6, 7, 8, 9, 10, 11, 12], [0, 5]), ([13, 12, 12, 0, 1, 2, 3, 4, 5, 6, 7, 8, 9, 10, 11, 12], [12, 13])])
def davitref20_Once.B6 : List Nat := [0, 0, 0, 6, 14, 30, 0, 0, 0, 384, 896, 1920, 4032, 8191, 16383]
theorem davitref20_Once.tab6 : rtab .any (opsOf Try.f16 6) = davitref20_Once.T6 := by kernel_rfl
theorem davitref20_Once.bits6 : waitsOk davitref20_Once.T6.2 davitref20_Once.B6 = true := by kernel_rfl
set_option maxHeartbeats 8000000 in
set_option maxRecDepth 100000 in
theorem davitref20_Once.calls (k : Nat) (A0 : Option Addr) (c0 : Nat) (l0 : List (S34)) (A1 : Option Addr) (c1 : Nat) (l1 : List Int) (r : List Int) (w : World) (hr0 : Kd.C k34 w A0 l0.length l0) (hc0 : l0.length ≤ c0) (hr1 : Kd.C (Kd.int .u16) w A1 l1.length l1) (hc1 : l1.length ≤ c1) (h : davitref20_Once.f k l0 l1 = some r) :
  Calls Try.prog 16 #[.slice A0 l0.length c0, .slice A1 l1.length c1] w fun e w' => ∃ v0_ : Value, e = .returned (v0_) ∧ Kd.R (Kd.int .u16) 35 w' w.heap.size (fun _ => True) v0_ r ∧ Below w.heap.size w w' := by
 have HR0 := Aside0.mk hr0
 have HC0 := Aside0.mk hc0
 clear hr0 hc0
 have HR1 := Aside0.mk hr1
 have HC1 := Aside0.mk hc1
 clear hr1 hc1
 have HB := Aside0.mk (Below.refl w.heap.size w)
 have H : ((some (([] : List Int) : List Int)).bind fun y174 => (if y174.length + l1.length < 70368744177664 then (davitref20_Once.l0 k l0 l1 (y174 ++ l1) 0) else (none))) = some r := h
 clear h
 obtain ⟨y174, hy174⟩ : ∃ y_ : List Int, y_ = (([] : List Int)) := ⟨_, rfl⟩
 replace H : (if y174.length + l1.length < 70368744177664 then (davitref20_Once.l0 k l0 l1 (y174 ++ l1) 0) else (none)) = some r := by first | (rw [hy174]; with_reducible exact H) | (have H2_ := (Option.bind_some _ _).symm.trans H; rw [hy174]; with_reducible exact H2_) | (have H2_ := (Option.bind_some _ _).symm.trans H; with_reducible exact H2_) | with_reducible exact H | (rw [hy174]; exact H) | exact H
 have Ny174 := Aside0.mk hy174
 clear hy174
 by_cases c3 : y174.length + l1.length < 70368744177664
 ·rw [if_pos c3] at H
  have LMc3 := Aside0.mk c3
  clear c3
  obtain ⟨y177, hy177⟩ : ∃ y_ : List Int, y_ = (y174 ++ l1) := ⟨_, rfl⟩
  replace H : (davitref20_Once.l0 k l0 l1 y177 0) = some r := by first | (rw [hy177]; with_reducible exact H) | (have H2_ := (Option.bind_some _ _).symm.trans H; rw [hy177]; with_reducible exact H2_) | (have H2_ := (Option.bind_some _ _).symm.trans H; with_reducible exact H2_) | with_reducible exact H | (rw [hy177]; exact H) | exact H
  have Ny177 := Aside0.mk hy177
  clear hy177
  have H' := Aside0.mk H
  clear H
  go_enter Try.func16, Try.ntmps16
  go_wp2_with (first | ((with_reducible refine gate_dst (N := 7) rfl ?_); (try (refine gate_guard (by rfl) ?_; dsimp only)); refine Kd.R_lit (Kd.int .u16) _ 35 ?hg (N := 7) ?hd (xs := ([] : List Int)) (inner := []) (ok := fun _ => True) (okp := fun _ => True) ?hr ?hp (fun _ hk => hk) trivial (Below.refl _ _) (Nat.le_refl _) (by simp) ?_; (case hd => rfl); (case hg => rfl); (case hr => first | (go_simp; done) | (go_simp; rfl)); (case hp => exact (Reps.none _ _)); intro v175 w4 ho5 hb hg_ hnew_; clear hg_ hnew_; (first | rw [← Ny174.out] at ho5 | (simp only [Int.reduceToNat] at ho5; rw [← Ny174.out] at ho5)); have n0_ := Aside0.mk (Kd.R_lower ho5 (below_size (by repeat (first | (with_reducible first | exact HB.out | apply below_alloc | apply pw_below_drewN | apply below_drew1) | exact HB.out)))); have n1_ := Aside0.mk (below_step (by repeat (first | (with_reducible first | exact HB.out | apply below_alloc | apply pw_below_drewN | apply below_drew1) | exact HB.out)) hb); clear HB; have HO176 := n0_; have HB := n1_; clear n0_ n1_; clear hb ho5) | ((with_reducible refine gate_builtin (b := .append) (xs := #[.tmp 7, .tmp 8]) rfl ?_); (try (refine gate_guard (by rfl) ?_; dsimp only)); at_builtin; refine Kd.R_append_rows (Kd.int .u16) (w0 := w) w.heap.size rfl (.tmp 7) (.tmp 8) 23 35 (.int .u16 0) 2 rfl Try.underlying23 info35 rfl (by decide) (by omega) v175 y174 l1 _ _ _ (fun _ => True) (fun _ => False) rfl rfl ?aO ?aR (fun _ _ h => h) (fun _ h => h.elim) ?aF ?aB ?aS ?aL ?_; (case aR => repeat (first | exact (Kd.C_below HR1.out HB.out) | (with_reducible refine Kd.C_alloc ?_ _) | (with_reducible refine Kd.C_drewN ?_ _) | (with_reducible refine Kd.C_drew ?_))); (case aB => exact (by repeat (first | (with_reducible first | exact HB.out | apply below_alloc | apply pw_below_drewN | apply below_drew1) | exact HB.out))); (case aF => exact (fun _ _ => trivial)); (case aO => exact (by (with_reducible repeat (first | apply Kd.R_alloc | apply Kd.R_drewN | apply Kd.R_drew)); exact HO176.out)); (case aS => exact (below_size (by repeat (first | (with_reducible first | exact HB.out | apply below_alloc | apply pw_below_drewN | apply below_drew1) | exact HB.out)))); (case aL => have := LMc3.out; omega); intro v178 w6 ho hb hg hat; rw [← Ny177.out] at ho; have n0_ := Aside0.mk (hb); have n1_ := Aside0.mk (ho); clear HB; clear HO176; have HB := n0_; have HO179 := n1_; clear n0_ n1_; clear ho hb hg hat))
  go_loopg [6] k (fun kq v6 w' => ∃ (x5_1 : List Int) (x6_1 : Int), v6 = .int .i64 x6_1 ∧ Aside0 (davitref20_Once.l0 kq l0 l1 x5_1 x6_1 = some r) ∧ Aside0 (kq ≤ k) ∧ Aside0 (Kd.R (Kd.int .u16) 35 w' w.heap.size (fun _ => True) v178 x5_1) ∧ Aside0 (Below w.heap.size w w'))
  case atStart => exact ⟨(y177), (0), (by first | rfl | (simp; done) | (simp [*]; done)), H', ⟨Nat.le_refl _⟩, ⟨by (with_reducible repeat (first | apply Kd.R_alloc | apply Kd.R_drewN | apply Kd.R_drew)); exact HO179.out⟩, ⟨by repeat (first | (with_reducible first | exact HB.out | apply below_alloc | apply pw_below_drewN | apply below_drew1) | exact HB.out)⟩⟩
  case round =>
   clear H'
   try clear c1
   try clear p2
   try clear c3
   obtain ⟨x5_1, x6_1, rfl, HA, HK1, HO_5, HB⟩ := hrel
   cases gk with
   | zero => exact absurd HA.out (by simp [davitref20_Once.l0])
   | succ k1 =>
    have H := HA.out
    clear HA
    simp only [davitref20_Once.l0] at H
    by_cases c7 : x6_1 < (l0.length : Int)
    ·rw [if_pos c7] at H
     have c7b0 : decide (x6_1 < (l0.length : Int)) = true := decide_eq_true c7
     clear c7
     by_cases c8 : 0 ≤ x6_1
     ·rw [if_pos c8] at H
      have c8b0 : decide (0 ≤ x6_1) = true := decide_eq_true c8
      clear c8
      by_cases c9 : ((rd_T34 l0 x6_1).f0) ≥ 0
      ·rw [if_pos c9] at H
       have c9b0 : decide (0 ≤ ((rd_T34 l0 x6_1).f0)) = true := decide_eq_true c9
       clear c9
       by_cases c10 : ((rd_T34 l0 x6_1).f0) < (x5_1.length : Int)
       ·rw [if_pos c10] at H
        have c10b0 : decide (((rd_T34 l0 x6_1).f0) < (x5_1.length : Int)) = true := decide_eq_true c10
        clear c10
        replace H := Option.bind_eq_some_iff.mp H
        obtain ⟨t184, A110, H⟩ := H
        replace H : (if 0 ≤ ((rd_T34 l0 x6_1).f0) then (davitref20_Once.l0 k1 l0 l1 (x5_1.set (((rd_T34 l0 x6_1).f0) : Int).toNat t184) (wrap64 (x6_1 + 1))) else (none)) = some r := H
        have A11 := Aside0.mk A110
        clear A110
        by_cases c12 : 0 ≤ ((rd_T34 l0 x6_1).f0)
        ·rw [if_pos c12] at H
         have c12b0 : decide (0 ≤ ((rd_T34 l0 x6_1).f0)) = true := decide_eq_true c12
         clear c12
         obtain ⟨y185, hy185⟩ : ∃ y_ : List Int, y_ = (x5_1.set (((rd_T34 l0 x6_1).f0) : Int).toNat t184) := ⟨_, rfl⟩
         replace H : (davitref20_Once.l0 k1 l0 l1 y185 (wrap64 (x6_1 + 1))) = some r := by first | (rw [hy185]; with_reducible exact H) | (have H2_ := (Option.bind_some _ _).symm.trans H; rw [hy185]; with_reducible exact H2_) | (have H2_ := (Option.bind_some _ _).symm.trans H; with_reducible exact H2_) | with_reducible exact H | (rw [hy185]; exact H) | exact H
         have Ny185 := Aside0.mk hy185
         clear hy185
         have H' := Aside0.mk H
         clear H
         have p180 : 0 ≤ (x6_1 : Int) := of_decide_eq_true (by first | (with_reducible assumption) | assumption)
         have q180 : x6_1 < (l0.length : Int) := of_decide_eq_true (by first | (with_reducible assumption) | assumption)
         obtain ⟨ad180, e180, hx180_0, hx180_1⟩ := at_T34 HR0.out x6_1 p180 q180
         cases e180
         replace hx180_0 := (HB.out.cell (World.block_lt_of_cell? w _ hx180_0)).trans hx180_0
         replace hx180_1 := (HB.out.cell (World.block_lt_of_cell? w _ hx180_1)).trans hx180_1
         replace p180 := eq_true p180
         replace q180 := eq_true q180
         have p181 : 0 ≤ (x6_1 : Int) := of_decide_eq_true (by first | (with_reducible assumption) | assumption)
         have q181 : x6_1 < (l0.length : Int) := of_decide_eq_true (by first | (with_reducible assumption) | assumption)
         obtain ⟨ad181, e181, hx181_0, hx181_1⟩ := at_T34 HR0.out x6_1 p181 q181
         obtain rfl : ad180 = ad181 := (by injection e181)
         replace hx181_0 := (HB.out.cell (World.block_lt_of_cell? w _ hx181_0)).trans hx181_0
         replace hx181_1 := (HB.out.cell (World.block_lt_of_cell? w _ hx181_1)).trans hx181_1
         replace p181 := eq_true p181
         replace q181 := eq_true q181
         obtain ⟨Ao14, co14, eo14⟩ := Kd.R_slice HO_5.out
         subst eo14
         try go_wp2
         have n0_ := Aside0.mk (Kd.R_drew HO_5.out)
         have n1_ := Aside0.mk (below_drew1 HB.out)
         clear HO_5
         clear HB
         have HO_5 := n0_
         have HB := n1_
         clear n0_ n1_
         have p182 : 0 ≤ (x6_1 : Int) := of_decide_eq_true (by first | (with_reducible assumption) | assumption)
         have q182 : x6_1 < (l0.length : Int) := of_decide_eq_true (by first | (with_reducible assumption) | assumption)
         obtain ⟨ad182, e182, hx182_0, hx182_1⟩ := at_T34 HR0.out x6_1 p182 q182
         have hw182_1 := hx182_1
         have hw182_0 := hx182_0
         obtain rfl : ad180 = ad182 := (by injection e182)
         replace hx182_0 := (HB.out.cell (World.block_lt_of_cell? w _ hx182_0)).trans hx182_0
         replace hx182_1 := (HB.out.cell (World.block_lt_of_cell? w _ hx182_1)).trans hx182_1
         replace p182 := eq_true p182
         replace q182 := eq_true q182
         have p183 : 0 ≤ (x6_1 : Int) := of_decide_eq_true (by first | (with_reducible assumption) | assumption)
         have q183 : x6_1 < (l0.length : Int) := of_decide_eq_true (by first | (with_reducible assumption) | assumption)
         obtain ⟨ad183, e183, hx183_0, hx183_1⟩ := at_T34 HR0.out x6_1 p183 q183
         have hw183_1 := hx183_1
         have hw183_0 := hx183_0
         obtain rfl : ad180 = ad183 := (by injection e183)
         replace hx183_0 := (HB.out.cell (World.block_lt_of_cell? w _ hx183_0)).trans hx183_0
         replace hx183_1 := (HB.out.cell (World.block_lt_of_cell? w _ hx183_1)).trans hx183_1
         replace p183 := eq_true p183
         replace q183 := eq_true q183
         refine start_ (n := 15) (S := fun w' => w'.cell? (ad180.add ((x6_1).toNat * 2)) = some (.int .i64 ((rd_T34 l0 x6_1).f0)) ∧ w'.cell? ⟨(ad180.add ((x6_1).toNat * 2)).block, (ad180.add ((x6_1).toNat * 2)).off + 1, none⟩ = some (.int .i64 ((rd_T34 l0 x6_1).f1)) ∧ w'.cell? (ad180.add ((x6_1).toNat * 2)) = some (.int .i64 ((rd_T34 l0 x6_1).f0)) ∧ w'.cell? ⟨(ad180.add ((x6_1).toNat * 2)).block, (ad180.add ((x6_1).toNat * 2)).off + 1, none⟩ = some (.int .i64 ((rd_T34 l0 x6_1).f1))) (ds := [14]) #[false, false, false, false, false, false, false, false, false, false, false, false, false, false, false] (by kernel_rfl) rfl rfl ⟨((HB.out.cell (World.block_lt_of_cell? w _ hw182_0)).trans hw182_0), ((HB.out.cell (World.block_lt_of_cell? w _ hw182_1)).trans hw182_1), ((HB.out.cell (World.block_lt_of_cell? w _ hw183_0)).trans hw183_0), ((HB.out.cell (World.block_lt_of_cell? w _ hw183_1)).trans hw183_1)⟩ (fun hHeld => ?_); refine with_tabW davitref20_Once.tab6 davitref20_Once.bits6 (fun HT_ HW_ => ?_)
         generalize wr.drew = w15 at HO_5 HB hx182_0 hx182_1 hx183_0 hx183_1 hHeld ⊢
         refine pure_ (i := 0) (N := some 32) (v := ?_) (a' := ?_) #[true, false, false, false, false, false, false, false, false, false, false, false, false, false, false] rfl rfl (any_of HT_.out (by kernel_rfl)) (fun _ _ _ h => h) (Or.inl ⟨by rfl, ?_⟩) ?_ ?_
         rotate_left
         ·intro w'
          go_simp
          with_reducible rfl
         rotate_left
         ·simp only [Act.put, List.setIfInBounds_toArray, List.set_cons_zero, List.set_cons_succ, i64_w, i32_w]
          rfl
         refine pure_ (i := 1) (N := some 33) (v := ?_) (a' := ?_) #[true, true, false, false, false, false, false, false, false, false, false, false, false, false, false] rfl rfl (any_of HT_.out (by kernel_rfl)) (fun _ _ _ h => h) (Or.inl ⟨by rfl, ?_⟩) ?_ ?_
         rotate_left
         ·intro w'
          go_simp
          with_reducible rfl
         rotate_left
         ·simp only [Act.put, List.setIfInBounds_toArray, List.set_cons_zero, List.set_cons_succ, i64_w, i32_w]
          rfl
         refine pure_ (i := 2) (N := some 34) (v := ?_) (a' := ?_) #[true, true, true, false, false, false, false, false, false, false, false, false, false, false, false] rfl rfl (any_of HT_.out (by kernel_rfl)) (fun _ _ _ h => h) (Or.inl ⟨by rfl, ?_⟩) ?_ ?_
         rotate_left
         ·intro w'
          go_simp
          with_reducible rfl
         rotate_left
         ·simp only [Act.put, List.setIfInBounds_toArray, List.set_cons_zero, List.set_cons_succ, i64_w, i32_w]
          rfl
         refine pure_ (i := 3) (N := some 35) (v := ?_) (a' := ?_) #[true, true, true, true, false, false, false, false, false, false, false, false, false, false, false] rfl rfl (any_of HT_.out (by kernel_rfl)) (fun _ _ _ h => h) (Or.inl ⟨by rfl, ?_⟩) ?_ ?_
         rotate_left
         ·intro w'
          go_simp
          with_reducible rfl
         rotate_left
         ·simp only [Act.put, List.setIfInBounds_toArray, List.set_cons_zero, List.set_cons_succ, i64_w, i32_w]
          rfl
         refine pure_ (i := 4) (N := some 36) (v := ?_) (a' := ?_) #[true, true, true, true, true, false, false, false, false, false, false, false, false, false, false] rfl rfl (any_of HT_.out (by kernel_rfl)) (fun _ _ _ h => h) (Or.inl ⟨by rfl, ?_⟩) ?_ ?_
         rotate_left
         ·intro w'
          go_simp
          with_reducible rfl
         rotate_left
         ·simp only [Act.put, List.setIfInBounds_toArray, List.set_cons_zero, List.set_cons_succ, i64_w, i32_w]
          rfl
         refine pure_ (i := 6) (N := some 38) (v := ?_) (a' := ?_) #[true, true, true, true, true, false, true, false, false, false, false, false, false, false, false] rfl rfl (any_of HT_.out (by kernel_rfl)) (fun _ _ _ h => h) (Or.inl ⟨by rfl, ?_⟩) ?_ ?_
         rotate_left
         ·intro w'
          go_simp
          with_reducible rfl
         rotate_left
         ·simp only [Act.put, List.setIfInBounds_toArray, List.set_cons_zero, List.set_cons_succ, i64_w, i32_w]
          rfl
         refine pure_ (i := 7) (N := some 39) (v := ?_) (a' := ?_) #[true, true, true, true, true, false, true, true, false, false, false, false, false, false, false] rfl rfl (any_of HT_.out (by kernel_rfl)) (fun _ _ _ h => h) (Or.inl ⟨by rfl, ?_⟩) ?_ ?_
         rotate_left
         ·intro w'
          go_simp
          with_reducible rfl
         rotate_left
         ·simp only [Act.put, List.setIfInBounds_toArray, List.set_cons_zero, List.set_cons_succ, i64_w, i32_w]
          rfl
         refine pure_ (i := 8) (N := some 40) (v := ?_) (a' := ?_) #[true, true, true, true, true, false, true, true, true, false, false, false, false, false, false] rfl rfl (any_of HT_.out (by kernel_rfl)) (fun _ _ _ h => h) (Or.inl ⟨by rfl, ?_⟩) ?_ ?_
         rotate_left
         ·intro w'
          go_simp
          with_reducible rfl
         rotate_left
         ·simp only [Act.put, List.setIfInBounds_toArray, List.set_cons_zero, List.set_cons_succ, i64_w, i32_w]
          rfl
         refine pure_ (i := 9) (N := some 41) (v := ?_) (a' := ?_) #[true, true, true, true, true, false, true, true, true, true, false, false, false, false, false] rfl rfl (any_of HT_.out (by kernel_rfl)) (fun _ _ _ h => h) (Or.inl ⟨by rfl, ?_⟩) ?_ ?_
         rotate_left
         ·intro w'
          go_simp
          with_reducible rfl
         rotate_left
         ·simp only [Act.put, List.setIfInBounds_toArray, List.set_cons_zero, List.set_cons_succ, i64_w, i32_w]
          rfl
         refine pure_ (i := 10) (N := some 42) (v := ?_) (a' := ?_) #[true, true, true, true, true, false, true, true, true, true, true, false, false, false, false] rfl rfl (any_of HT_.out (by kernel_rfl)) (fun _ _ _ h => h) (Or.inl ⟨by rfl, ?_⟩) ?_ ?_
         rotate_left
         ·intro w'
          go_simp
          with_reducible rfl
         rotate_left
         ·simp only [Act.put, List.setIfInBounds_toArray, List.set_cons_zero, List.set_cons_succ, i64_w, i32_w]
          rfl
         refine take_ (i := 5) (N := some 37) (v := ?_) (a' := ?_) #[true, true, true, true, true, true, true, true, true, true, true, false, false, false, false] rfl rfl (take_ofW HT_.out HW_.out (by kernel_rfl)) (fun _ _ _ h => h) (Or.inl ⟨by rfl, ?_⟩) hHeld ?_ ?_
         rotate_left
         ·rintro w' ⟨s0, s1, s2, s3⟩
          go_simp
          with_reducible rfl
         rotate_left
         ·simp only [Act.put, List.setIfInBounds_toArray, List.set_cons_zero, List.set_cons_succ, i64_w, i32_w]
          rfl
         refine take_ (i := 11) (N := some 43) (v := ?_) (a' := ?_) #[true, true, true, true, true, true, true, true, true, true, true, true, false, false, false] rfl rfl (take_ofW HT_.out HW_.out (by kernel_rfl)) (fun _ _ _ h => h) (Or.inl ⟨by rfl, ?_⟩) hHeld ?_ ?_
         rotate_left
         ·rintro w' ⟨s0, s1, s2, s3⟩
          go_simp
          with_reducible rfl
         rotate_left
         ·simp only [Act.put, List.setIfInBounds_toArray, List.set_cons_zero, List.set_cons_succ, i64_w, i32_w]
          rfl
         refine one_ (i := 12) (N := some 44) #[true, true, true, true, true, true, true, true, true, true, true, true, true, false, false] rfl rfl (one_of HT_.out (by kernel_rfl)) (by decide) (fun K hK => ?_)
         refine goes_ Try.func23 (by kernel_rfl) rfl #[.slice A1 l1.length c1, .int .i64 ((rd_T34 l0 x6_1).f1)] (by rfl) rfl rfl (by (try simp only [List.map_toArray, List.map_cons, List.map_nil]); first | done | rfl | (simp only [List.length_drop, List.length_take]; rfl)) ?_
         with_reducible refine (davitref20_At.calls _ _ l1 ((rd_T34 l0 x6_1).f1) t184 _ ?side1 ?side2 A11.out).mono ?_
         (case side1 => repeat (first | exact (Kd.C_below HR1.out HB.out) | (with_reducible refine Kd.C_alloc ?_ _) | (with_reducible refine Kd.C_drewN ?_ _) | (with_reducible refine Kd.C_drew ?_)))
         (case side2 => exact HC1.out)
         rintro e w' ⟨rfl, ⟨nd, rfl⟩⟩
         refine ⟨_, rfl, ?_⟩
         have p13 : 0 ≤ (((rd_T34 l0 x6_1).f0) : Int) := of_decide_eq_true (by first | (with_reducible assumption) | assumption)
         have q13 : (((rd_T34 l0 x6_1).f0) : Int) < ((x5_1.length : Int) : Int) := of_decide_eq_true (by first | (with_reducible assumption) | assumption)
         obtain ⟨go13, co13, eo13, gb13, gl13, cl13, HG13⟩ := Kd.R_form HO_5.out (by omega)
         (first | cases eo13 | (injection eo13 with ea_ en_ ec_; (first | subst ea_ | (injection ea_ with ea_; subst ea_)); subst ec_; clear en_))
         have GB13 := Aside0.mk gb13
         have GG13 := Aside0.mk HG13
         clear gb13 gl13 HG13
         obtain ⟨hx13_0, hf13_0⟩ := Kd.R_celln 0 HO_5.out (((rd_T34 l0 x6_1).f0) : Int) p13 q13
         replace p13 := eq_true p13
         replace q13 := eq_true q13
         have HP16 := Kd.R_putn HO_5.out (((rd_T34 l0 x6_1).f0) : Int) t184
         rw [← Ny185.out] at HP16
         have HQ16 := Aside0.mk HP16
         clear HP16
         refine hK.out _ _ ⟨((HB.out.cell (World.block_lt_of_cell? w _ hw182_0)).trans hw182_0), ((HB.out.cell (World.block_lt_of_cell? w _ hw182_1)).trans hw182_1), ((HB.out.cell (World.block_lt_of_cell? w _ hw183_0)).trans hw183_0), ((HB.out.cell (World.block_lt_of_cell? w _ hw183_1)).trans hw183_1)⟩ (fun hHeld => ?_)
         clear hK K
         refine norm_ (a' := ?_) ?_ ?_
         rotate_left
         ·show Act.put _ (some 44) _ = _
          simp only [Act.put, List.setIfInBounds_toArray, List.set_cons_zero, List.set_cons_succ, i64_w, i32_w]
          rfl
         refine pure_ (i := 13) (N := some 45) (v := ?_) (a' := ?_) #[true, true, true, true, true, true, true, true, true, true, true, true, true, true, false] rfl rfl (any_of HT_.out (by kernel_rfl)) (fun _ _ _ h => h) (Or.inl ⟨by rfl, ?_⟩) ?_ ?_
         rotate_left
         ·intro w'
          go_simp
          with_reducible rfl
         rotate_left
         ·simp only [Act.put, List.setIfInBounds_toArray, List.set_cons_zero, List.set_cons_succ, i64_w, i32_w]
          rfl
         refine last_ (i := 14) (N := none) #[true, true, true, true, true, true, true, true, true, true, true, true, true, true, true] rfl rfl (one_of HT_.out (by kernel_rfl)) (by decide) (fun K hK => ?_)
         refine skip_ (w1 := ?_) (by rfl) rfl ?_ ?_
         rotate_left
         ·go_simp
          rfl
         refine hK.out _ _ ?_
         clear hK K
         refine done_ (done_of HT_.out (by kernel_rfl)) ?_
         try go_wp2
         go_roundg k1
         case measure => have := HK1.out; omega
         case rel => exact ⟨(y185), (wrap64 (x6_1 + 1)), (by first | rfl | (simp; done) | (simp [*]; done)), H', ⟨by have := HK1.out; omega⟩, ⟨by (with_reducible repeat (first | apply Kd.R_alloc | apply Kd.R_drewN | apply Kd.R_drew)); exact HQ16.out⟩, ⟨by repeat (first | (with_reducible first | exact HB.out | apply below_alloc | apply pw_below_drewN | apply below_drew1 | refine below_set ?_ GB13.out) | exact HB.out)⟩⟩
        ·rw [if_neg c12] at H
         exact absurd H (by simp)
       ·rw [if_neg c10] at H
        have c10b0 : decide (((rd_T34 l0 x6_1).f0) < (x5_1.length : Int)) = false := decide_eq_false c10
        clear c10
        have H' := Aside0.mk H
        clear H
        have p180 : 0 ≤ (x6_1 : Int) := of_decide_eq_true (by first | (with_reducible assumption) | assumption)
        have q180 : x6_1 < (l0.length : Int) := of_decide_eq_true (by first | (with_reducible assumption) | assumption)
        obtain ⟨ad180, e180, hx180_0, hx180_1⟩ := at_T34 HR0.out x6_1 p180 q180
        cases e180
        replace hx180_0 := (HB.out.cell (World.block_lt_of_cell? w _ hx180_0)).trans hx180_0
        replace hx180_1 := (HB.out.cell (World.block_lt_of_cell? w _ hx180_1)).trans hx180_1
        replace p180 := eq_true p180
        replace q180 := eq_true q180
        have p181 : 0 ≤ (x6_1 : Int) := of_decide_eq_true (by first | (with_reducible assumption) | assumption)
        have q181 : x6_1 < (l0.length : Int) := of_decide_eq_true (by first | (with_reducible assumption) | assumption)
        obtain ⟨ad181, e181, hx181_0, hx181_1⟩ := at_T34 HR0.out x6_1 p181 q181
        obtain rfl : ad180 = ad181 := (by injection e181)
        replace hx181_0 := (HB.out.cell (World.block_lt_of_cell? w _ hx181_0)).trans hx181_0
        replace hx181_1 := (HB.out.cell (World.block_lt_of_cell? w _ hx181_1)).trans hx181_1
        replace p181 := eq_true p181
        replace q181 := eq_true q181
        obtain ⟨Ao17, co17, eo17⟩ := Kd.R_slice HO_5.out
        subst eo17
        go_wp2
        go_roundg k1
        case measure => have := HK1.out; omega
        case rel => exact ⟨(x5_1), (wrap64 (x6_1 + 1)), (by first | rfl | (simp; done) | (simp [*]; done)), H', ⟨by have := HK1.out; omega⟩, ⟨by (with_reducible repeat (first | apply Kd.R_alloc | apply Kd.R_drewN | apply Kd.R_drew)); exact HO_5.out⟩, ⟨by repeat (first | (with_reducible first | exact HB.out | apply below_alloc | apply pw_below_drewN | apply below_drew1) | exact HB.out)⟩⟩
      ·rw [if_neg c9] at H
       have c9b0 : decide (0 ≤ ((rd_T34 l0 x6_1).f0)) = false := decide_eq_false c9
       clear c9
       have H' := Aside0.mk H
       clear H
       have p180 : 0 ≤ (x6_1 : Int) := of_decide_eq_true (by first | (with_reducible assumption) | assumption)
       have q180 : x6_1 < (l0.length : Int) := of_decide_eq_true (by first | (with_reducible assumption) | assumption)
       obtain ⟨ad180, e180, hx180_0, hx180_1⟩ := at_T34 HR0.out x6_1 p180 q180
       cases e180
       replace hx180_0 := (HB.out.cell (World.block_lt_of_cell? w _ hx180_0)).trans hx180_0
       replace hx180_1 := (HB.out.cell (World.block_lt_of_cell? w _ hx180_1)).trans hx180_1
       replace p180 := eq_true p180
       replace q180 := eq_true q180
       go_wp2
       go_roundg k1
       case measure => have := HK1.out; omega
       case rel => exact ⟨(x5_1), (wrap64 (x6_1 + 1)), (by first | rfl | (simp; done) | (simp [*]; done)), H', ⟨by have := HK1.out; omega⟩, ⟨by (with_reducible repeat (first | apply Kd.R_alloc | apply Kd.R_drewN | apply Kd.R_drew)); exact HO_5.out⟩, ⟨by repeat (first | (with_reducible first | exact HB.out | apply below_alloc | apply pw_below_drewN | apply below_drew1) | exact HB.out)⟩⟩
     ·rw [if_neg c8] at H
      exact absurd H (by simp)
    ·rw [if_neg c7] at H
     have c7b0 : decide (x6_1 < (l0.length : Int)) = false := decide_eq_false c7
     clear c7
     obtain rfl := Option.some.inj H
     go_wp2
     go_ret
     exact ⟨_, by first | rfl | (simp [errW_none, errW_some] <;> rfl) | (simp [*, errW_none, errW_some] <;> rfl), by (with_reducible repeat (first | apply Kd.R_alloc | apply Kd.R_drewN | apply Kd.R_drew)); exact HO_5.out, by repeat (first | (with_reducible first | exact HB.out | apply below_alloc | apply pw_below_drewN | apply below_drew1) | exact HB.out)⟩
 ·rw [if_neg c3] at H
  exact absurd H (by simp)
end
end Go.Proofs.Ytfbbfnadmnejeaa.X
namespace Go.Proofs.Ytfbbfnadmnejeaa.X
open Go.RowKit Go.Proofs.YtfbbfnadmnejeaaW.PrintWords Go.Proofs.YtfbbfnadmnejeaaW.PrintLast Go.Proofs.YtfbbfnadmnejeaaW.PrintMore
attribute [local go_sem] max2_int min2_int max_two min_two max_three min_three max_four min_four
set_option linter.all false
noncomputable section
def davitref20_Made.l0 : Nat → List (S34) → List Int → Int → Option (List Int)
 | 0, _, _, _ => none
 | k + 1, x0, x1, x5 => if x5 < (x0.length : Int) then (if 0 ≤ x5 then (if x5 ≤ (wrap64 (x5 + 1)) then (if (wrap64 (x5 + 1)) ≤ (x0.length : Int) then ((davitref20_Once.f k ((x0.take ((wrap64 (x5 + 1)) : Int).toNat).drop (x5 : Int).toNat) x1).bind fun t190 => (davitref20_Made.l0 k x0 t190 (wrap64 (x5 + 1)))) else (none)) else (none)) else (none)) else (some x1)
def davitref20_Made.f (k : Nat) (l0 : List (S34)) (l1 : List Int) : Option (List Int) := davitref20_Made.l0 k l0 l1 0
theorem davitref20_Made.mono_l : ∀ k, (∀ y0 y1 y2, LeO (davitref20_Made.l0 k y0 y1 y2) (davitref20_Made.l0 (k + 1) y0 y1 y2))
 | 0 => fun _ _ _ r h => by simp [davitref20_Made.l0] at h
 | k + 1 => by
  have ih0 := davitref20_Made.mono_l k
  ·intro y0 y1 y2
   unfold davitref20_Made.l0
   repeat' first
   | (with_reducible exact ih0 _ _ _)
   | (with_reducible exact davitref20_Once.mono _ _ _)
   | (with_reducible exact LeO.refl _)
   | (with_reducible exact LeO.none _)
   | (with_reducible refine LeO.ite ?_ ?_)
   | (with_reducible refine LeO.bind ?_ (fun _ => ?_))
   | exact ih0 _ _ _
   | exact davitref20_Once.mono _ _ _
   | exact LeO.none _
   | refine LeO.ite ?_ ?_
   | refine LeO.bind ?_ (fun _ => ?_)
theorem davitref20_Made.mono : ∀ a0 a1 k, LeO (davitref20_Made.f k a0 a1) (davitref20_Made.f (k + 1) a0 a1) := by
 intro a0 a1 k
 have ih0 := davitref20_Made.mono_l k
 unfold davitref20_Made.f
 repeat' first
   | (with_reducible exact ih0 _ _ _)
   | (with_reducible exact davitref20_Once.mono _ _ _)
   | (with_reducible exact LeO.refl _)
   | (with_reducible exact LeO.none _)
   | (with_reducible refine LeO.ite ?_ ?_)
   | (with_reducible refine LeO.bind ?_ (fun _ => ?_))
   | exact ih0 _ _ _
   | exact davitref20_Once.mono _ _ _
   | exact LeO.none _
   | refine LeO.ite ?_ ?_
   | refine LeO.bind ?_ (fun _ => ?_)
set_option maxHeartbeats 8000000 in
set_option maxRecDepth 100000 in
theorem davitref20_Made.calls (k : Nat) (A0 : Option Addr) (c0 : Nat) (l0 : List (S34)) (P1_ : Nat → Prop) (A1 : Option Addr) (c1 : Nat) (l1 : List Int) (r : List Int) (w : World) (hr0 : Kd.C k34 w A0 l0.length l0) (hc0 : l0.length ≤ c0) (hs1 : Kd.V (Kd.int .u16) 35 w w.heap.size (fun k_ => P1_ k_) (.slice A1 l1.length c1) l1) (h : davitref20_Made.f k l0 l1 = some r) :
  Calls Try.prog 13 #[.slice A0 l0.length c0, .slice A1 l1.length c1] w fun e w' => ∃ v0_ : Value, e = .returned (v0_) ∧ Kd.V (Kd.int .u16) 35 w' w.heap.size (fun k_ => (P1_ k_ ∨ w.heap.size ≤ k_)) v0_ r ∧ Below w.heap.size w w' := by
 have HR0 := Aside0.mk hr0
 have HC0 := Aside0.mk hc0
 clear hr0 hc0
 have HO1 := Aside0.mk (show Kd.V (Kd.int .u16) 35 w w.heap.size (fun k_ => (P1_ k_ ∨ w.heap.size ≤ k_)) (.slice A1 l1.length c1) l1 from Kd.V_mono hs1 (fun k_ hk => .inl hk))
 have HB := Aside0.mk (Below.refl w.heap.size w)
 have H : (davitref20_Made.l0 k l0 l1 0) = some r := h
 clear h
 have H' := Aside0.mk H
 clear H
 go_enter Try.func13, Try.ntmps13
 go_wp2
 go_loopg [1, 5] k (fun kq v1 v5 w' => ∃ (x1_1 : List Int) (x5_1 : Int), v5 = .int .i64 x5_1 ∧ Aside0 (davitref20_Made.l0 kq l0 x1_1 x5_1 = some r) ∧ Aside0 (kq ≤ k) ∧ Aside0 (Kd.V (Kd.int .u16) 35 w' w.heap.size (fun k_ => (P1_ k_ ∨ w.heap.size ≤ k_)) v1 x1_1) ∧ Aside0 (Below w.heap.size w w'))
 case atStart => exact ⟨(l1), (0), (by first | rfl | (simp; done) | (simp [*]; done)), H', ⟨Nat.le_refl _⟩, ⟨by (with_reducible repeat (first | apply Kd.V_alloc | apply Kd.V_drewN | apply Kd.V_drew)); exact HO1.out⟩, ⟨by repeat (first | (with_reducible first | exact HB.out | apply below_alloc | apply pw_below_drewN | apply below_drew1) | exact HB.out)⟩⟩
 case round =>
  clear H'
  try clear c1
  try clear p2
  obtain ⟨x1_1, x5_1, rfl, HA, HK1, HO_1, HB⟩ := hrel
  cases gk with
  | zero => exact absurd HA.out (by simp [davitref20_Made.l0])
  | succ k1 =>
   have H := HA.out
   clear HA
   simp only [davitref20_Made.l0] at H
   by_cases c3 : x5_1 < (l0.length : Int)
   ·rw [if_pos c3] at H
    have c3b0 : decide (x5_1 < (l0.length : Int)) = true := decide_eq_true c3
    clear c3
    by_cases c4 : 0 ≤ x5_1
    ·rw [if_pos c4] at H
     have c4b0 := eq_true c4
     have c4b1 : decide (0 ≤ x5_1) = true := decide_eq_true c4
     clear c4
     by_cases c5 : x5_1 ≤ (wrap64 (x5_1 + 1))
     ·rw [if_pos c5] at H
      have c5b0 := eq_true c5
      have c5b1 : decide (x5_1 ≤ (wrap64 (x5_1 + 1))) = true := decide_eq_true c5
      by_cases c6 : (wrap64 (x5_1 + 1)) ≤ (l0.length : Int)
      ·rw [if_pos c6] at H
       have c6b0 := eq_true c6
       have c6b1 : decide ((wrap64 (x5_1 + 1)) ≤ (l0.length : Int)) = true := decide_eq_true c6
       obtain ⟨y186, hy186⟩ : ∃ y_ : List (S34), y_ = ((l0.take ((wrap64 (x5_1 + 1)) : Int).toNat).drop (x5_1 : Int).toNat) := ⟨_, rfl⟩
       replace H : ((davitref20_Once.f k1 y186 x1_1).bind fun t190 => (davitref20_Made.l0 k1 l0 t190 (wrap64 (x5_1 + 1)))) = some r := by first | (rw [hy186]; with_reducible exact H) | (have H2_ := (Option.bind_some _ _).symm.trans H; rw [hy186]; with_reducible exact H2_) | (have H2_ := (Option.bind_some _ _).symm.trans H; with_reducible exact H2_) | with_reducible exact H | (rw [hy186]; exact H) | exact H
       have Ny186 := Aside0.mk hy186
       clear hy186
       replace H := Option.bind_eq_some_iff.mp H
       obtain ⟨t190, A70, H⟩ := H
       replace H : (davitref20_Made.l0 k1 l0 t190 (wrap64 (x5_1 + 1))) = some r := H
       have A7 := Aside0.mk A70
       clear A70
       have H' := Aside0.mk H
       clear H
       have q8 : ((wrap64 (x5_1 + 1)) : Int) ≤ ((l0.length : Int) : Int) := of_decide_eq_true (by first | (with_reducible assumption) | assumption)
       obtain ⟨i08, hi08, _, hsz8, _⟩ := info_parts info34
       have hroom8 : l0.length ≤ c0 := HC0.out
       have hC8 : Kd.C k34 _ A0 l0.length l0 := HR0.out
       have ql8 : (x5_1 : Int) ≤ ((wrap64 (x5_1 + 1)) : Int) := of_decide_eq_true (by first | (with_reducible assumption) | assumption)
       have q08 : (0 : Int) ≤ (x5_1 : Int) := of_decide_eq_true (by first | (with_reducible assumption) | assumption)
       have hcut8 := cut_mid (P := Try.prog) 22 34 .i64 .i64 Try.underlying22 hi08 2 hsz8 A0 l0.length c0 x5_1 (wrap64 (x5_1 + 1)) q08 ql8 q8 hroom8
       have hr8 := Kd.C_mid (lo := (x5_1 : Int).toNat) (hi := ((wrap64 (x5_1 + 1)) : Int).toNat) (c := c0) hC8 (by omega) (by omega) hroom8
       obtain ⟨A8, hA8⟩ : ∃ A1, A1 = (if c0 = (x5_1 : Int).toNat then A0 else (A0 : Option Addr).map (·.add ((x5_1 : Int).toNat * 2))) := ⟨_, rfl⟩
       obtain ⟨c8, hc8⟩ : ∃ c1, c1 = c0 - (x5_1 : Int).toNat := ⟨_, rfl⟩
       have hy8 : y186.length = ((wrap64 (x5_1 + 1)) : Int).toNat - (x5_1 : Int).toNat := (by rw [Ny186.out, List.length_drop, List.length_take] <;> omega)
       rw [show ((l0).take ((wrap64 (x5_1 + 1)) : Int).toNat).drop (x5_1 : Int).toNat = y186 from Ny186.out.symm] at hr8
       replace hr8 : Kd.C k34 _ A8 y186.length y186 := (by rw [hA8]; exact hr8)
       rw [← hy8, ← hA8, ← hc8] at hcut8
       have HR189 := Aside0.mk hr8
       have HC189 := Aside0.mk (show y186.length ≤ c8 from by rw [hy8, hc8]; exact Nat.sub_le_sub_right (Nat.le_trans (by omega) hroom8) _)
       clear hr8 hC8 hroom8 hi08 hsz8 hc8
       have KY8 := Aside0.mk hy8
       have KA8 := Aside0.mk hA8
       clear hy8 hA8
       replace q8 := eq_true q8
       obtain ⟨Ao9, co9, eo9⟩ := Kd.V_slice HO_1.out
       subst eo9
       go_wp2_with (first | ((with_reducible refine gate_callee (f := 16) rfl ?_); refine goesL_ (some 18) rfl rfl Try.func16 (by kernel_rfl) rfl #[.slice A8 y186.length c8, .slice Ao9 x1_1.length co9] rfl (by (try simp only [List.map_toArray, List.map_cons, List.map_nil]); first | done | rfl | (simp only [List.length_drop, List.length_take]; rfl)) ?_; (with_reducible refine (davitref20_Once.calls k1 _ _ y186 _ _ x1_1 t190 _ ?side1 ?side2 ?side3 ?side4 A7.out).mono ?_); (case side1 => repeat (first | exact (Kd.C_below HR189.out HB.out) | (with_reducible refine Kd.C_alloc ?_ _) | (with_reducible refine Kd.C_drewN ?_ _) | (with_reducible refine Kd.C_drew ?_))); (case side2 => exact HC189.out); (case side3 => repeat (first | exact (Kd.V_reads' HO_1.out).2.2 | (with_reducible refine Kd.C_alloc ?_ _) | (with_reducible refine Kd.C_drewN ?_ _) | (with_reducible refine Kd.C_drew ?_))); (case side4 => exact (Kd.V_reads' HO_1.out).2.1); rintro e w10 ⟨v191, rfl, ho0, hb⟩; refine ⟨_, rfl, ?_⟩; have n0_ := Aside0.mk (Kd.V_elder' (by (with_reducible repeat (first | apply Kd.V_alloc | apply Kd.V_drewN | apply Kd.V_drew)); exact HO_1.out) (Kd.R_base ho0) hb); have n1_ := Aside0.mk (Kd.R_lower (Kd.R_newM (M := fun k_ => (w.heap.size ≤ k_)) ho0 (below_size (by repeat (first | (with_reducible first | exact HB.out | apply below_alloc | apply pw_below_drewN | apply below_drew1) | exact HB.out))) (fun k_ h_ => h_)) (below_size (by repeat (first | (with_reducible first | exact HB.out | apply below_alloc | apply pw_below_drewN | apply below_drew1) | exact HB.out)))); have n2_ := Aside0.mk (below_step (by repeat (first | (with_reducible first | exact HB.out | apply below_alloc | apply pw_below_drewN | apply below_drew1) | exact HB.out)) hb); clear HO_1; clear HB; have HO_1 := n0_; have HO192 := n1_; have HB := n2_; clear n0_ n1_ n2_; (try clear hb); (try clear hb2); (try clear hk); (try clear hi); (try clear ho0)))
       go_roundg k1
       case measure => have := HK1.out; omega
       case rel => exact ⟨(t190), (wrap64 (x5_1 + 1)), (by first | rfl | (simp; done) | (simp [*]; done)), H', ⟨by have := HK1.out; omega⟩, ⟨Kd.V_mono (Kd.R_V (by (with_reducible repeat (first | apply Kd.R_alloc | apply Kd.R_drewN | apply Kd.R_drew)); exact Kd.R_mono HO192.out (fun _ hk => hk.1))) (fun k_ hk => by first | exact ⟨(.inr (hk.1)), hk.2⟩ | exact (.inr (hk)))⟩, ⟨by repeat (first | (with_reducible first | exact HB.out | apply below_alloc | apply pw_below_drewN | apply below_drew1) | exact HB.out)⟩⟩
      ·rw [if_neg c6] at H
       exact absurd H (by simp)
     ·rw [if_neg c5] at H
      exact absurd H (by simp)
    ·rw [if_neg c4] at H
     exact absurd H (by simp)
   ·rw [if_neg c3] at H
    have c3b0 : decide (x5_1 < (l0.length : Int)) = false := decide_eq_false c3
    clear c3
    obtain rfl := Option.some.inj H
    go_wp2
    go_ret
    exact ⟨_, by first | rfl | (simp [errW_none, errW_some] <;> rfl) | (simp [*, errW_none, errW_some] <;> rfl), by (with_reducible repeat (first | apply Kd.V_alloc | apply Kd.V_drewN | apply Kd.V_drew)); exact HO_1.out, by repeat (first | (with_reducible first | exact HB.out | apply below_alloc | apply pw_below_drewN | apply below_drew1) | exact HB.out)⟩
end
end Go.Proofs.Ytfbbfnadmnejeaa.X
namespace Go.Proofs.Ytfbbfnadmnejeaa.X
open Go.RowKit Go.Proofs.YtfbbfnadmnejeaaW.PrintWords Go.Proofs.YtfbbfnadmnejeaaW.PrintLast Go.Proofs.YtfbbfnadmnejeaaW.PrintMore
attribute [local go_sem] max2_int min2_int max_two min_two max_three min_three max_four min_four
set_option linter.all false
noncomputable section
def davitref20_Real.l0 : Nat → List (S34) → Int → Int → Option (Int)
 | 0, _, _, _ => none
 | k + 1, x0, x3, x4 => if x4 < (x0.length : Int) then (if 0 ≤ x4 then (if ((rd_T34 x0 x4).f0) = ((rd_T34 x0 x4).f1) then (davitref20_Real.l0 k x0 x3 (wrap64 (x4 + 1))) else (davitref20_Real.l0 k x0 (wrap64 (x3 + 1)) (wrap64 (x4 + 1)))) else (none)) else (some x3)
def davitref20_Real.f (k : Nat) (l0 : List (S34)) : Option (Int) := davitref20_Real.l0 k l0 0 0
theorem davitref20_Real.mono_l : ∀ k, (∀ y0 y1 y2, LeO (davitref20_Real.l0 k y0 y1 y2) (davitref20_Real.l0 (k + 1) y0 y1 y2))
 | 0 => fun _ _ _ r h => by simp [davitref20_Real.l0] at h
 | k + 1 => by
  have ih0 := davitref20_Real.mono_l k
  ·intro y0 y1 y2
   unfold davitref20_Real.l0
   repeat' first
   | (with_reducible exact ih0 _ _ _)
   | (with_reducible exact LeO.refl _)
   | (with_reducible exact LeO.none _)
   | (with_reducible refine LeO.ite ?_ ?_)
   | (with_reducible refine LeO.bind ?_ (fun _ => ?_))
   | exact ih0 _ _ _
   | exact LeO.none _
   | refine LeO.ite ?_ ?_
   | refine LeO.bind ?_ (fun _ => ?_)
theorem davitref20_Real.mono : ∀ a0 k, LeO (davitref20_Real.f k a0) (davitref20_Real.f (k + 1) a0) := by
 intro a0 k
 have ih0 := davitref20_Real.mono_l k
 unfold davitref20_Real.f
 repeat' first
   | (with_reducible exact ih0 _ _ _)
   | (with_reducible exact LeO.refl _)
   | (with_reducible exact LeO.none _)
   | (with_reducible refine LeO.ite ?_ ?_)
   | (with_reducible refine LeO.bind ?_ (fun _ => ?_))
   | exact ih0 _ _ _
   | exact LeO.none _
   | refine LeO.ite ?_ ?_
   | refine LeO.bind ?_ (fun _ => ?_)
set_option maxHeartbeats 8000000 in
set_option maxRecDepth 100000 in
theorem davitref20_Real.calls (k : Nat) (A0 : Option Addr) (c0 : Nat) (l0 : List (S34)) (r : Int) (w : World) (hr0 : Kd.C k34 w A0 l0.length l0) (hc0 : l0.length ≤ c0) (h : davitref20_Real.f k l0 = some r) :
  Calls Try.prog 15 #[.slice A0 l0.length c0] w fun e w' => e = .returned (.int .i64 r) ∧ Drawn0 w w' := by
 have HR0 := Aside0.mk hr0
 have HC0 := Aside0.mk hc0
 clear hr0 hc0
 have H : (davitref20_Real.l0 k l0 0 0) = some r := h
 clear h
 have H' := Aside0.mk H
 clear H
 go_enter Try.func15, Try.ntmps15
 go_wp2
 repeat (go_quiet (fail); try go_wp2)
 go_loopg [3, 4] k (fun kq v3 v4 w' => ∃ (x3_1 : Int) (x4_1 : Int), v3 = .int .i64 x3_1 ∧ v4 = .int .i64 x4_1 ∧ Aside0 (davitref20_Real.l0 kq l0 x3_1 x4_1 = some r) ∧ Aside0 (kq ≤ k) ∧ Drawn0 w w')
 case atStart => exact ⟨(0), (0), (by first | rfl | (simp; done) | (simp [*]; done)), (by first | rfl | (simp; done) | (simp [*]; done)), H', ⟨Nat.le_refl _⟩, by repeat (first | exact Drawn0.refl _ | apply Drawn0.step)⟩
 case round =>
  clear H'
  try clear c1
  obtain ⟨x3_1, x4_1, rfl, rfl, HA, HK1, ⟨m1, rfl⟩⟩ := hrel
  cases gk with
  | zero => exact absurd HA.out (by simp [davitref20_Real.l0])
  | succ k1 =>
   have H := HA.out
   clear HA
   simp only [davitref20_Real.l0] at H
   by_cases c2 : x4_1 < (l0.length : Int)
   ·rw [if_pos c2] at H
    have c2b0 : decide (x4_1 < (l0.length : Int)) = true := decide_eq_true c2
    clear c2
    by_cases c3 : 0 ≤ x4_1
    ·rw [if_pos c3] at H
     have c3b0 : decide (0 ≤ x4_1) = true := decide_eq_true c3
     clear c3
     by_cases c4 : ((rd_T34 l0 x4_1).f0) = ((rd_T34 l0 x4_1).f1)
     ·rw [if_pos c4] at H
      have c4b0 : (((rd_T34 l0 x4_1).f0) == ((rd_T34 l0 x4_1).f1)) = true := beq_iff_eq.mpr c4
      have c4b1 : (((rd_T34 l0 x4_1).f0) != ((rd_T34 l0 x4_1).f1)) = false := bne_eq_false_iff_eq.mpr c4
      clear c4
      have H' := Aside0.mk H
      clear H
      have p205 : 0 ≤ (x4_1 : Int) := of_decide_eq_true (by first | (with_reducible assumption) | assumption)
      have q205 : x4_1 < (l0.length : Int) := of_decide_eq_true (by first | (with_reducible assumption) | assumption)
      obtain ⟨ad205, e205, hx205_0, hx205_1⟩ := at_T34 HR0.out x4_1 p205 q205
      cases e205
      replace p205 := eq_true p205
      replace q205 := eq_true q205
      have p206 : 0 ≤ (x4_1 : Int) := of_decide_eq_true (by first | (with_reducible assumption) | assumption)
      have q206 : x4_1 < (l0.length : Int) := of_decide_eq_true (by first | (with_reducible assumption) | assumption)
      obtain ⟨ad206, e206, hx206_0, hx206_1⟩ := at_T34 HR0.out x4_1 p206 q206
      obtain rfl : ad205 = ad206 := (by injection e206)
      replace p206 := eq_true p206
      replace q206 := eq_true q206
      go_wp2
      repeat (go_quiet (fail); try go_wp2)
      go_roundg k1
      case measure => have := HK1.out; omega
      case rel => exact ⟨(x3_1), (wrap64 (x4_1 + 1)), (by first | rfl | (simp; done) | (simp [*]; done)), (by first | rfl | (simp; done) | (simp [*]; done)), H', ⟨by have := HK1.out; omega⟩, by repeat (first | exact Drawn0.refl _ | apply Drawn0.step)⟩
     ·rw [if_neg c4] at H
      have c4b0 : (((rd_T34 l0 x4_1).f0) == ((rd_T34 l0 x4_1).f1)) = false := beq_eq_false_iff_ne.mpr c4
      have c4b1 : (((rd_T34 l0 x4_1).f0) != ((rd_T34 l0 x4_1).f1)) = true := bne_iff_ne.mpr c4
      have H' := Aside0.mk H
      clear H
      have p205 : 0 ≤ (x4_1 : Int) := of_decide_eq_true (by first | (with_reducible assumption) | assumption)
      have q205 : x4_1 < (l0.length : Int) := of_decide_eq_true (by first | (with_reducible assumption) | assumption)
      obtain ⟨ad205, e205, hx205_0, hx205_1⟩ := at_T34 HR0.out x4_1 p205 q205
      cases e205
      replace p205 := eq_true p205
      replace q205 := eq_true q205
      have p206 : 0 ≤ (x4_1 : Int) := of_decide_eq_true (by first | (with_reducible assumption) | assumption)
      have q206 : x4_1 < (l0.length : Int) := of_decide_eq_true (by first | (with_reducible assumption) | assumption)
      obtain ⟨ad206, e206, hx206_0, hx206_1⟩ := at_T34 HR0.out x4_1 p206 q206
      obtain rfl : ad205 = ad206 := (by injection e206)
      replace p206 := eq_true p206
      replace q206 := eq_true q206
      go_wp2
      repeat (go_quiet (fail); try go_wp2)
      go_roundg k1
      case measure => have := HK1.out; omega
      case rel => exact ⟨(wrap64 (x3_1 + 1)), (wrap64 (x4_1 + 1)), (by first | rfl | (simp; done) | (simp [*]; done)), (by first | rfl | (simp; done) | (simp [*]; done)), H', ⟨by have := HK1.out; omega⟩, by repeat (first | exact Drawn0.refl _ | apply Drawn0.step)⟩
    ·rw [if_neg c3] at H
     exact absurd H (by simp)
   ·rw [if_neg c2] at H
    have c2b0 : decide (x4_1 < (l0.length : Int)) = false := decide_eq_false c2
    clear c2
    obtain rfl := Option.some.inj H
    go_wp2
    repeat (go_quiet (fail); try go_wp2)
    go_ret
    exact ⟨by first | rfl | (simp; done) | (simp [*]; done), by repeat (first | exact Drawn0.refl _ | apply Drawn0.step)⟩
end
end Go.Proofs.Ytfbbfnadmnejeaa.X
