/- Part 5 of the proof of the statement CallsGroups: the words of the walks, the walks through the functions that it reaches, and the plain laws of what they compute. -/
import Derived.Test.YtjjcnbfmmhokeaaMCallsGroups3
namespace Go.Proofs.Ytjjcnbfmmhokeaa.X
open Go.RowKit Go.Proofs.YtjjcnbfmmhokeaaW.PrintWords Go.Proofs.YtjjcnbfmmhokeaaW.PrintLast Go.Proofs.YtjjcnbfmmhokeaaW.PrintMore
attribute [local go_sem] max2_int min2_int max_two min_two max_three min_three max_four min_four
set_option linter.all false
noncomputable section
mutual
def davitref11_Calls.l0 : Nat → Int → Int → Int → Int → List (S44) → Option (Bool)
 | 0, _, _, _, _, _ => none
 | k + 1, x1, x5, x146000, x146001, x146002 => if x5 < (x146002.length : Int) then (davitref11_Calls.l1 k x1 x5 0 x146000 x146001 x146002) else (some false)
def davitref11_Calls.l1 : Nat → Int → Int → Int → Int → Int → List (S44) → Option (Bool)
 | 0, _, _, _, _, _, _ => none
 | k + 1, x1, x5, x6, x146000, x146001, x146002 => if 0 ≤ x5 then (if x5 < (x146002.length : Int) then (if x6 < (((rd_T44 x146002 x5).f2).length : Int) then (if 0 ≤ x6 then (if ((rd_T36 ((rd_T44 x146002 x5).f2) x6).f0) = 11 then (if ((rd_T36 ((rd_T44 x146002 x5).f2) x6).f5) = x1 then (some true) else (davitref11_Calls.l1 k x1 x5 (wrap64 (x6 + 1)) x146000 x146001 x146002)) else (davitref11_Calls.l1 k x1 x5 (wrap64 (x6 + 1)) x146000 x146001 x146002)) else (none)) else (if ((rd_T44 x146002 x5).f3.f0) = 4 then (if ((rd_T44 x146002 x5).f3.f3) = x1 then (some true) else (davitref11_Calls.l0 k x1 (wrap64 (x5 + 1)) x146000 x146001 x146002)) else (davitref11_Calls.l0 k x1 (wrap64 (x5 + 1)) x146000 x146001 x146002))) else (none)) else (none)
end
def davitref11_Calls.f (k : Nat) (a0_0 : Int) (a0_1 : Int) (l0_2 : List (S44)) (a1 : Int) : Option (Bool) := davitref11_Calls.l0 k a1 0 a0_0 a0_1 l0_2
theorem davitref11_Calls.mono_l : ∀ k, (∀ y0 y1 y2 y3 y4, LeO (davitref11_Calls.l0 k y0 y1 y2 y3 y4) (davitref11_Calls.l0 (k + 1) y0 y1 y2 y3 y4)) ∧ (∀ y0 y1 y2 y3 y4 y5, LeO (davitref11_Calls.l1 k y0 y1 y2 y3 y4 y5) (davitref11_Calls.l1 (k + 1) y0 y1 y2 y3 y4 y5))
 | 0 => ⟨fun _ _ _ _ _ r h => by simp [davitref11_Calls.l0] at h, fun _ _ _ _ _ _ r h => by simp [davitref11_Calls.l1] at h⟩
 | k + 1 => by
  obtain ⟨ih0, ih1⟩ := davitref11_Calls.mono_l k
  refine ⟨?_, ?_⟩
  ·intro y0 y1 y2 y3 y4
   unfold davitref11_Calls.l0
   repeat' first
   | (with_reducible exact ih0 _ _ _ _ _)
   | (with_reducible exact ih1 _ _ _ _ _ _)
   | (with_reducible exact LeO.refl _)
   | (with_reducible exact LeO.none _)
   | (with_reducible refine LeO.ite ?_ ?_)
   | (with_reducible refine LeO.bind ?_ (fun _ => ?_))
   | exact ih0 _ _ _ _ _
   | exact ih1 _ _ _ _ _ _
   | exact LeO.none _
   | refine LeO.ite ?_ ?_
   | refine LeO.bind ?_ (fun _ => ?_)
  ·intro y0 y1 y2 y3 y4 y5
   unfold davitref11_Calls.l1
   repeat' first
   | (with_reducible exact ih0 _ _ _ _ _)
   | (with_reducible exact ih1 _ _ _ _ _ _)
   | (with_reducible exact LeO.refl _)
   | (with_reducible exact LeO.none _)
   | (with_reducible refine LeO.ite ?_ ?_)
   | (with_reducible refine LeO.bind ?_ (fun _ => ?_))
   | exact ih0 _ _ _ _ _
   | exact ih1 _ _ _ _ _ _
   | exact LeO.none _
   | refine LeO.ite ?_ ?_
   | refine LeO.bind ?_ (fun _ => ?_)
theorem davitref11_Calls.mono : ∀ a0 a1 a2 a3 k, LeO (davitref11_Calls.f k a0 a1 a2 a3) (davitref11_Calls.f (k + 1) a0 a1 a2 a3) := by
 intro a0 a1 a2 a3 k
 obtain ⟨ih0, ih1⟩ := davitref11_Calls.mono_l k
 unfold davitref11_Calls.f
 repeat' first
   | (with_reducible exact ih0 _ _ _ _ _)
   | (with_reducible exact ih1 _ _ _ _ _ _)
   | (with_reducible exact LeO.refl _)
   | (with_reducible exact LeO.none _)
   | (with_reducible refine LeO.ite ?_ ?_)
   | (with_reducible refine LeO.bind ?_ (fun _ => ?_))
   | exact ih0 _ _ _ _ _
   | exact ih1 _ _ _ _ _ _
   | exact LeO.none _
   | refine LeO.ite ?_ ?_
   | refine LeO.bind ?_ (fun _ => ?_)
set_option maxHeartbeats 8000000 in
set_option maxRecDepth 100000 in
theorem davitref11_Calls.calls (k : Nat) (a0_0 : Int) (a0_1 : Int) (A0_2 : Option Addr) (c0_2 : Nat) (l0_2 : List (S44)) (a1 : Int) (r : Bool) (w : World) (hr0_2 : Kd.C k44 w A0_2 l0_2.length l0_2) (hc0_2 : l0_2.length ≤ c0_2) (h : davitref11_Calls.f k a0_0 a0_1 l0_2 a1 = some r) :
  Calls Try.prog 25 #[.agg #[.int .i64 a0_0, .int .i64 a0_1, .slice A0_2 l0_2.length c0_2], .int .i64 a1] w fun e w' => e = .returned (.bool r) ∧ Below w.heap.size w w' := by
 have hu33 := Try.underlying33
 have HR0_2 := Aside0.mk hr0_2
 have HC0_2 := Aside0.mk hc0_2
 clear hr0_2 hc0_2
 have HB := Aside0.mk (Below.refl w.heap.size w)
 have H : (davitref11_Calls.l0 k a1 0 a0_0 a0_1 l0_2) = some r := h
 clear h
 have H' := Aside0.mk H
 clear H
 go_enter Try.func25, Try.ntmps25
 go_wp2_with (first | ((with_reducible refine gate_dst (N := 2) rfl ?_); refine box_event ?hg (N := 2) ?hd (cs := #[.int .i64 a0_0, .int .i64 a0_1, .slice A0_2 l0_2.length c0_2]) (t := 33) ?hr ?_; (case hd => rfl); (case hg => rfl); (case hr => first | (go_simp; done) | (go_simp; rfl)); intro gb145 hg w3 hbox hb; have n0_ := Aside0.mk (below_step (by repeat (first | (with_reducible first | exact HB.out | apply below_alloc | apply pw_below_drewN | apply below_drew1) | exact HB.out)) hb); have n1_ := Aside0.mk (hbox); have n2_ := Aside0.mk ((by rw [hg]; exact (below_size (by repeat (first | (with_reducible first | exact HB.out | apply below_alloc | apply pw_below_drewN | apply below_drew1) | exact HB.out))) : w.heap.size ≤ gb145)); have n3_ := Aside0.mk ((by rw [hg]; exact (below_size (by repeat (first | (with_reducible first | exact HB.out | apply below_alloc | apply pw_below_drewN | apply below_drew1) | exact HB.out))) : w.heap.size ≤ gb145)); clear HB; have HB := n0_; have BK145 := n1_; have GW145 := n2_; have GE145 := n3_; clear n0_ n1_ n2_ n3_; clear hb hbox hg))
 go_loopg [5] k (fun kq v5 w' => ∃ (x5_1 : Int), v5 = .int .i64 x5_1 ∧ Aside0 (davitref11_Calls.l0 kq a1 x5_1 a0_0 a0_1 l0_2 = some r) ∧ Aside0 (kq ≤ k) ∧ Aside0 (w'.heap[gb145]? = some (.cells #[.int .i64 a0_0, .int .i64 a0_1, (.slice A0_2 l0_2.length c0_2)] 33 (0, 0))) ∧ Aside0 (Below w.heap.size w w'))
 case atStart => exact ⟨(0), (by first | rfl | (simp; done) | (simp [*]; done)), H', ⟨Nat.le_refl _⟩, ⟨by (with_reducible repeat (first | refine blk_drewN ?_ _ | refine blk_drew ?_ | refine blk_alloc ?_ _)); exact BK145.out⟩, ⟨by repeat (first | (with_reducible first | exact HB.out | apply below_alloc | apply pw_below_drewN | apply below_drew1 | refine below_set ?_ GE145.out) | exact HB.out)⟩⟩
 case round =>
  clear H'
  try clear c2
  try clear p2
  obtain ⟨x5_1, rfl, HA, HK1, BK145, HB⟩ := hrel
  cases gk with
  | zero => exact absurd HA.out (by simp [davitref11_Calls.l0])
  | succ k1 =>
   have H := HA.out
   clear HA
   simp only [davitref11_Calls.l0] at H
   by_cases c4 : x5_1 < (l0_2.length : Int)
   ·rw [if_pos c4] at H
    have c4b0 : decide (x5_1 < (l0_2.length : Int)) = true := decide_eq_true c4
    clear c4
    have H' := Aside0.mk H
    clear H
    have hcz5_0 : wr.cell? ⟨gb145, 0, none⟩ = some (.int .i64 a0_0) := (blk_cell BK145.out 0).trans rfl
    have hcz5_1 : wr.cell? ⟨gb145, 1, none⟩ = some (.int .i64 a0_1) := (blk_cell BK145.out 1).trans rfl
    have hcz5_2 : wr.cell? ⟨gb145, 2, none⟩ = some (.slice A0_2 l0_2.length c0_2) := (blk_cell BK145.out 2).trans rfl
    have hfz5_0 := blk_frozen BK145.out 0
    have hfz5_1 := blk_frozen BK145.out 1
    have hfz5_2 := blk_frozen BK145.out 2
    go_wp2
    go_loopg [6] k1 (fun kq v6 w' => ∃ (x6_2 : Int), v6 = .int .i64 x6_2 ∧ Aside0 (davitref11_Calls.l1 kq a1 x5_1 x6_2 a0_0 a0_1 l0_2 = some r) ∧ Aside0 (kq ≤ k1) ∧ Aside0 (w'.heap[gb145]? = some (.cells #[.int .i64 a0_0, .int .i64 a0_1, (.slice A0_2 l0_2.length c0_2)] 33 (0, 0))) ∧ Aside0 (Below w.heap.size w w'))
    case atStart => exact ⟨(0), (by first | rfl | (simp; done) | (simp [*]; done)), H', ⟨Nat.le_refl _⟩, ⟨by (with_reducible repeat (first | refine blk_drewN ?_ _ | refine blk_drew ?_ | refine blk_alloc ?_ _)); exact BK145.out⟩, ⟨by repeat (first | (with_reducible first | exact HB.out | apply below_alloc | apply pw_below_drewN | apply below_drew1 | refine below_set ?_ GE145.out) | exact HB.out)⟩⟩
    case round =>
     clear H'
     try clear c2
     try clear p2
     try clear c4
     try clear c4b0
     try clear hcz5_0
     try clear hcz5_1
     try clear hcz5_2
     try clear hfz5_0
     try clear hfz5_1
     try clear hfz5_2
     try clear p2
     obtain ⟨x6_2, rfl, HA, HK2, BK145, HB⟩ := hrel
     cases gk with
     | zero => exact absurd HA.out (by simp [davitref11_Calls.l1])
     | succ k2 =>
      have H := HA.out
      clear HA
      simp only [davitref11_Calls.l1] at H
      by_cases c6 : 0 ≤ x5_1
      ·rw [if_pos c6] at H
       have c6b0 : decide (0 ≤ x5_1) = true := decide_eq_true c6
       clear c6
       by_cases c7 : x5_1 < (l0_2.length : Int)
       ·rw [if_pos c7] at H
        have c7b0 : decide (x5_1 < (l0_2.length : Int)) = true := decide_eq_true c7
        clear c7
        by_cases c8 : x6_2 < (((rd_T44 l0_2 x5_1).f2).length : Int)
        ·rw [if_pos c8] at H
         have c8b0 : decide (x6_2 < (((rd_T44 l0_2 x5_1).f2).length : Int)) = true := decide_eq_true c8
         clear c8
         by_cases c9 : 0 ≤ x6_2
         ·rw [if_pos c9] at H
          have c9b0 : decide (0 ≤ x6_2) = true := decide_eq_true c9
          clear c9
          by_cases c10 : ((rd_T36 ((rd_T44 l0_2 x5_1).f2) x6_2).f0) = 11
          ·rw [if_pos c10] at H
           have c10b0 : (((rd_T36 ((rd_T44 l0_2 x5_1).f2) x6_2).f0) == 11) = true := beq_iff_eq.mpr c10
           have c10b1 : (((rd_T36 ((rd_T44 l0_2 x5_1).f2) x6_2).f0) != 11) = false := bne_eq_false_iff_eq.mpr c10
           clear c10
           by_cases c11 : ((rd_T36 ((rd_T44 l0_2 x5_1).f2) x6_2).f5) = a1
           ·rw [if_pos c11] at H
            have c11b0 : (((rd_T36 ((rd_T44 l0_2 x5_1).f2) x6_2).f5) == a1) = true := beq_iff_eq.mpr c11
            have c11b1 : (((rd_T36 ((rd_T44 l0_2 x5_1).f2) x6_2).f5) != a1) = false := bne_eq_false_iff_eq.mpr c11
            clear c11
            obtain rfl := Option.some.inj H
            have hcz12_0 : wr.cell? ⟨gb145, 0, none⟩ = some (.int .i64 a0_0) := (blk_cell BK145.out 0).trans rfl
            have hcz12_1 : wr.cell? ⟨gb145, 1, none⟩ = some (.int .i64 a0_1) := (blk_cell BK145.out 1).trans rfl
            have hcz12_2 : wr.cell? ⟨gb145, 2, none⟩ = some (.slice A0_2 l0_2.length c0_2) := (blk_cell BK145.out 2).trans rfl
            have hfz12_0 := blk_frozen BK145.out 0
            have hfz12_1 := blk_frozen BK145.out 1
            have hfz12_2 := blk_frozen BK145.out 2
            have p146 : 0 ≤ (x5_1 : Int) := of_decide_eq_true (by first | (with_reducible assumption) | assumption)
            have q146 : x5_1 < (l0_2.length : Int) := of_decide_eq_true (by first | (with_reducible assumption) | assumption)
            obtain ⟨ad146, A146_2, c146_2, A146_5, c146_5, A146_10, c146_10, e146, hx146_0, hx146_1, hx146_2, hx146_3, hx146_4, hx146_5, hx146_6, hx146_7, hx146_8, hx146_9, hx146_10, hx146_11, hx146_12, hx146_13, hl146_2, hi146_2, hl146_5, hi146_5, hl146_10, hi146_10⟩ := at_T44 HR0_2.out x5_1 p146 q146
            cases e146
            replace hx146_0 := (HB.out.cell (World.block_lt_of_cell? w _ hx146_0)).trans hx146_0
            replace hx146_1 := (HB.out.cell (World.block_lt_of_cell? w _ hx146_1)).trans hx146_1
            replace hx146_2 := (HB.out.cell (World.block_lt_of_cell? w _ hx146_2)).trans hx146_2
            replace hx146_3 := (HB.out.cell (World.block_lt_of_cell? w _ hx146_3)).trans hx146_3
            replace hx146_4 := (HB.out.cell (World.block_lt_of_cell? w _ hx146_4)).trans hx146_4
            replace hx146_5 := (HB.out.cell (World.block_lt_of_cell? w _ hx146_5)).trans hx146_5
            replace hx146_6 := (HB.out.cell (World.block_lt_of_cell? w _ hx146_6)).trans hx146_6
            replace hx146_7 := (HB.out.cell (World.block_lt_of_cell? w _ hx146_7)).trans hx146_7
            replace hx146_8 := (HB.out.cell (World.block_lt_of_cell? w _ hx146_8)).trans hx146_8
            replace hx146_9 := (HB.out.cell (World.block_lt_of_cell? w _ hx146_9)).trans hx146_9
            replace hx146_10 := (HB.out.cell (World.block_lt_of_cell? w _ hx146_10)).trans hx146_10
            replace hx146_11 := (HB.out.cell (World.block_lt_of_cell? w _ hx146_11)).trans hx146_11
            replace hx146_12 := (HB.out.cell (World.block_lt_of_cell? w _ hx146_12)).trans hx146_12
            replace hx146_13 := (HB.out.cell (World.block_lt_of_cell? w _ hx146_13)).trans hx146_13
            have HR146_2 := Aside0.mk hi146_2
            have HC146_2 := Aside0.mk hl146_2
            clear hi146_2 hl146_2
            have HR146_5 := Aside0.mk hi146_5
            have HC146_5 := Aside0.mk hl146_5
            clear hi146_5 hl146_5
            have HR146_10 := Aside0.mk hi146_10
            have HC146_10 := Aside0.mk hl146_10
            clear hi146_10 hl146_10
            replace p146 := eq_true p146
            replace q146 := eq_true q146
            have p147 : 0 ≤ (x5_1 : Int) := of_decide_eq_true (by first | (with_reducible assumption) | assumption)
            have q147 : x5_1 < (l0_2.length : Int) := of_decide_eq_true (by first | (with_reducible assumption) | assumption)
            obtain ⟨ad147, A147_2, c147_2, A147_5, c147_5, A147_10, c147_10, e147, hx147_0, hx147_1, hx147_2, hx147_3, hx147_4, hx147_5, hx147_6, hx147_7, hx147_8, hx147_9, hx147_10, hx147_11, hx147_12, hx147_13, hl147_2, hi147_2, hl147_5, hi147_5, hl147_10, hi147_10⟩ := at_T44 HR0_2.out x5_1 p147 q147
            obtain rfl : ad146 = ad147 := (by injection e147)
            replace hx147_0 := (HB.out.cell (World.block_lt_of_cell? w _ hx147_0)).trans hx147_0
            replace hx147_1 := (HB.out.cell (World.block_lt_of_cell? w _ hx147_1)).trans hx147_1
            replace hx147_2 := (HB.out.cell (World.block_lt_of_cell? w _ hx147_2)).trans hx147_2
            replace hx147_3 := (HB.out.cell (World.block_lt_of_cell? w _ hx147_3)).trans hx147_3
            replace hx147_4 := (HB.out.cell (World.block_lt_of_cell? w _ hx147_4)).trans hx147_4
            replace hx147_5 := (HB.out.cell (World.block_lt_of_cell? w _ hx147_5)).trans hx147_5
            replace hx147_6 := (HB.out.cell (World.block_lt_of_cell? w _ hx147_6)).trans hx147_6
            replace hx147_7 := (HB.out.cell (World.block_lt_of_cell? w _ hx147_7)).trans hx147_7
            replace hx147_8 := (HB.out.cell (World.block_lt_of_cell? w _ hx147_8)).trans hx147_8
            replace hx147_9 := (HB.out.cell (World.block_lt_of_cell? w _ hx147_9)).trans hx147_9
            replace hx147_10 := (HB.out.cell (World.block_lt_of_cell? w _ hx147_10)).trans hx147_10
            replace hx147_11 := (HB.out.cell (World.block_lt_of_cell? w _ hx147_11)).trans hx147_11
            replace hx147_12 := (HB.out.cell (World.block_lt_of_cell? w _ hx147_12)).trans hx147_12
            replace hx147_13 := (HB.out.cell (World.block_lt_of_cell? w _ hx147_13)).trans hx147_13
            have HR147_2 := Aside0.mk hi147_2
            have HC147_2 := Aside0.mk hl147_2
            clear hi147_2 hl147_2
            have HR147_5 := Aside0.mk hi147_5
            have HC147_5 := Aside0.mk hl147_5
            clear hi147_5 hl147_5
            have HR147_10 := Aside0.mk hi147_10
            have HC147_10 := Aside0.mk hl147_10
            clear hi147_10 hl147_10
            replace p147 := eq_true p147
            replace q147 := eq_true q147
            have ea_ := Option.some.inj (hx146_2.symm.trans hx147_2)
            injection ea_ with ea_ en_ ec_
            subst ea_
            subst ec_
            clear en_
            have ea_ := Option.some.inj (hx146_5.symm.trans hx147_5)
            injection ea_ with ea_ en_ ec_
            subst ea_
            subst ec_
            clear en_
            have ea_ := Option.some.inj (hx146_10.symm.trans hx147_10)
            injection ea_ with ea_ en_ ec_
            subst ea_
            subst ec_
            clear en_
            have p148 : 0 ≤ (x6_2 : Int) := of_decide_eq_true (by first | (with_reducible assumption) | assumption)
            have q148 : x6_2 < (((rd_T44 l0_2 x5_1).f2).length : Int) := of_decide_eq_true (by first | (with_reducible assumption) | assumption)
            obtain ⟨ad148, A148_6, c148_6, e148, hx148_0, hx148_1, hx148_2, hx148_3, hx148_4, hx148_5, hx148_6, hl148_6, hi148_6⟩ := at_T36 HR147_5.out x6_2 p148 q148
            cases e148
            replace hx148_0 := (HB.out.cell (World.block_lt_of_cell? w _ hx148_0)).trans hx148_0
            replace hx148_1 := (HB.out.cell (World.block_lt_of_cell? w _ hx148_1)).trans hx148_1
            replace hx148_2 := (HB.out.cell (World.block_lt_of_cell? w _ hx148_2)).trans hx148_2
            replace hx148_3 := (HB.out.cell (World.block_lt_of_cell? w _ hx148_3)).trans hx148_3
            replace hx148_4 := (HB.out.cell (World.block_lt_of_cell? w _ hx148_4)).trans hx148_4
            replace hx148_5 := (HB.out.cell (World.block_lt_of_cell? w _ hx148_5)).trans hx148_5
            replace hx148_6 := (HB.out.cell (World.block_lt_of_cell? w _ hx148_6)).trans hx148_6
            have HR148_6 := Aside0.mk hi148_6
            have HC148_6 := Aside0.mk hl148_6
            clear hi148_6 hl148_6
            replace p148 := eq_true p148
            replace q148 := eq_true q148
            have p149 : 0 ≤ (x5_1 : Int) := of_decide_eq_true (by first | (with_reducible assumption) | assumption)
            have q149 : x5_1 < (l0_2.length : Int) := of_decide_eq_true (by first | (with_reducible assumption) | assumption)
            obtain ⟨ad149, A149_2, c149_2, A149_5, c149_5, A149_10, c149_10, e149, hx149_0, hx149_1, hx149_2, hx149_3, hx149_4, hx149_5, hx149_6, hx149_7, hx149_8, hx149_9, hx149_10, hx149_11, hx149_12, hx149_13, hl149_2, hi149_2, hl149_5, hi149_5, hl149_10, hi149_10⟩ := at_T44 HR0_2.out x5_1 p149 q149
            obtain rfl : ad146 = ad149 := (by injection e149)
            replace hx149_0 := (HB.out.cell (World.block_lt_of_cell? w _ hx149_0)).trans hx149_0
            replace hx149_1 := (HB.out.cell (World.block_lt_of_cell? w _ hx149_1)).trans hx149_1
            replace hx149_2 := (HB.out.cell (World.block_lt_of_cell? w _ hx149_2)).trans hx149_2
            replace hx149_3 := (HB.out.cell (World.block_lt_of_cell? w _ hx149_3)).trans hx149_3
            replace hx149_4 := (HB.out.cell (World.block_lt_of_cell? w _ hx149_4)).trans hx149_4
            replace hx149_5 := (HB.out.cell (World.block_lt_of_cell? w _ hx149_5)).trans hx149_5
            replace hx149_6 := (HB.out.cell (World.block_lt_of_cell? w _ hx149_6)).trans hx149_6
            replace hx149_7 := (HB.out.cell (World.block_lt_of_cell? w _ hx149_7)).trans hx149_7
            replace hx149_8 := (HB.out.cell (World.block_lt_of_cell? w _ hx149_8)).trans hx149_8
            replace hx149_9 := (HB.out.cell (World.block_lt_of_cell? w _ hx149_9)).trans hx149_9
            replace hx149_10 := (HB.out.cell (World.block_lt_of_cell? w _ hx149_10)).trans hx149_10
            replace hx149_11 := (HB.out.cell (World.block_lt_of_cell? w _ hx149_11)).trans hx149_11
            replace hx149_12 := (HB.out.cell (World.block_lt_of_cell? w _ hx149_12)).trans hx149_12
            replace hx149_13 := (HB.out.cell (World.block_lt_of_cell? w _ hx149_13)).trans hx149_13
            have HR149_2 := Aside0.mk hi149_2
            have HC149_2 := Aside0.mk hl149_2
            clear hi149_2 hl149_2
            have HR149_5 := Aside0.mk hi149_5
            have HC149_5 := Aside0.mk hl149_5
            clear hi149_5 hl149_5
            have HR149_10 := Aside0.mk hi149_10
            have HC149_10 := Aside0.mk hl149_10
            clear hi149_10 hl149_10
            replace p149 := eq_true p149
            replace q149 := eq_true q149
            have ea_ := Option.some.inj (hx146_2.symm.trans hx149_2)
            injection ea_ with ea_ en_ ec_
            subst ea_
            subst ec_
            clear en_
            have ea_ := Option.some.inj (hx146_5.symm.trans hx149_5)
            injection ea_ with ea_ en_ ec_
            subst ea_
            subst ec_
            clear en_
            have ea_ := Option.some.inj (hx146_10.symm.trans hx149_10)
            injection ea_ with ea_ en_ ec_
            subst ea_
            subst ec_
            clear en_
            have p150 : 0 ≤ (x6_2 : Int) := of_decide_eq_true (by first | (with_reducible assumption) | assumption)
            have q150 : x6_2 < (((rd_T44 l0_2 x5_1).f2).length : Int) := of_decide_eq_true (by first | (with_reducible assumption) | assumption)
            obtain ⟨ad150, A150_6, c150_6, e150, hx150_0, hx150_1, hx150_2, hx150_3, hx150_4, hx150_5, hx150_6, hl150_6, hi150_6⟩ := at_T36 HR149_5.out x6_2 p150 q150
            cases e150
            replace hx150_0 := (HB.out.cell (World.block_lt_of_cell? w _ hx150_0)).trans hx150_0
            replace hx150_1 := (HB.out.cell (World.block_lt_of_cell? w _ hx150_1)).trans hx150_1
            replace hx150_2 := (HB.out.cell (World.block_lt_of_cell? w _ hx150_2)).trans hx150_2
            replace hx150_3 := (HB.out.cell (World.block_lt_of_cell? w _ hx150_3)).trans hx150_3
            replace hx150_4 := (HB.out.cell (World.block_lt_of_cell? w _ hx150_4)).trans hx150_4
            replace hx150_5 := (HB.out.cell (World.block_lt_of_cell? w _ hx150_5)).trans hx150_5
            replace hx150_6 := (HB.out.cell (World.block_lt_of_cell? w _ hx150_6)).trans hx150_6
            have HR150_6 := Aside0.mk hi150_6
            have HC150_6 := Aside0.mk hl150_6
            clear hi150_6 hl150_6
            replace p150 := eq_true p150
            replace q150 := eq_true q150
            go_wp2
            go_ret
            exact ⟨by first | rfl | (simp [errW_none, errW_some] <;> rfl) | (simp [*, errW_none, errW_some] <;> rfl), by repeat (first | (with_reducible first | exact HB.out | apply below_alloc | apply pw_below_drewN | apply below_drew1 | refine below_set ?_ GE145.out) | exact HB.out)⟩
           ·rw [if_neg c11] at H
            have c11b0 : (((rd_T36 ((rd_T44 l0_2 x5_1).f2) x6_2).f5) == a1) = false := beq_eq_false_iff_ne.mpr c11
            have c11b1 : (((rd_T36 ((rd_T44 l0_2 x5_1).f2) x6_2).f5) != a1) = true := bne_iff_ne.mpr c11
            have H' := Aside0.mk H
            clear H
            have hcz13_0 : wr.cell? ⟨gb145, 0, none⟩ = some (.int .i64 a0_0) := (blk_cell BK145.out 0).trans rfl
            have hcz13_1 : wr.cell? ⟨gb145, 1, none⟩ = some (.int .i64 a0_1) := (blk_cell BK145.out 1).trans rfl
            have hcz13_2 : wr.cell? ⟨gb145, 2, none⟩ = some (.slice A0_2 l0_2.length c0_2) := (blk_cell BK145.out 2).trans rfl
            have hfz13_0 := blk_frozen BK145.out 0
            have hfz13_1 := blk_frozen BK145.out 1
            have hfz13_2 := blk_frozen BK145.out 2
            have p146 : 0 ≤ (x5_1 : Int) := of_decide_eq_true (by first | (with_reducible assumption) | assumption)
            have q146 : x5_1 < (l0_2.length : Int) := of_decide_eq_true (by first | (with_reducible assumption) | assumption)
            obtain ⟨ad146, A146_2, c146_2, A146_5, c146_5, A146_10, c146_10, e146, hx146_0, hx146_1, hx146_2, hx146_3, hx146_4, hx146_5, hx146_6, hx146_7, hx146_8, hx146_9, hx146_10, hx146_11, hx146_12, hx146_13, hl146_2, hi146_2, hl146_5, hi146_5, hl146_10, hi146_10⟩ := at_T44 HR0_2.out x5_1 p146 q146
            cases e146
            replace hx146_0 := (HB.out.cell (World.block_lt_of_cell? w _ hx146_0)).trans hx146_0
            replace hx146_1 := (HB.out.cell (World.block_lt_of_cell? w _ hx146_1)).trans hx146_1
            replace hx146_2 := (HB.out.cell (World.block_lt_of_cell? w _ hx146_2)).trans hx146_2
            replace hx146_3 := (HB.out.cell (World.block_lt_of_cell? w _ hx146_3)).trans hx146_3
            replace hx146_4 := (HB.out.cell (World.block_lt_of_cell? w _ hx146_4)).trans hx146_4
            replace hx146_5 := (HB.out.cell (World.block_lt_of_cell? w _ hx146_5)).trans hx146_5
            replace hx146_6 := (HB.out.cell (World.block_lt_of_cell? w _ hx146_6)).trans hx146_6
            replace hx146_7 := (HB.out.cell (World.block_lt_of_cell? w _ hx146_7)).trans hx146_7
            replace hx146_8 := (HB.out.cell (World.block_lt_of_cell? w _ hx146_8)).trans hx146_8
            replace hx146_9 := (HB.out.cell (World.block_lt_of_cell? w _ hx146_9)).trans hx146_9
            replace hx146_10 := (HB.out.cell (World.block_lt_of_cell? w _ hx146_10)).trans hx146_10
            replace hx146_11 := (HB.out.cell (World.block_lt_of_cell? w _ hx146_11)).trans hx146_11
            replace hx146_12 := (HB.out.cell (World.block_lt_of_cell? w _ hx146_12)).trans hx146_12
            replace hx146_13 := (HB.out.cell (World.block_lt_of_cell? w _ hx146_13)).trans hx146_13
            have HR146_2 := Aside0.mk hi146_2
            have HC146_2 := Aside0.mk hl146_2
            clear hi146_2 hl146_2
            have HR146_5 := Aside0.mk hi146_5
            have HC146_5 := Aside0.mk hl146_5
            clear hi146_5 hl146_5
            have HR146_10 := Aside0.mk hi146_10
            have HC146_10 := Aside0.mk hl146_10
            clear hi146_10 hl146_10
            replace p146 := eq_true p146
            replace q146 := eq_true q146
            have p147 : 0 ≤ (x5_1 : Int) := of_decide_eq_true (by first | (with_reducible assumption) | assumption)
            have q147 : x5_1 < (l0_2.length : Int) := of_decide_eq_true (by first | (with_reducible assumption) | assumption)
            obtain ⟨ad147, A147_2, c147_2, A147_5, c147_5, A147_10, c147_10, e147, hx147_0, hx147_1, hx147_2, hx147_3, hx147_4, hx147_5, hx147_6, hx147_7, hx147_8, hx147_9, hx147_10, hx147_11, hx147_12, hx147_13, hl147_2, hi147_2, hl147_5, hi147_5, hl147_10, hi147_10⟩ := at_T44 HR0_2.out x5_1 p147 q147
            obtain rfl : ad146 = ad147 := (by injection e147)
            replace hx147_0 := (HB.out.cell (World.block_lt_of_cell? w _ hx147_0)).trans hx147_0
            replace hx147_1 := (HB.out.cell (World.block_lt_of_cell? w _ hx147_1)).trans hx147_1
            replace hx147_2 := (HB.out.cell (World.block_lt_of_cell? w _ hx147_2)).trans hx147_2
            replace hx147_3 := (HB.out.cell (World.block_lt_of_cell? w _ hx147_3)).trans hx147_3
            replace hx147_4 := (HB.out.cell (World.block_lt_of_cell? w _ hx147_4)).trans hx147_4
            replace hx147_5 := (HB.out.cell (World.block_lt_of_cell? w _ hx147_5)).trans hx147_5
            replace hx147_6 := (HB.out.cell (World.block_lt_of_cell? w _ hx147_6)).trans hx147_6
            replace hx147_7 := (HB.out.cell (World.block_lt_of_cell? w _ hx147_7)).trans hx147_7
            replace hx147_8 := (HB.out.cell (World.block_lt_of_cell? w _ hx147_8)).trans hx147_8
            replace hx147_9 := (HB.out.cell (World.block_lt_of_cell? w _ hx147_9)).trans hx147_9
            replace hx147_10 := (HB.out.cell (World.block_lt_of_cell? w _ hx147_10)).trans hx147_10
            replace hx147_11 := (HB.out.cell (World.block_lt_of_cell? w _ hx147_11)).trans hx147_11
            replace hx147_12 := (HB.out.cell (World.block_lt_of_cell? w _ hx147_12)).trans hx147_12
            replace hx147_13 := (HB.out.cell (World.block_lt_of_cell? w _ hx147_13)).trans hx147_13
            have HR147_2 := Aside0.mk hi147_2
            have HC147_2 := Aside0.mk hl147_2
            clear hi147_2 hl147_2
            have HR147_5 := Aside0.mk hi147_5
            have HC147_5 := Aside0.mk hl147_5
            clear hi147_5 hl147_5
            have HR147_10 := Aside0.mk hi147_10
            have HC147_10 := Aside0.mk hl147_10
            clear hi147_10 hl147_10
            replace p147 := eq_true p147
            replace q147 := eq_true q147
            have ea_ := Option.some.inj (hx146_2.symm.trans hx147_2)
            injection ea_ with ea_ en_ ec_
            subst ea_
            subst ec_
            clear en_
            have ea_ := Option.some.inj (hx146_5.symm.trans hx147_5)
            injection ea_ with ea_ en_ ec_
            subst ea_
            subst ec_
            clear en_
            have ea_ := Option.some.inj (hx146_10.symm.trans hx147_10)
            injection ea_ with ea_ en_ ec_
            subst ea_
            subst ec_
            clear en_
            have p148 : 0 ≤ (x6_2 : Int) := of_decide_eq_true (by first | (with_reducible assumption) | assumption)
            have q148 : x6_2 < (((rd_T44 l0_2 x5_1).f2).length : Int) := of_decide_eq_true (by first | (with_reducible assumption) | assumption)
            obtain ⟨ad148, A148_6, c148_6, e148, hx148_0, hx148_1, hx148_2, hx148_3, hx148_4, hx148_5, hx148_6, hl148_6, hi148_6⟩ := at_T36 HR147_5.out x6_2 p148 q148
            cases e148
            replace hx148_0 := (HB.out.cell (World.block_lt_of_cell? w _ hx148_0)).trans hx148_0
            replace hx148_1 := (HB.out.cell (World.block_lt_of_cell? w _ hx148_1)).trans hx148_1
            replace hx148_2 := (HB.out.cell (World.block_lt_of_cell? w _ hx148_2)).trans hx148_2
            replace hx148_3 := (HB.out.cell (World.block_lt_of_cell? w _ hx148_3)).trans hx148_3
            replace hx148_4 := (HB.out.cell (World.block_lt_of_cell? w _ hx148_4)).trans hx148_4
            replace hx148_5 := (HB.out.cell (World.block_lt_of_cell? w _ hx148_5)).trans hx148_5
            replace hx148_6 := (HB.out.cell (World.block_lt_of_cell? w _ hx148_6)).trans hx148_6
            have HR148_6 := Aside0.mk hi148_6
            have HC148_6 := Aside0.mk hl148_6
            clear hi148_6 hl148_6
            replace p148 := eq_true p148
            replace q148 := eq_true q148
            have p149 : 0 ≤ (x5_1 : Int) := of_decide_eq_true (by first | (with_reducible assumption) | assumption)
            have q149 : x5_1 < (l0_2.length : Int) := of_decide_eq_true (by first | (with_reducible assumption) | assumption)
            obtain ⟨ad149, A149_2, c149_2, A149_5, c149_5, A149_10, c149_10, e149, hx149_0, hx149_1, hx149_2, hx149_3, hx149_4, hx149_5, hx149_6, hx149_7, hx149_8, hx149_9, hx149_10, hx149_11, hx149_12, hx149_13, hl149_2, hi149_2, hl149_5, hi149_5, hl149_10, hi149_10⟩ := at_T44 HR0_2.out x5_1 p149 q149
            obtain rfl : ad146 = ad149 := (by injection e149)
            replace hx149_0 := (HB.out.cell (World.block_lt_of_cell? w _ hx149_0)).trans hx149_0
            replace hx149_1 := (HB.out.cell (World.block_lt_of_cell? w _ hx149_1)).trans hx149_1
            replace hx149_2 := (HB.out.cell (World.block_lt_of_cell? w _ hx149_2)).trans hx149_2
            replace hx149_3 := (HB.out.cell (World.block_lt_of_cell? w _ hx149_3)).trans hx149_3
            replace hx149_4 := (HB.out.cell (World.block_lt_of_cell? w _ hx149_4)).trans hx149_4
            replace hx149_5 := (HB.out.cell (World.block_lt_of_cell? w _ hx149_5)).trans hx149_5
            replace hx149_6 := (HB.out.cell (World.block_lt_of_cell? w _ hx149_6)).trans hx149_6
            replace hx149_7 := (HB.out.cell (World.block_lt_of_cell? w _ hx149_7)).trans hx149_7
            replace hx149_8 := (HB.out.cell (World.block_lt_of_cell? w _ hx149_8)).trans hx149_8
            replace hx149_9 := (HB.out.cell (World.block_lt_of_cell? w _ hx149_9)).trans hx149_9
            replace hx149_10 := (HB.out.cell (World.block_lt_of_cell? w _ hx149_10)).trans hx149_10
            replace hx149_11 := (HB.out.cell (World.block_lt_of_cell? w _ hx149_11)).trans hx149_11
            replace hx149_12 := (HB.out.cell (World.block_lt_of_cell? w _ hx149_12)).trans hx149_12
            replace hx149_13 := (HB.out.cell (World.block_lt_of_cell? w _ hx149_13)).trans hx149_13
            have HR149_2 := Aside0.mk hi149_2
            have HC149_2 := Aside0.mk hl149_2
            clear hi149_2 hl149_2
            have HR149_5 := Aside0.mk hi149_5
            have HC149_5 := Aside0.mk hl149_5
            clear hi149_5 hl149_5
            have HR149_10 := Aside0.mk hi149_10
            have HC149_10 := Aside0.mk hl149_10
            clear hi149_10 hl149_10
            replace p149 := eq_true p149
            replace q149 := eq_true q149
            have ea_ := Option.some.inj (hx146_2.symm.trans hx149_2)
            injection ea_ with ea_ en_ ec_
            subst ea_
            subst ec_
            clear en_
            have ea_ := Option.some.inj (hx146_5.symm.trans hx149_5)
            injection ea_ with ea_ en_ ec_
            subst ea_
            subst ec_
            clear en_
            have ea_ := Option.some.inj (hx146_10.symm.trans hx149_10)
            injection ea_ with ea_ en_ ec_
            subst ea_
            subst ec_
            clear en_
            have p150 : 0 ≤ (x6_2 : Int) := of_decide_eq_true (by first | (with_reducible assumption) | assumption)
            have q150 : x6_2 < (((rd_T44 l0_2 x5_1).f2).length : Int) := of_decide_eq_true (by first | (with_reducible assumption) | assumption)
            obtain ⟨ad150, A150_6, c150_6, e150, hx150_0, hx150_1, hx150_2, hx150_3, hx150_4, hx150_5, hx150_6, hl150_6, hi150_6⟩ := at_T36 HR149_5.out x6_2 p150 q150
            cases e150
            replace hx150_0 := (HB.out.cell (World.block_lt_of_cell? w _ hx150_0)).trans hx150_0
            replace hx150_1 := (HB.out.cell (World.block_lt_of_cell? w _ hx150_1)).trans hx150_1
            replace hx150_2 := (HB.out.cell (World.block_lt_of_cell? w _ hx150_2)).trans hx150_2
            replace hx150_3 := (HB.out.cell (World.block_lt_of_cell? w _ hx150_3)).trans hx150_3
            replace hx150_4 := (HB.out.cell (World.block_lt_of_cell? w _ hx150_4)).trans hx150_4
            replace hx150_5 := (HB.out.cell (World.block_lt_of_cell? w _ hx150_5)).trans hx150_5
            replace hx150_6 := (HB.out.cell (World.block_lt_of_cell? w _ hx150_6)).trans hx150_6
            have HR150_6 := Aside0.mk hi150_6
            have HC150_6 := Aside0.mk hl150_6
            clear hi150_6 hl150_6
            replace p150 := eq_true p150
            replace q150 := eq_true q150
            go_wp2
            go_roundg k2
            case measure => have := HK1.out; have := HK2.out; omega
            case rel => exact ⟨(wrap64 (x6_2 + 1)), (by first | rfl | (simp; done) | (simp [*]; done)), H', ⟨by have := HK1.out; have := HK2.out; omega⟩, ⟨by (with_reducible repeat (first | refine blk_drewN ?_ _ | refine blk_drew ?_ | refine blk_alloc ?_ _)); exact BK145.out⟩, ⟨by repeat (first | (with_reducible first | exact HB.out | apply below_alloc | apply pw_below_drewN | apply below_drew1 | refine below_set ?_ GE145.out) | exact HB.out)⟩⟩
          ·rw [if_neg c10] at H
           have c10b0 : (((rd_T36 ((rd_T44 l0_2 x5_1).f2) x6_2).f0) == 11) = false := beq_eq_false_iff_ne.mpr c10
           have c10b1 : (((rd_T36 ((rd_T44 l0_2 x5_1).f2) x6_2).f0) != 11) = true := bne_iff_ne.mpr c10
           have H' := Aside0.mk H
           clear H
           have hcz14_0 : wr.cell? ⟨gb145, 0, none⟩ = some (.int .i64 a0_0) := (blk_cell BK145.out 0).trans rfl
           have hcz14_1 : wr.cell? ⟨gb145, 1, none⟩ = some (.int .i64 a0_1) := (blk_cell BK145.out 1).trans rfl
           have hcz14_2 : wr.cell? ⟨gb145, 2, none⟩ = some (.slice A0_2 l0_2.length c0_2) := (blk_cell BK145.out 2).trans rfl
           have hfz14_0 := blk_frozen BK145.out 0
           have hfz14_1 := blk_frozen BK145.out 1
           have hfz14_2 := blk_frozen BK145.out 2
           have p146 : 0 ≤ (x5_1 : Int) := of_decide_eq_true (by first | (with_reducible assumption) | assumption)
           have q146 : x5_1 < (l0_2.length : Int) := of_decide_eq_true (by first | (with_reducible assumption) | assumption)
           obtain ⟨ad146, A146_2, c146_2, A146_5, c146_5, A146_10, c146_10, e146, hx146_0, hx146_1, hx146_2, hx146_3, hx146_4, hx146_5, hx146_6, hx146_7, hx146_8, hx146_9, hx146_10, hx146_11, hx146_12, hx146_13, hl146_2, hi146_2, hl146_5, hi146_5, hl146_10, hi146_10⟩ := at_T44 HR0_2.out x5_1 p146 q146
           cases e146
           replace hx146_0 := (HB.out.cell (World.block_lt_of_cell? w _ hx146_0)).trans hx146_0
           replace hx146_1 := (HB.out.cell (World.block_lt_of_cell? w _ hx146_1)).trans hx146_1
           replace hx146_2 := (HB.out.cell (World.block_lt_of_cell? w _ hx146_2)).trans hx146_2
           replace hx146_3 := (HB.out.cell (World.block_lt_of_cell? w _ hx146_3)).trans hx146_3
           replace hx146_4 := (HB.out.cell (World.block_lt_of_cell? w _ hx146_4)).trans hx146_4
           replace hx146_5 := (HB.out.cell (World.block_lt_of_cell? w _ hx146_5)).trans hx146_5
           replace hx146_6 := (HB.out.cell (World.block_lt_of_cell? w _ hx146_6)).trans hx146_6
           replace hx146_7 := (HB.out.cell (World.block_lt_of_cell? w _ hx146_7)).trans hx146_7
           replace hx146_8 := (HB.out.cell (World.block_lt_of_cell? w _ hx146_8)).trans hx146_8
           replace hx146_9 := (HB.out.cell (World.block_lt_of_cell? w _ hx146_9)).trans hx146_9
           replace hx146_10 := (HB.out.cell (World.block_lt_of_cell? w _ hx146_10)).trans hx146_10
           replace hx146_11 := (HB.out.cell (World.block_lt_of_cell? w _ hx146_11)).trans hx146_11
           replace hx146_12 := (HB.out.cell (World.block_lt_of_cell? w _ hx146_12)).trans hx146_12
           replace hx146_13 := (HB.out.cell (World.block_lt_of_cell? w _ hx146_13)).trans hx146_13
           have HR146_2 := Aside0.mk hi146_2
           have HC146_2 := Aside0.mk hl146_2
           clear hi146_2 hl146_2
           have HR146_5 := Aside0.mk hi146_5
           have HC146_5 := Aside0.mk hl146_5
           clear hi146_5 hl146_5
           have HR146_10 := Aside0.mk hi146_10
           have HC146_10 := Aside0.mk hl146_10
           clear hi146_10 hl146_10
           replace p146 := eq_true p146
           replace q146 := eq_true q146
           have p147 : 0 ≤ (x5_1 : Int) := of_decide_eq_true (by first | (with_reducible assumption) | assumption)
           have q147 : x5_1 < (l0_2.length : Int) := of_decide_eq_true (by first | (with_reducible assumption) | assumption)
           obtain ⟨ad147, A147_2, c147_2, A147_5, c147_5, A147_10, c147_10, e147, hx147_0, hx147_1, hx147_2, hx147_3, hx147_4, hx147_5, hx147_6, hx147_7, hx147_8, hx147_9, hx147_10, hx147_11, hx147_12, hx147_13, hl147_2, hi147_2, hl147_5, hi147_5, hl147_10, hi147_10⟩ := at_T44 HR0_2.out x5_1 p147 q147
           obtain rfl : ad146 = ad147 := (by injection e147)
           replace hx147_0 := (HB.out.cell (World.block_lt_of_cell? w _ hx147_0)).trans hx147_0
           replace hx147_1 := (HB.out.cell (World.block_lt_of_cell? w _ hx147_1)).trans hx147_1
           replace hx147_2 := (HB.out.cell (World.block_lt_of_cell? w _ hx147_2)).trans hx147_2
           replace hx147_3 := (HB.out.cell (World.block_lt_of_cell? w _ hx147_3)).trans hx147_3
           replace hx147_4 := (HB.out.cell (World.block_lt_of_cell? w _ hx147_4)).trans hx147_4
           replace hx147_5 := (HB.out.cell (World.block_lt_of_cell? w _ hx147_5)).trans hx147_5
           replace hx147_6 := (HB.out.cell (World.block_lt_of_cell? w _ hx147_6)).trans hx147_6
           replace hx147_7 := (HB.out.cell (World.block_lt_of_cell? w _ hx147_7)).trans hx147_7
           replace hx147_8 := (HB.out.cell (World.block_lt_of_cell? w _ hx147_8)).trans hx147_8
           replace hx147_9 := (HB.out.cell (World.block_lt_of_cell? w _ hx147_9)).trans hx147_9
           replace hx147_10 := (HB.out.cell (World.block_lt_of_cell? w _ hx147_10)).trans hx147_10
           replace hx147_11 := (HB.out.cell (World.block_lt_of_cell? w _ hx147_11)).trans hx147_11
           replace hx147_12 := (HB.out.cell (World.block_lt_of_cell? w _ hx147_12)).trans hx147_12
           replace hx147_13 := (HB.out.cell (World.block_lt_of_cell? w _ hx147_13)).trans hx147_13
           have HR147_2 := Aside0.mk hi147_2
           have HC147_2 := Aside0.mk hl147_2
           clear hi147_2 hl147_2
           have HR147_5 := Aside0.mk hi147_5
           have HC147_5 := Aside0.mk hl147_5
           clear hi147_5 hl147_5
           have HR147_10 := Aside0.mk hi147_10
           have HC147_10 := Aside0.mk hl147_10
           clear hi147_10 hl147_10
           replace p147 := eq_true p147
           replace q147 := eq_true q147
           have ea_ := Option.some.inj (hx146_2.symm.trans hx147_2)
           injection ea_ with ea_ en_ ec_
           subst ea_
           subst ec_
           clear en_
           have ea_ := Option.some.inj (hx146_5.symm.trans hx147_5)
           injection ea_ with ea_ en_ ec_
           subst ea_
           subst ec_
           clear en_
           have ea_ := Option.some.inj (hx146_10.symm.trans hx147_10)
           injection ea_ with ea_ en_ ec_
           subst ea_
           subst ec_
           clear en_
           have p148 : 0 ≤ (x6_2 : Int) := of_decide_eq_true (by first | (with_reducible assumption) | assumption)
           have q148 : x6_2 < (((rd_T44 l0_2 x5_1).f2).length : Int) := of_decide_eq_true (by first | (with_reducible assumption) | assumption)
           obtain ⟨ad148, A148_6, c148_6, e148, hx148_0, hx148_1, hx148_2, hx148_3, hx148_4, hx148_5, hx148_6, hl148_6, hi148_6⟩ := at_T36 HR147_5.out x6_2 p148 q148
           cases e148
           replace hx148_0 := (HB.out.cell (World.block_lt_of_cell? w _ hx148_0)).trans hx148_0
           replace hx148_1 := (HB.out.cell (World.block_lt_of_cell? w _ hx148_1)).trans hx148_1
           replace hx148_2 := (HB.out.cell (World.block_lt_of_cell? w _ hx148_2)).trans hx148_2
           replace hx148_3 := (HB.out.cell (World.block_lt_of_cell? w _ hx148_3)).trans hx148_3
           replace hx148_4 := (HB.out.cell (World.block_lt_of_cell? w _ hx148_4)).trans hx148_4
           replace hx148_5 := (HB.out.cell (World.block_lt_of_cell? w _ hx148_5)).trans hx148_5
           replace hx148_6 := (HB.out.cell (World.block_lt_of_cell? w _ hx148_6)).trans hx148_6
           have HR148_6 := Aside0.mk hi148_6
           have HC148_6 := Aside0.mk hl148_6
           clear hi148_6 hl148_6
           replace p148 := eq_true p148
           replace q148 := eq_true q148
           go_wp2
           go_roundg k2
           case measure => have := HK1.out; have := HK2.out; omega
           case rel => exact ⟨(wrap64 (x6_2 + 1)), (by first | rfl | (simp; done) | (simp [*]; done)), H', ⟨by have := HK1.out; have := HK2.out; omega⟩, ⟨by (with_reducible repeat (first | refine blk_drewN ?_ _ | refine blk_drew ?_ | refine blk_alloc ?_ _)); exact BK145.out⟩, ⟨by repeat (first | (with_reducible first | exact HB.out | apply below_alloc | apply pw_below_drewN | apply below_drew1 | refine below_set ?_ GE145.out) | exact HB.out)⟩⟩
         ·rw [if_neg c9] at H
          exact absurd H (by simp)
        ·rw [if_neg c8] at H
         have c8b0 : decide (x6_2 < (((rd_T44 l0_2 x5_1).f2).length : Int)) = false := decide_eq_false c8
         clear c8
         by_cases c15 : ((rd_T44 l0_2 x5_1).f3.f0) = 4
         ·rw [if_pos c15] at H
          have c15b0 : (((rd_T44 l0_2 x5_1).f3.f0) == 4) = true := beq_iff_eq.mpr c15
          have c15b1 : (((rd_T44 l0_2 x5_1).f3.f0) != 4) = false := bne_eq_false_iff_eq.mpr c15
          clear c15
          by_cases c16 : ((rd_T44 l0_2 x5_1).f3.f3) = a1
          ·rw [if_pos c16] at H
           have c16b0 : (((rd_T44 l0_2 x5_1).f3.f3) == a1) = true := beq_iff_eq.mpr c16
           have c16b1 : (((rd_T44 l0_2 x5_1).f3.f3) != a1) = false := bne_eq_false_iff_eq.mpr c16
           clear c16
           obtain rfl := Option.some.inj H
           have hcz17_0 : wr.cell? ⟨gb145, 0, none⟩ = some (.int .i64 a0_0) := (blk_cell BK145.out 0).trans rfl
           have hcz17_1 : wr.cell? ⟨gb145, 1, none⟩ = some (.int .i64 a0_1) := (blk_cell BK145.out 1).trans rfl
           have hcz17_2 : wr.cell? ⟨gb145, 2, none⟩ = some (.slice A0_2 l0_2.length c0_2) := (blk_cell BK145.out 2).trans rfl
           have hfz17_0 := blk_frozen BK145.out 0
           have hfz17_1 := blk_frozen BK145.out 1
           have hfz17_2 := blk_frozen BK145.out 2
           have p146 : 0 ≤ (x5_1 : Int) := of_decide_eq_true (by first | (with_reducible assumption) | assumption)
           have q146 : x5_1 < (l0_2.length : Int) := of_decide_eq_true (by first | (with_reducible assumption) | assumption)
           obtain ⟨ad146, A146_2, c146_2, A146_5, c146_5, A146_10, c146_10, e146, hx146_0, hx146_1, hx146_2, hx146_3, hx146_4, hx146_5, hx146_6, hx146_7, hx146_8, hx146_9, hx146_10, hx146_11, hx146_12, hx146_13, hl146_2, hi146_2, hl146_5, hi146_5, hl146_10, hi146_10⟩ := at_T44 HR0_2.out x5_1 p146 q146
           cases e146
           replace hx146_0 := (HB.out.cell (World.block_lt_of_cell? w _ hx146_0)).trans hx146_0
           replace hx146_1 := (HB.out.cell (World.block_lt_of_cell? w _ hx146_1)).trans hx146_1
           replace hx146_2 := (HB.out.cell (World.block_lt_of_cell? w _ hx146_2)).trans hx146_2
           replace hx146_3 := (HB.out.cell (World.block_lt_of_cell? w _ hx146_3)).trans hx146_3
           replace hx146_4 := (HB.out.cell (World.block_lt_of_cell? w _ hx146_4)).trans hx146_4
           replace hx146_5 := (HB.out.cell (World.block_lt_of_cell? w _ hx146_5)).trans hx146_5
           replace hx146_6 := (HB.out.cell (World.block_lt_of_cell? w _ hx146_6)).trans hx146_6
           replace hx146_7 := (HB.out.cell (World.block_lt_of_cell? w _ hx146_7)).trans hx146_7
           replace hx146_8 := (HB.out.cell (World.block_lt_of_cell? w _ hx146_8)).trans hx146_8
           replace hx146_9 := (HB.out.cell (World.block_lt_of_cell? w _ hx146_9)).trans hx146_9
           replace hx146_10 := (HB.out.cell (World.block_lt_of_cell? w _ hx146_10)).trans hx146_10
           replace hx146_11 := (HB.out.cell (World.block_lt_of_cell? w _ hx146_11)).trans hx146_11
           replace hx146_12 := (HB.out.cell (World.block_lt_of_cell? w _ hx146_12)).trans hx146_12
           replace hx146_13 := (HB.out.cell (World.block_lt_of_cell? w _ hx146_13)).trans hx146_13
           have HR146_2 := Aside0.mk hi146_2
           have HC146_2 := Aside0.mk hl146_2
           clear hi146_2 hl146_2
           have HR146_5 := Aside0.mk hi146_5
           have HC146_5 := Aside0.mk hl146_5
           clear hi146_5 hl146_5
           have HR146_10 := Aside0.mk hi146_10
           have HC146_10 := Aside0.mk hl146_10
           clear hi146_10 hl146_10
           replace p146 := eq_true p146
           replace q146 := eq_true q146
           have p151 : 0 ≤ (x5_1 : Int) := of_decide_eq_true (by first | (with_reducible assumption) | assumption)
           have q151 : x5_1 < (l0_2.length : Int) := of_decide_eq_true (by first | (with_reducible assumption) | assumption)
           obtain ⟨ad151, A151_2, c151_2, A151_5, c151_5, A151_10, c151_10, e151, hx151_0, hx151_1, hx151_2, hx151_3, hx151_4, hx151_5, hx151_6, hx151_7, hx151_8, hx151_9, hx151_10, hx151_11, hx151_12, hx151_13, hl151_2, hi151_2, hl151_5, hi151_5, hl151_10, hi151_10⟩ := at_T44 HR0_2.out x5_1 p151 q151
           obtain rfl : ad146 = ad151 := (by injection e151)
           replace hx151_0 := (HB.out.cell (World.block_lt_of_cell? w _ hx151_0)).trans hx151_0
           replace hx151_1 := (HB.out.cell (World.block_lt_of_cell? w _ hx151_1)).trans hx151_1
           replace hx151_2 := (HB.out.cell (World.block_lt_of_cell? w _ hx151_2)).trans hx151_2
           replace hx151_3 := (HB.out.cell (World.block_lt_of_cell? w _ hx151_3)).trans hx151_3
           replace hx151_4 := (HB.out.cell (World.block_lt_of_cell? w _ hx151_4)).trans hx151_4
           replace hx151_5 := (HB.out.cell (World.block_lt_of_cell? w _ hx151_5)).trans hx151_5
           replace hx151_6 := (HB.out.cell (World.block_lt_of_cell? w _ hx151_6)).trans hx151_6
           replace hx151_7 := (HB.out.cell (World.block_lt_of_cell? w _ hx151_7)).trans hx151_7
           replace hx151_8 := (HB.out.cell (World.block_lt_of_cell? w _ hx151_8)).trans hx151_8
           replace hx151_9 := (HB.out.cell (World.block_lt_of_cell? w _ hx151_9)).trans hx151_9
           replace hx151_10 := (HB.out.cell (World.block_lt_of_cell? w _ hx151_10)).trans hx151_10
           replace hx151_11 := (HB.out.cell (World.block_lt_of_cell? w _ hx151_11)).trans hx151_11
           replace hx151_12 := (HB.out.cell (World.block_lt_of_cell? w _ hx151_12)).trans hx151_12
           replace hx151_13 := (HB.out.cell (World.block_lt_of_cell? w _ hx151_13)).trans hx151_13
           have HR151_2 := Aside0.mk hi151_2
           have HC151_2 := Aside0.mk hl151_2
           clear hi151_2 hl151_2
           have HR151_5 := Aside0.mk hi151_5
           have HC151_5 := Aside0.mk hl151_5
           clear hi151_5 hl151_5
           have HR151_10 := Aside0.mk hi151_10
           have HC151_10 := Aside0.mk hl151_10
           clear hi151_10 hl151_10
           replace p151 := eq_true p151
           replace q151 := eq_true q151
           have ea_ := Option.some.inj (hx146_2.symm.trans hx151_2)
           injection ea_ with ea_ en_ ec_
           subst ea_
           subst ec_
           clear en_
           have ea_ := Option.some.inj (hx146_5.symm.trans hx151_5)
           injection ea_ with ea_ en_ ec_
           subst ea_
           subst ec_
           clear en_
           have ea_ := Option.some.inj (hx146_10.symm.trans hx151_10)
           injection ea_ with ea_ en_ ec_
           subst ea_
           subst ec_
           clear en_
           have p152 : 0 ≤ (x5_1 : Int) := of_decide_eq_true (by first | (with_reducible assumption) | assumption)
           have q152 : x5_1 < (l0_2.length : Int) := of_decide_eq_true (by first | (with_reducible assumption) | assumption)
           obtain ⟨ad152, A152_2, c152_2, A152_5, c152_5, A152_10, c152_10, e152, hx152_0, hx152_1, hx152_2, hx152_3, hx152_4, hx152_5, hx152_6, hx152_7, hx152_8, hx152_9, hx152_10, hx152_11, hx152_12, hx152_13, hl152_2, hi152_2, hl152_5, hi152_5, hl152_10, hi152_10⟩ := at_T44 HR0_2.out x5_1 p152 q152
           obtain rfl : ad146 = ad152 := (by injection e152)
           replace hx152_0 := (HB.out.cell (World.block_lt_of_cell? w _ hx152_0)).trans hx152_0
           replace hx152_1 := (HB.out.cell (World.block_lt_of_cell? w _ hx152_1)).trans hx152_1
           replace hx152_2 := (HB.out.cell (World.block_lt_of_cell? w _ hx152_2)).trans hx152_2
           replace hx152_3 := (HB.out.cell (World.block_lt_of_cell? w _ hx152_3)).trans hx152_3
           replace hx152_4 := (HB.out.cell (World.block_lt_of_cell? w _ hx152_4)).trans hx152_4
           replace hx152_5 := (HB.out.cell (World.block_lt_of_cell? w _ hx152_5)).trans hx152_5
           replace hx152_6 := (HB.out.cell (World.block_lt_of_cell? w _ hx152_6)).trans hx152_6
           replace hx152_7 := (HB.out.cell (World.block_lt_of_cell? w _ hx152_7)).trans hx152_7
           replace hx152_8 := (HB.out.cell (World.block_lt_of_cell? w _ hx152_8)).trans hx152_8
           replace hx152_9 := (HB.out.cell (World.block_lt_of_cell? w _ hx152_9)).trans hx152_9
           replace hx152_10 := (HB.out.cell (World.block_lt_of_cell? w _ hx152_10)).trans hx152_10
           replace hx152_11 := (HB.out.cell (World.block_lt_of_cell? w _ hx152_11)).trans hx152_11
           replace hx152_12 := (HB.out.cell (World.block_lt_of_cell? w _ hx152_12)).trans hx152_12
           replace hx152_13 := (HB.out.cell (World.block_lt_of_cell? w _ hx152_13)).trans hx152_13
           have HR152_2 := Aside0.mk hi152_2
           have HC152_2 := Aside0.mk hl152_2
           clear hi152_2 hl152_2
           have HR152_5 := Aside0.mk hi152_5
           have HC152_5 := Aside0.mk hl152_5
           clear hi152_5 hl152_5
           have HR152_10 := Aside0.mk hi152_10
           have HC152_10 := Aside0.mk hl152_10
           clear hi152_10 hl152_10
           replace p152 := eq_true p152
           replace q152 := eq_true q152
           have ea_ := Option.some.inj (hx146_2.symm.trans hx152_2)
           injection ea_ with ea_ en_ ec_
           subst ea_
           subst ec_
           clear en_
           have ea_ := Option.some.inj (hx146_5.symm.trans hx152_5)
           injection ea_ with ea_ en_ ec_
           subst ea_
           subst ec_
           clear en_
           have ea_ := Option.some.inj (hx146_10.symm.trans hx152_10)
           injection ea_ with ea_ en_ ec_
           subst ea_
           subst ec_
           clear en_
           go_wp2
           go_ret
           exact ⟨by first | rfl | (simp [errW_none, errW_some] <;> rfl) | (simp [*, errW_none, errW_some] <;> rfl), by repeat (first | (with_reducible first | exact HB.out | apply below_alloc | apply pw_below_drewN | apply below_drew1 | refine below_set ?_ GE145.out) | exact HB.out)⟩
          ·rw [if_neg c16] at H
           have c16b0 : (((rd_T44 l0_2 x5_1).f3.f3) == a1) = false := beq_eq_false_iff_ne.mpr c16
           have c16b1 : (((rd_T44 l0_2 x5_1).f3.f3) != a1) = true := bne_iff_ne.mpr c16
           have H' := Aside0.mk H
           clear H
           have hcz18_0 : wr.cell? ⟨gb145, 0, none⟩ = some (.int .i64 a0_0) := (blk_cell BK145.out 0).trans rfl
           have hcz18_1 : wr.cell? ⟨gb145, 1, none⟩ = some (.int .i64 a0_1) := (blk_cell BK145.out 1).trans rfl
           have hcz18_2 : wr.cell? ⟨gb145, 2, none⟩ = some (.slice A0_2 l0_2.length c0_2) := (blk_cell BK145.out 2).trans rfl
           have hfz18_0 := blk_frozen BK145.out 0
           have hfz18_1 := blk_frozen BK145.out 1
           have hfz18_2 := blk_frozen BK145.out 2
           have p146 : 0 ≤ (x5_1 : Int) := of_decide_eq_true (by first | (with_reducible assumption) | assumption)
           have q146 : x5_1 < (l0_2.length : Int) := of_decide_eq_true (by first | (with_reducible assumption) | assumption)
           obtain ⟨ad146, A146_2, c146_2, A146_5, c146_5, A146_10, c146_10, e146, hx146_0, hx146_1, hx146_2, hx146_3, hx146_4, hx146_5, hx146_6, hx146_7, hx146_8, hx146_9, hx146_10, hx146_11, hx146_12, hx146_13, hl146_2, hi146_2, hl146_5, hi146_5, hl146_10, hi146_10⟩ := at_T44 HR0_2.out x5_1 p146 q146
           cases e146
           replace hx146_0 := (HB.out.cell (World.block_lt_of_cell? w _ hx146_0)).trans hx146_0
           replace hx146_1 := (HB.out.cell (World.block_lt_of_cell? w _ hx146_1)).trans hx146_1
           replace hx146_2 := (HB.out.cell (World.block_lt_of_cell? w _ hx146_2)).trans hx146_2
           replace hx146_3 := (HB.out.cell (World.block_lt_of_cell? w _ hx146_3)).trans hx146_3
           replace hx146_4 := (HB.out.cell (World.block_lt_of_cell? w _ hx146_4)).trans hx146_4
           replace hx146_5 := (HB.out.cell (World.block_lt_of_cell? w _ hx146_5)).trans hx146_5
           replace hx146_6 := (HB.out.cell (World.block_lt_of_cell? w _ hx146_6)).trans hx146_6
           replace hx146_7 := (HB.out.cell (World.block_lt_of_cell? w _ hx146_7)).trans hx146_7
           replace hx146_8 := (HB.out.cell (World.block_lt_of_cell? w _ hx146_8)).trans hx146_8
           replace hx146_9 := (HB.out.cell (World.block_lt_of_cell? w _ hx146_9)).trans hx146_9
           replace hx146_10 := (HB.out.cell (World.block_lt_of_cell? w _ hx146_10)).trans hx146_10
           replace hx146_11 := (HB.out.cell (World.block_lt_of_cell? w _ hx146_11)).trans hx146_11
           replace hx146_12 := (HB.out.cell (World.block_lt_of_cell? w _ hx146_12)).trans hx146_12
           replace hx146_13 := (HB.out.cell (World.block_lt_of_cell? w _ hx146_13)).trans hx146_13
           have HR146_2 := Aside0.mk hi146_2
           have HC146_2 := Aside0.mk hl146_2
           clear hi146_2 hl146_2
           have HR146_5 := Aside0.mk hi146_5
           have HC146_5 := Aside0.mk hl146_5
           clear hi146_5 hl146_5
           have HR146_10 := Aside0.mk hi146_10
           have HC146_10 := Aside0.mk hl146_10
           clear hi146_10 hl146_10
           replace p146 := eq_true p146
           replace q146 := eq_true q146
           have p151 : 0 ≤ (x5_1 : Int) := of_decide_eq_true (by first | (with_reducible assumption) | assumption)
           have q151 : x5_1 < (l0_2.length : Int) := of_decide_eq_true (by first | (with_reducible assumption) | assumption)
           obtain ⟨ad151, A151_2, c151_2, A151_5, c151_5, A151_10, c151_10, e151, hx151_0, hx151_1, hx151_2, hx151_3, hx151_4, hx151_5, hx151_6, hx151_7, hx151_8, hx151_9, hx151_10, hx151_11, hx151_12, hx151_13, hl151_2, hi151_2, hl151_5, hi151_5, hl151_10, hi151_10⟩ := at_T44 HR0_2.out x5_1 p151 q151
           obtain rfl : ad146 = ad151 := (by injection e151)
           replace hx151_0 := (HB.out.cell (World.block_lt_of_cell? w _ hx151_0)).trans hx151_0
           replace hx151_1 := (HB.out.cell (World.block_lt_of_cell? w _ hx151_1)).trans hx151_1
           replace hx151_2 := (HB.out.cell (World.block_lt_of_cell? w _ hx151_2)).trans hx151_2
           replace hx151_3 := (HB.out.cell (World.block_lt_of_cell? w _ hx151_3)).trans hx151_3
           replace hx151_4 := (HB.out.cell (World.block_lt_of_cell? w _ hx151_4)).trans hx151_4
           replace hx151_5 := (HB.out.cell (World.block_lt_of_cell? w _ hx151_5)).trans hx151_5
           replace hx151_6 := (HB.out.cell (World.block_lt_of_cell? w _ hx151_6)).trans hx151_6
           replace hx151_7 := (HB.out.cell (World.block_lt_of_cell? w _ hx151_7)).trans hx151_7
           replace hx151_8 := (HB.out.cell (World.block_lt_of_cell? w _ hx151_8)).trans hx151_8
           replace hx151_9 := (HB.out.cell (World.block_lt_of_cell? w _ hx151_9)).trans hx151_9
           replace hx151_10 := (HB.out.cell (World.block_lt_of_cell? w _ hx151_10)).trans hx151_10
           replace hx151_11 := (HB.out.cell (World.block_lt_of_cell? w _ hx151_11)).trans hx151_11
           replace hx151_12 := (HB.out.cell (World.block_lt_of_cell? w _ hx151_12)).trans hx151_12
           replace hx151_13 := (HB.out.cell (World.block_lt_of_cell? w _ hx151_13)).trans hx151_13
           have HR151_2 := Aside0.mk hi151_2
           have HC151_2 := Aside0.mk hl151_2
           clear hi151_2 hl151_2
           have HR151_5 := Aside0.mk hi151_5
           have HC151_5 := Aside0.mk hl151_5
           clear hi151_5 hl151_5
           have HR151_10 := Aside0.mk hi151_10
           have HC151_10 := Aside0.mk hl151_10
           clear hi151_10 hl151_10
           replace p151 := eq_true p151
           replace q151 := eq_true q151
           have ea_ := Option.some.inj (hx146_2.symm.trans hx151_2)
           injection ea_ with ea_ en_ ec_
           subst ea_
           subst ec_
           clear en_
           have ea_ := Option.some.inj (hx146_5.symm.trans hx151_5)
           injection ea_ with ea_ en_ ec_
           subst ea_
           subst ec_
           clear en_
           have ea_ := Option.some.inj (hx146_10.symm.trans hx151_10)
           injection ea_ with ea_ en_ ec_
           subst ea_
           subst ec_
           clear en_
           have p152 : 0 ≤ (x5_1 : Int) := of_decide_eq_true (by first | (with_reducible assumption) | assumption)
           have q152 : x5_1 < (l0_2.length : Int) := of_decide_eq_true (by first | (with_reducible assumption) | assumption)
           obtain ⟨ad152, A152_2, c152_2, A152_5, c152_5, A152_10, c152_10, e152, hx152_0, hx152_1, hx152_2, hx152_3, hx152_4, hx152_5, hx152_6, hx152_7, hx152_8, hx152_9, hx152_10, hx152_11, hx152_12, hx152_13, hl152_2, hi152_2, hl152_5, hi152_5, hl152_10, hi152_10⟩ := at_T44 HR0_2.out x5_1 p152 q152
           obtain rfl : ad146 = ad152 := (by injection e152)
           replace hx152_0 := (HB.out.cell (World.block_lt_of_cell? w _ hx152_0)).trans hx152_0
           replace hx152_1 := (HB.out.cell (World.block_lt_of_cell? w _ hx152_1)).trans hx152_1
           replace hx152_2 := (HB.out.cell (World.block_lt_of_cell? w _ hx152_2)).trans hx152_2
           replace hx152_3 := (HB.out.cell (World.block_lt_of_cell? w _ hx152_3)).trans hx152_3
           replace hx152_4 := (HB.out.cell (World.block_lt_of_cell? w _ hx152_4)).trans hx152_4
           replace hx152_5 := (HB.out.cell (World.block_lt_of_cell? w _ hx152_5)).trans hx152_5
           replace hx152_6 := (HB.out.cell (World.block_lt_of_cell? w _ hx152_6)).trans hx152_6
           replace hx152_7 := (HB.out.cell (World.block_lt_of_cell? w _ hx152_7)).trans hx152_7
           replace hx152_8 := (HB.out.cell (World.block_lt_of_cell? w _ hx152_8)).trans hx152_8
           replace hx152_9 := (HB.out.cell (World.block_lt_of_cell? w _ hx152_9)).trans hx152_9
           replace hx152_10 := (HB.out.cell (World.block_lt_of_cell? w _ hx152_10)).trans hx152_10
           replace hx152_11 := (HB.out.cell (World.block_lt_of_cell? w _ hx152_11)).trans hx152_11
           replace hx152_12 := (HB.out.cell (World.block_lt_of_cell? w _ hx152_12)).trans hx152_12
           replace hx152_13 := (HB.out.cell (World.block_lt_of_cell? w _ hx152_13)).trans hx152_13
           have HR152_2 := Aside0.mk hi152_2
           have HC152_2 := Aside0.mk hl152_2
           clear hi152_2 hl152_2
           have HR152_5 := Aside0.mk hi152_5
           have HC152_5 := Aside0.mk hl152_5
           clear hi152_5 hl152_5
           have HR152_10 := Aside0.mk hi152_10
           have HC152_10 := Aside0.mk hl152_10
           clear hi152_10 hl152_10
           replace p152 := eq_true p152
           replace q152 := eq_true q152
           have ea_ := Option.some.inj (hx146_2.symm.trans hx152_2)
           injection ea_ with ea_ en_ ec_
           subst ea_
           subst ec_
           clear en_
           have ea_ := Option.some.inj (hx146_5.symm.trans hx152_5)
           injection ea_ with ea_ en_ ec_
           subst ea_
           subst ec_
           clear en_
           have ea_ := Option.some.inj (hx146_10.symm.trans hx152_10)
           injection ea_ with ea_ en_ ec_
           subst ea_
           subst ec_
           clear en_
           go_wp2
           go_roundg k2
           case measure => have := HK1.out; have := HK2.out; omega
           case rel => exact ⟨(wrap64 (x5_1 + 1)), (by first | rfl | (simp; done) | (simp [*]; done)), H', ⟨by have := HK1.out; have := HK2.out; omega⟩, ⟨by (with_reducible repeat (first | refine blk_drewN ?_ _ | refine blk_drew ?_ | refine blk_alloc ?_ _)); exact BK145.out⟩, ⟨by repeat (first | (with_reducible first | exact HB.out | apply below_alloc | apply pw_below_drewN | apply below_drew1 | refine below_set ?_ GE145.out) | exact HB.out)⟩⟩
         ·rw [if_neg c15] at H
          have c15b0 : (((rd_T44 l0_2 x5_1).f3.f0) == 4) = false := beq_eq_false_iff_ne.mpr c15
          have c15b1 : (((rd_T44 l0_2 x5_1).f3.f0) != 4) = true := bne_iff_ne.mpr c15
          have H' := Aside0.mk H
          clear H
          have hcz19_0 : wr.cell? ⟨gb145, 0, none⟩ = some (.int .i64 a0_0) := (blk_cell BK145.out 0).trans rfl
          have hcz19_1 : wr.cell? ⟨gb145, 1, none⟩ = some (.int .i64 a0_1) := (blk_cell BK145.out 1).trans rfl
          have hcz19_2 : wr.cell? ⟨gb145, 2, none⟩ = some (.slice A0_2 l0_2.length c0_2) := (blk_cell BK145.out 2).trans rfl
          have hfz19_0 := blk_frozen BK145.out 0
          have hfz19_1 := blk_frozen BK145.out 1
          have hfz19_2 := blk_frozen BK145.out 2
          have p146 : 0 ≤ (x5_1 : Int) := of_decide_eq_true (by first | (with_reducible assumption) | assumption)
          have q146 : x5_1 < (l0_2.length : Int) := of_decide_eq_true (by first | (with_reducible assumption) | assumption)
          obtain ⟨ad146, A146_2, c146_2, A146_5, c146_5, A146_10, c146_10, e146, hx146_0, hx146_1, hx146_2, hx146_3, hx146_4, hx146_5, hx146_6, hx146_7, hx146_8, hx146_9, hx146_10, hx146_11, hx146_12, hx146_13, hl146_2, hi146_2, hl146_5, hi146_5, hl146_10, hi146_10⟩ := at_T44 HR0_2.out x5_1 p146 q146
          cases e146
          replace hx146_0 := (HB.out.cell (World.block_lt_of_cell? w _ hx146_0)).trans hx146_0
          replace hx146_1 := (HB.out.cell (World.block_lt_of_cell? w _ hx146_1)).trans hx146_1
          replace hx146_2 := (HB.out.cell (World.block_lt_of_cell? w _ hx146_2)).trans hx146_2
          replace hx146_3 := (HB.out.cell (World.block_lt_of_cell? w _ hx146_3)).trans hx146_3
          replace hx146_4 := (HB.out.cell (World.block_lt_of_cell? w _ hx146_4)).trans hx146_4
          replace hx146_5 := (HB.out.cell (World.block_lt_of_cell? w _ hx146_5)).trans hx146_5
          replace hx146_6 := (HB.out.cell (World.block_lt_of_cell? w _ hx146_6)).trans hx146_6
          replace hx146_7 := (HB.out.cell (World.block_lt_of_cell? w _ hx146_7)).trans hx146_7
          replace hx146_8 := (HB.out.cell (World.block_lt_of_cell? w _ hx146_8)).trans hx146_8
          replace hx146_9 := (HB.out.cell (World.block_lt_of_cell? w _ hx146_9)).trans hx146_9
          replace hx146_10 := (HB.out.cell (World.block_lt_of_cell? w _ hx146_10)).trans hx146_10
          replace hx146_11 := (HB.out.cell (World.block_lt_of_cell? w _ hx146_11)).trans hx146_11
          replace hx146_12 := (HB.out.cell (World.block_lt_of_cell? w _ hx146_12)).trans hx146_12
          replace hx146_13 := (HB.out.cell (World.block_lt_of_cell? w _ hx146_13)).trans hx146_13
          have HR146_2 := Aside0.mk hi146_2
          have HC146_2 := Aside0.mk hl146_2
          clear hi146_2 hl146_2
          have HR146_5 := Aside0.mk hi146_5
          have HC146_5 := Aside0.mk hl146_5
          clear hi146_5 hl146_5
          have HR146_10 := Aside0.mk hi146_10
          have HC146_10 := Aside0.mk hl146_10
          clear hi146_10 hl146_10
          replace p146 := eq_true p146
          replace q146 := eq_true q146
          have p151 : 0 ≤ (x5_1 : Int) := of_decide_eq_true (by first | (with_reducible assumption) | assumption)
          have q151 : x5_1 < (l0_2.length : Int) := of_decide_eq_true (by first | (with_reducible assumption) | assumption)
          obtain ⟨ad151, A151_2, c151_2, A151_5, c151_5, A151_10, c151_10, e151, hx151_0, hx151_1, hx151_2, hx151_3, hx151_4, hx151_5, hx151_6, hx151_7, hx151_8, hx151_9, hx151_10, hx151_11, hx151_12, hx151_13, hl151_2, hi151_2, hl151_5, hi151_5, hl151_10, hi151_10⟩ := at_T44 HR0_2.out x5_1 p151 q151
          obtain rfl : ad146 = ad151 := (by injection e151)
          replace hx151_0 := (HB.out.cell (World.block_lt_of_cell? w _ hx151_0)).trans hx151_0
          replace hx151_1 := (HB.out.cell (World.block_lt_of_cell? w _ hx151_1)).trans hx151_1
          replace hx151_2 := (HB.out.cell (World.block_lt_of_cell? w _ hx151_2)).trans hx151_2
          replace hx151_3 := (HB.out.cell (World.block_lt_of_cell? w _ hx151_3)).trans hx151_3
          replace hx151_4 := (HB.out.cell (World.block_lt_of_cell? w _ hx151_4)).trans hx151_4
          replace hx151_5 := (HB.out.cell (World.block_lt_of_cell? w _ hx151_5)).trans hx151_5
          replace hx151_6 := (HB.out.cell (World.block_lt_of_cell? w _ hx151_6)).trans hx151_6
          replace hx151_7 := (HB.out.cell (World.block_lt_of_cell? w _ hx151_7)).trans hx151_7
          replace hx151_8 := (HB.out.cell (World.block_lt_of_cell? w _ hx151_8)).trans hx151_8
          replace hx151_9 := (HB.out.cell (World.block_lt_of_cell? w _ hx151_9)).trans hx151_9
          replace hx151_10 := (HB.out.cell (World.block_lt_of_cell? w _ hx151_10)).trans hx151_10
          replace hx151_11 := (HB.out.cell (World.block_lt_of_cell? w _ hx151_11)).trans hx151_11
          replace hx151_12 := (HB.out.cell (World.block_lt_of_cell? w _ hx151_12)).trans hx151_12
          replace hx151_13 := (HB.out.cell (World.block_lt_of_cell? w _ hx151_13)).trans hx151_13
          have HR151_2 := Aside0.mk hi151_2
          have HC151_2 := Aside0.mk hl151_2
          clear hi151_2 hl151_2
          have HR151_5 := Aside0.mk hi151_5
          have HC151_5 := Aside0.mk hl151_5
          clear hi151_5 hl151_5
          have HR151_10 := Aside0.mk hi151_10
          have HC151_10 := Aside0.mk hl151_10
          clear hi151_10 hl151_10
          replace p151 := eq_true p151
          replace q151 := eq_true q151
          have ea_ := Option.some.inj (hx146_2.symm.trans hx151_2)
          injection ea_ with ea_ en_ ec_
          subst ea_
          subst ec_
          clear en_
          have ea_ := Option.some.inj (hx146_5.symm.trans hx151_5)
          injection ea_ with ea_ en_ ec_
          subst ea_
          subst ec_
          clear en_
          have ea_ := Option.some.inj (hx146_10.symm.trans hx151_10)
          injection ea_ with ea_ en_ ec_
          subst ea_
          subst ec_
          clear en_
          go_wp2
          go_roundg k2
          case measure => have := HK1.out; have := HK2.out; omega
          case rel => exact ⟨(wrap64 (x5_1 + 1)), (by first | rfl | (simp; done) | (simp [*]; done)), H', ⟨by have := HK1.out; have := HK2.out; omega⟩, ⟨by (with_reducible repeat (first | refine blk_drewN ?_ _ | refine blk_drew ?_ | refine blk_alloc ?_ _)); exact BK145.out⟩, ⟨by repeat (first | (with_reducible first | exact HB.out | apply below_alloc | apply pw_below_drewN | apply below_drew1 | refine below_set ?_ GE145.out) | exact HB.out)⟩⟩
       ·rw [if_neg c7] at H
        exact absurd H (by simp)
      ·rw [if_neg c6] at H
       exact absurd H (by simp)
   ·rw [if_neg c4] at H
    have c4b0 : decide (x5_1 < (l0_2.length : Int)) = false := decide_eq_false c4
    clear c4
    obtain rfl := Option.some.inj H
    have hcz20_0 : wr.cell? ⟨gb145, 0, none⟩ = some (.int .i64 a0_0) := (blk_cell BK145.out 0).trans rfl
    have hcz20_1 : wr.cell? ⟨gb145, 1, none⟩ = some (.int .i64 a0_1) := (blk_cell BK145.out 1).trans rfl
    have hcz20_2 : wr.cell? ⟨gb145, 2, none⟩ = some (.slice A0_2 l0_2.length c0_2) := (blk_cell BK145.out 2).trans rfl
    have hfz20_0 := blk_frozen BK145.out 0
    have hfz20_1 := blk_frozen BK145.out 1
    have hfz20_2 := blk_frozen BK145.out 2
    go_wp2
    go_ret
    exact ⟨by first | rfl | (simp [errW_none, errW_some] <;> rfl) | (simp [*, errW_none, errW_some] <;> rfl), by repeat (first | (with_reducible first | exact HB.out | apply below_alloc | apply pw_below_drewN | apply below_drew1 | refine below_set ?_ GE145.out) | exact HB.out)⟩
end
end Go.Proofs.Ytjjcnbfmmhokeaa.X
namespace Go.Proofs.Ytjjcnbfmmhokeaa.X
open Go.RowKit Go.Proofs.YtjjcnbfmmhokeaaW.PrintWords Go.Proofs.YtjjcnbfmmhokeaaW.PrintLast Go.Proofs.YtjjcnbfmmhokeaaW.PrintMore
attribute [local go_sem] max2_int min2_int max_two min_two max_three min_three max_four min_four
set_option linter.all false
noncomputable section
def davitref11_Of.l0 : Nat → Int → List Int → Int → List (S33) → Option (List Int)
 | 0, _, _, _, _ => none
 | k + 1, x1, x5, x6, x154000 => if x6 < (x154000.length : Int) then (if x1 ≥ 0 then (if x1 < (x154000.length : Int) then (if 0 ≤ x1 then ((davitref11_Calls.f k ((rd_T33 x154000 x1).f0) ((rd_T33 x154000 x1).f1) ((rd_T33 x154000 x1).f2) x6).bind fun t155 => (if t155 = true then (if x5.length < 17592186044416 then (davitref11_Of.l0 k x1 (x5 ++ [x6]) (wrap64 (x6 + 1)) x154000) else (none)) else (davitref11_Of.l0 k x1 x5 (wrap64 (x6 + 1)) x154000))) else (none)) else (davitref11_Of.l0 k x1 x5 (wrap64 (x6 + 1)) x154000)) else (davitref11_Of.l0 k x1 x5 (wrap64 (x6 + 1)) x154000)) else (some x5)
def davitref11_Of.f (k : Nat) (l0_0 : List (S33)) (a1 : Int) : Option (List Int) := davitref11_Of.l0 k a1 ([] : List Int) 0 l0_0
theorem davitref11_Of.mono_l : ∀ k, (∀ y0 y1 y2 y3, LeO (davitref11_Of.l0 k y0 y1 y2 y3) (davitref11_Of.l0 (k + 1) y0 y1 y2 y3))
 | 0 => fun _ _ _ _ r h => by simp [davitref11_Of.l0] at h
 | k + 1 => by
  have ih0 := davitref11_Of.mono_l k
  ·intro y0 y1 y2 y3
   unfold davitref11_Of.l0
   repeat' first
   | (with_reducible exact ih0 _ _ _ _)
   | (with_reducible exact davitref11_Calls.mono _ _ _ _ _)
   | (with_reducible exact LeO.refl _)
   | (with_reducible exact LeO.none _)
   | (with_reducible refine LeO.ite ?_ ?_)
   | (with_reducible refine LeO.bind ?_ (fun _ => ?_))
   | exact ih0 _ _ _ _
   | exact davitref11_Calls.mono _ _ _ _ _
   | exact LeO.none _
   | refine LeO.ite ?_ ?_
   | refine LeO.bind ?_ (fun _ => ?_)
theorem davitref11_Of.mono : ∀ a0 a1 k, LeO (davitref11_Of.f k a0 a1) (davitref11_Of.f (k + 1) a0 a1) := by
 intro a0 a1 k
 have ih0 := davitref11_Of.mono_l k
 unfold davitref11_Of.f
 repeat' first
   | (with_reducible exact ih0 _ _ _ _)
   | (with_reducible exact davitref11_Calls.mono _ _ _ _ _)
   | (with_reducible exact LeO.refl _)
   | (with_reducible exact LeO.none _)
   | (with_reducible refine LeO.ite ?_ ?_)
   | (with_reducible refine LeO.bind ?_ (fun _ => ?_))
   | exact ih0 _ _ _ _
   | exact davitref11_Calls.mono _ _ _ _ _
   | exact LeO.none _
   | refine LeO.ite ?_ ?_
   | refine LeO.bind ?_ (fun _ => ?_)
set_option maxHeartbeats 8000000 in
set_option maxRecDepth 100000 in
theorem davitref11_Of.calls (k : Nat) (A0_0 : Option Addr) (c0_0 : Nat) (l0_0 : List (S33)) (a1 : Int) (r : List Int) (w : World) (hr0_0 : Kd.C k33 w A0_0 l0_0.length l0_0) (hc0_0 : l0_0.length ≤ c0_0) (h : davitref11_Of.f k l0_0 a1 = some r) :
  Calls Try.prog 13 #[.agg #[.slice A0_0 l0_0.length c0_0], .int .i64 a1] w fun e w' => ∃ v0_ : Value, e = .returned (v0_) ∧ Kd.R (Kd.int .i64) 3 w' w.heap.size (fun _ => True) v0_ r ∧ Below w.heap.size w w' := by
 have hu24 := Try.underlying24
 have hu33 := Try.underlying33
 have HR0_0 := Aside0.mk hr0_0
 have HC0_0 := Aside0.mk hc0_0
 clear hr0_0 hc0_0
 have HB := Aside0.mk (Below.refl w.heap.size w)
 have H : (davitref11_Of.l0 k a1 ([] : List Int) 0 l0_0) = some r := h
 clear h
 have H' := Aside0.mk H
 clear H
 go_enter Try.func13, Try.ntmps13
 go_wp2_with (first | ((with_reducible refine gate_dst (N := 2) rfl ?_); (try (refine gate_guard (by rfl) ?_; dsimp only)); refine box_event ?hg (N := 2) ?hd (cs := #[.slice A0_0 l0_0.length c0_0]) (t := 24) ?hr ?_; (case hd => rfl); (case hg => rfl); (case hr => first | (go_simp; done) | (go_simp; rfl)); intro gb153 hg w3 hbox hb; have n0_ := Aside0.mk (below_step (by repeat (first | (with_reducible first | exact HB.out | apply below_alloc | apply pw_below_drewN | apply below_drew1) | exact HB.out)) hb); have n1_ := Aside0.mk (hbox); have n2_ := Aside0.mk ((by rw [hg]; exact (below_size (by repeat (first | (with_reducible first | exact HB.out | apply below_alloc | apply pw_below_drewN | apply below_drew1) | exact HB.out))) : w.heap.size ≤ gb153)); have n3_ := Aside0.mk ((by rw [hg]; exact (below_size (by repeat (first | (with_reducible first | exact HB.out | apply below_alloc | apply pw_below_drewN | apply below_drew1) | exact HB.out))) : w.heap.size ≤ gb153)); clear HB; have HB := n0_; have BK153 := n1_; have GW153 := n2_; have GE153 := n3_; clear n0_ n1_ n2_ n3_; clear hb hbox hg))
 go_loopg [5, 6] k (fun kq v5 v6 w' => ∃ (x5_1 : List Int) (x6_1 : Int), v6 = .int .i64 x6_1 ∧ Aside0 (davitref11_Of.l0 kq a1 x5_1 x6_1 l0_0 = some r) ∧ Aside0 (kq ≤ k) ∧ Aside0 (Kd.R (Kd.int .i64) 3 w' w.heap.size (fun _ => True) v5 x5_1) ∧ Aside0 (w'.heap[gb153]? = some (.cells #[(.slice A0_0 l0_0.length c0_0)] 24 (0, 0))) ∧ Aside0 (Below w.heap.size w w'))
 case atStart => exact ⟨(([] : List Int)), (0), (by first | rfl | (simp; done) | (simp [*]; done)), H', ⟨Nat.le_refl _⟩, ⟨by first | exact Kd.R_nil _ _ _ _ _ | exact Kd.N_nil _ _ _ _ _ | exact Kd.V_nil _ _ _ _ _ | exact Kd.Q_nil _ _ _ _ _ | exact Kd.S_nil _ _ _ _ _⟩, ⟨by (with_reducible repeat (first | refine blk_drewN ?_ _ | refine blk_drew ?_ | refine blk_alloc ?_ _)); exact BK153.out⟩, ⟨by repeat (first | (with_reducible first | exact HB.out | apply below_alloc | apply pw_below_drewN | apply below_drew1 | refine below_set ?_ GE153.out) | exact HB.out)⟩⟩
 case round =>
  clear H'
  try clear c1
  try clear p2
  obtain ⟨x5_1, x6_1, rfl, HA, HK1, HO_5, BK153, HB⟩ := hrel
  cases gk with
  | zero => exact absurd HA.out (by simp [davitref11_Of.l0])
  | succ k1 =>
   have H := HA.out
   clear HA
   simp only [davitref11_Of.l0] at H
   by_cases c4 : x6_1 < (l0_0.length : Int)
   ·rw [if_pos c4] at H
    have c4b0 : decide (x6_1 < (l0_0.length : Int)) = true := decide_eq_true c4
    clear c4
    by_cases c5 : a1 ≥ 0
    ·rw [if_pos c5] at H
     have c5b0 : decide (0 ≤ a1) = true := decide_eq_true c5
     clear c5
     by_cases c6 : a1 < (l0_0.length : Int)
     ·rw [if_pos c6] at H
      have c6b0 : decide (a1 < (l0_0.length : Int)) = true := decide_eq_true c6
      clear c6
      by_cases c7 : 0 ≤ a1
      ·rw [if_pos c7] at H
       have c7b0 : decide (0 ≤ a1) = true := decide_eq_true c7
       clear c7
       replace H := Option.bind_eq_some_iff.mp H
       obtain ⟨t155, A80, H⟩ := H
       replace H : (if t155 = true then (if x5_1.length < 17592186044416 then (davitref11_Of.l0 k1 a1 (x5_1 ++ [x6_1]) (wrap64 (x6_1 + 1)) l0_0) else (none)) else (davitref11_Of.l0 k1 a1 x5_1 (wrap64 (x6_1 + 1)) l0_0)) = some r := H
       have A8 := Aside0.mk A80
       clear A80
       by_cases c9 : t155 = true
       ·subst c9
        have H1 : (if x5_1.length < 17592186044416 then (davitref11_Of.l0 k1 a1 (x5_1 ++ [x6_1]) (wrap64 (x6_1 + 1)) l0_0) else (none)) = some r := by rw [if_pos rfl] at H; exact H
        clear H
        have H := H1
        clear H1
        by_cases c10 : x5_1.length < 17592186044416
        ·rw [if_pos c10] at H
         have LMc10 := Aside0.mk c10
         clear c10
         obtain ⟨y156, hy156⟩ : ∃ y_ : List Int, y_ = (x5_1 ++ [x6_1]) := ⟨_, rfl⟩
         replace H : (davitref11_Of.l0 k1 a1 y156 (wrap64 (x6_1 + 1)) l0_0) = some r := by first | (rw [hy156]; with_reducible exact H) | (have H2_ := (Option.bind_some _ _).symm.trans H; rw [hy156]; with_reducible exact H2_) | (have H2_ := (Option.bind_some _ _).symm.trans H; with_reducible exact H2_) | with_reducible exact H | (rw [hy156]; exact H) | exact H
         have Ny156 := Aside0.mk hy156
         clear hy156
         have H' := Aside0.mk H
         clear H
         have hcz11_0 : wr.cell? ⟨gb153, 0, none⟩ = some (.slice A0_0 l0_0.length c0_0) := (blk_cell BK153.out 0).trans rfl
         have hfz11_0 := blk_frozen BK153.out 0
         have p154 : 0 ≤ (a1 : Int) := of_decide_eq_true (by first | (with_reducible assumption) | assumption)
         have q154 : a1 < (l0_0.length : Int) := of_decide_eq_true (by first | (with_reducible assumption) | assumption)
         obtain ⟨ad154, A154_2, c154_2, e154, hx154_0, hx154_1, hx154_2, hl154_2, hi154_2⟩ := at_T33 HR0_0.out a1 p154 q154
         cases e154
         replace hx154_0 := (HB.out.cell (World.block_lt_of_cell? w _ hx154_0)).trans hx154_0
         replace hx154_1 := (HB.out.cell (World.block_lt_of_cell? w _ hx154_1)).trans hx154_1
         replace hx154_2 := (HB.out.cell (World.block_lt_of_cell? w _ hx154_2)).trans hx154_2
         have HR154_2 := Aside0.mk hi154_2
         have HC154_2 := Aside0.mk hl154_2
         clear hi154_2 hl154_2
         replace p154 := eq_true p154
         replace q154 := eq_true q154
         go_wp2_with (first | (go_at_call 25; (with_reducible refine (davitref11_Calls.calls k1 ((rd_T33 l0_0 a1).f0) ((rd_T33 l0_0 a1).f1) _ _ ((rd_T33 l0_0 a1).f2) x6_1 true _ ?side1 ?side2 A8.out).mono ?_); (case side1 => repeat (first | exact (Kd.C_below HR154_2.out HB.out) | (with_reducible refine Kd.C_alloc ?_ _) | (with_reducible refine Kd.C_drewN ?_ _) | (with_reducible refine Kd.C_drew ?_))); (case side2 => exact HC154_2.out); rintro e w12 ⟨rfl, hb⟩; have n0_ := Aside0.mk (Kd.R_below (by (with_reducible repeat (first | apply Kd.R_alloc | apply Kd.R_drewN | apply Kd.R_drew)); exact HO_5.out) hb); have n1_ := Aside0.mk (blk_below (g := gb153) (o := .cells #[.slice (some ad154) l0_0.length c0_0] 24 (0, 0)) (by (with_reducible repeat (first | refine blk_drewN ?_ _ | refine blk_drew ?_ | refine blk_alloc ?_ _)); exact BK153.out) hb); have n2_ := Aside0.mk (below_step (by repeat (first | (with_reducible first | exact HB.out | apply below_alloc | apply pw_below_drewN | apply below_drew1 | refine below_set ?_ GE153.out) | exact HB.out)) hb); clear HO_5; clear BK153; clear HB; have HO_5 := n0_; have BK153 := n1_; have HB := n2_; clear n0_ n1_ n2_; (try clear hb); (try clear hb2); (try clear hk); (try clear hi)) | ((with_reducible refine gate_builtin (b := .append) (xs := #[.tmp 32, .tmp 34]) rfl ?_); (try (refine gate_guard (by rfl) ?_; dsimp only)); at_builtin; refine Kd.R_append (Kd.int .i64) (w0 := w) w.heap.size rfl (.tmp 32) (.tmp 34) 29 3 (.int .i64 0) 8 rfl Try.underlying29 info3 rfl (by decide) (by omega) u5 x5_1 x6_1 [.int .i64 x6_1] (fun _ => True) (fun _ => False) rfl rfl ?aP (fun _ hk => hk.elim) ?aF ?aO ?aB ?aS ?aL ?_; (case aP => exact rfl); (case aB => exact (by repeat (first | (with_reducible first | exact HB.out | apply below_alloc | apply pw_below_drewN | apply below_drew1 | refine below_set ?_ GE153.out) | exact HB.out))); (case aF => exact (fun _ _ => trivial)); (case aO => exact (by (with_reducible repeat (first | apply Kd.R_alloc | apply Kd.R_drewN | apply Kd.R_drew)); exact HO_5.out)); (case aS => exact (below_size (by repeat (first | (with_reducible first | exact HB.out | apply below_alloc | apply pw_below_drewN | apply below_drew1 | refine below_set ?_ GE153.out) | exact HB.out)))); (case aL => have := LMc10.out; omega); intro v157 w13 ho hb hg hat; rw [← Ny156.out] at ho; have n0_ := Aside0.mk (blk_grown (g := gb153) (o := .cells #[.slice (some ad154) l0_0.length c0_0] 24 (0, 0)) (by (with_reducible repeat (first | refine blk_drewN ?_ _ | refine blk_drew ?_ | refine blk_alloc ?_ _)); exact BK153.out) hg (Kd.R_ne HO_5.out BK153.out (by decide))); have n1_ := Aside0.mk (hb); have n2_ := Aside0.mk (ho); clear BK153; clear HB; clear HO_5; have BK153 := n0_; have HB := n1_; have HO158 := n2_; clear n0_ n1_ n2_; clear ho hb hg hat))
         go_roundg k1
         case measure => have := HK1.out; omega
         case rel => exact ⟨(y156), (wrap64 (x6_1 + 1)), (by first | rfl | (simp; done) | (simp [*]; done)), H', ⟨by have := HK1.out; omega⟩, ⟨by (with_reducible repeat (first | apply Kd.R_alloc | apply Kd.R_drewN | apply Kd.R_drew)); exact HO158.out⟩, ⟨by (with_reducible repeat (first | refine blk_drewN ?_ _ | refine blk_drew ?_ | refine blk_alloc ?_ _)); exact BK153.out⟩, ⟨by repeat (first | (with_reducible first | exact HB.out | apply below_alloc | apply pw_below_drewN | apply below_drew1 | refine below_set ?_ GE153.out) | exact HB.out)⟩⟩
        ·rw [if_neg c10] at H
         exact absurd H (by simp)
       ·replace c9 := Bool.eq_false_iff.mpr c9
        subst c9
        have H1 : (davitref11_Of.l0 k1 a1 x5_1 (wrap64 (x6_1 + 1)) l0_0) = some r := by rw [if_neg (show ¬ (false = true) by decide)] at H; exact H
        clear H
        have H := H1
        clear H1
        have H' := Aside0.mk H
        clear H
        have hcz14_0 : wr.cell? ⟨gb153, 0, none⟩ = some (.slice A0_0 l0_0.length c0_0) := (blk_cell BK153.out 0).trans rfl
        have hfz14_0 := blk_frozen BK153.out 0
        have p154 : 0 ≤ (a1 : Int) := of_decide_eq_true (by first | (with_reducible assumption) | assumption)
        have q154 : a1 < (l0_0.length : Int) := of_decide_eq_true (by first | (with_reducible assumption) | assumption)
        obtain ⟨ad154, A154_2, c154_2, e154, hx154_0, hx154_1, hx154_2, hl154_2, hi154_2⟩ := at_T33 HR0_0.out a1 p154 q154
        cases e154
        replace hx154_0 := (HB.out.cell (World.block_lt_of_cell? w _ hx154_0)).trans hx154_0
        replace hx154_1 := (HB.out.cell (World.block_lt_of_cell? w _ hx154_1)).trans hx154_1
        replace hx154_2 := (HB.out.cell (World.block_lt_of_cell? w _ hx154_2)).trans hx154_2
        have HR154_2 := Aside0.mk hi154_2
        have HC154_2 := Aside0.mk hl154_2
        clear hi154_2 hl154_2
        replace p154 := eq_true p154
        replace q154 := eq_true q154
        go_wp2_with (first | (go_at_call 25; (with_reducible refine (davitref11_Calls.calls k1 ((rd_T33 l0_0 a1).f0) ((rd_T33 l0_0 a1).f1) _ _ ((rd_T33 l0_0 a1).f2) x6_1 false _ ?side1 ?side2 A8.out).mono ?_); (case side1 => repeat (first | exact (Kd.C_below HR154_2.out HB.out) | (with_reducible refine Kd.C_alloc ?_ _) | (with_reducible refine Kd.C_drewN ?_ _) | (with_reducible refine Kd.C_drew ?_))); (case side2 => exact HC154_2.out); rintro e w15 ⟨rfl, hb⟩; have n0_ := Aside0.mk (Kd.R_below (by (with_reducible repeat (first | apply Kd.R_alloc | apply Kd.R_drewN | apply Kd.R_drew)); exact HO_5.out) hb); have n1_ := Aside0.mk (blk_below (g := gb153) (o := .cells #[.slice (some ad154) l0_0.length c0_0] 24 (0, 0)) (by (with_reducible repeat (first | refine blk_drewN ?_ _ | refine blk_drew ?_ | refine blk_alloc ?_ _)); exact BK153.out) hb); have n2_ := Aside0.mk (below_step (by repeat (first | (with_reducible first | exact HB.out | apply below_alloc | apply pw_below_drewN | apply below_drew1 | refine below_set ?_ GE153.out) | exact HB.out)) hb); clear HO_5; clear BK153; clear HB; have HO_5 := n0_; have BK153 := n1_; have HB := n2_; clear n0_ n1_ n2_; (try clear hb); (try clear hb2); (try clear hk); (try clear hi)))
        go_roundg k1
        case measure => have := HK1.out; omega
        case rel => exact ⟨(x5_1), (wrap64 (x6_1 + 1)), (by first | rfl | (simp; done) | (simp [*]; done)), H', ⟨by have := HK1.out; omega⟩, ⟨by (with_reducible repeat (first | apply Kd.R_alloc | apply Kd.R_drewN | apply Kd.R_drew)); exact HO_5.out⟩, ⟨by (with_reducible repeat (first | refine blk_drewN ?_ _ | refine blk_drew ?_ | refine blk_alloc ?_ _)); exact BK153.out⟩, ⟨by repeat (first | (with_reducible first | exact HB.out | apply below_alloc | apply pw_below_drewN | apply below_drew1 | refine below_set ?_ GE153.out) | exact HB.out)⟩⟩
      ·rw [if_neg c7] at H
       exact absurd H (by simp)
     ·rw [if_neg c6] at H
      have c6b0 : decide (a1 < (l0_0.length : Int)) = false := decide_eq_false c6
      clear c6
      have H' := Aside0.mk H
      clear H
      have hcz16_0 : wr.cell? ⟨gb153, 0, none⟩ = some (.slice A0_0 l0_0.length c0_0) := (blk_cell BK153.out 0).trans rfl
      have hfz16_0 := blk_frozen BK153.out 0
      go_wp2
      go_roundg k1
      case measure => have := HK1.out; omega
      case rel => exact ⟨(x5_1), (wrap64 (x6_1 + 1)), (by first | rfl | (simp; done) | (simp [*]; done)), H', ⟨by have := HK1.out; omega⟩, ⟨by (with_reducible repeat (first | apply Kd.R_alloc | apply Kd.R_drewN | apply Kd.R_drew)); exact HO_5.out⟩, ⟨by (with_reducible repeat (first | refine blk_drewN ?_ _ | refine blk_drew ?_ | refine blk_alloc ?_ _)); exact BK153.out⟩, ⟨by repeat (first | (with_reducible first | exact HB.out | apply below_alloc | apply pw_below_drewN | apply below_drew1 | refine below_set ?_ GE153.out) | exact HB.out)⟩⟩
    ·rw [if_neg c5] at H
     have c5b0 : decide (0 ≤ a1) = false := decide_eq_false c5
     clear c5
     have H' := Aside0.mk H
     clear H
     have hcz17_0 : wr.cell? ⟨gb153, 0, none⟩ = some (.slice A0_0 l0_0.length c0_0) := (blk_cell BK153.out 0).trans rfl
     have hfz17_0 := blk_frozen BK153.out 0
     go_wp2
     go_roundg k1
     case measure => have := HK1.out; omega
     case rel => exact ⟨(x5_1), (wrap64 (x6_1 + 1)), (by first | rfl | (simp; done) | (simp [*]; done)), H', ⟨by have := HK1.out; omega⟩, ⟨by (with_reducible repeat (first | apply Kd.R_alloc | apply Kd.R_drewN | apply Kd.R_drew)); exact HO_5.out⟩, ⟨by (with_reducible repeat (first | refine blk_drewN ?_ _ | refine blk_drew ?_ | refine blk_alloc ?_ _)); exact BK153.out⟩, ⟨by repeat (first | (with_reducible first | exact HB.out | apply below_alloc | apply pw_below_drewN | apply below_drew1 | refine below_set ?_ GE153.out) | exact HB.out)⟩⟩
   ·rw [if_neg c4] at H
    have c4b0 : decide (x6_1 < (l0_0.length : Int)) = false := decide_eq_false c4
    clear c4
    obtain rfl := Option.some.inj H
    have hcz18_0 : wr.cell? ⟨gb153, 0, none⟩ = some (.slice A0_0 l0_0.length c0_0) := (blk_cell BK153.out 0).trans rfl
    have hfz18_0 := blk_frozen BK153.out 0
    go_wp2
    go_ret
    exact ⟨_, by first | rfl | (simp [errW_none, errW_some] <;> rfl) | (simp [*, errW_none, errW_some] <;> rfl), by (with_reducible repeat (first | apply Kd.R_alloc | apply Kd.R_drewN | apply Kd.R_drew)); exact HO_5.out, by repeat (first | (with_reducible first | exact HB.out | apply below_alloc | apply pw_below_drewN | apply below_drew1 | refine below_set ?_ GE153.out) | exact HB.out)⟩
end
end Go.Proofs.Ytjjcnbfmmhokeaa.X
namespace Go.Proofs.Ytjjcnbfmmhokeaa.G
open Go.Proofs.Ytjjcnbfmmhokeaa.X Go.RowKit Go.Proofs.YtjjcnbfmmhokeaaW.PrintWords
set_option linter.all false
def insCalls (l : List S36) (k : Int) : Bool := l.any fun x => x.f0 == 11 && x.f5 == k
def blkCalls (b : S44) (k : Int) : Bool := insCalls b.f2 k || (b.f3.f0 == 4 && b.f3.f3 == k)
def callsB (bs : List S44) (k : Int) : Bool := bs.any fun b => blkCalls b k
def E (m : List S33) (a b : Nat) : Bool := callsB (m.getD a z33).f2 (b : Int)
def ofL (m : List S33) (a : Nat) : List Int := pickN (E m a) m.length
theorem goIns_ok : ∀ (l : List S36) (out : List Int), out.length + l.length < 1000000 → ∃ r, goIns l out = some r ∧ r.length ≤ out.length + l.length ∧ ∀ k, k ∈ r ↔ k ∈ out ∨ insCalls l k = true
 | [], out, _ => ⟨out, rfl, Nat.le_refl _, fun k => by simp [insCalls]⟩
 | x :: r, out, h => by
  simp only [List.length_cons] at h
  rw [goIns]
  by_cases e : x.f0 = 11
  ·rw [if_pos e, if_pos (by omega)]
   obtain ⟨q, h1, h2, h3⟩ := goIns_ok r (out ++ [x.f5]) (by simp; omega)
   refine ⟨q, h1, by simp at h2 ⊢; omega, fun k => (h3 k).trans ?_⟩
   simp only [insCalls, List.any_cons, List.mem_append, List.mem_singleton, Bool.or_eq_true, Bool.and_eq_true, beq_iff_eq, e]
   constructor
   ·rintro ((h | h) | h)
    ·exact .inl h
    ·exact .inr (.inl ⟨trivial, h.symm⟩)
    ·exact .inr (.inr h)
   ·rintro (h | h | h)
    ·exact .inl (.inl h)
    ·exact .inl (.inr h.2.symm)
    ·exact .inr h
  ·rw [if_neg e]
   obtain ⟨q, h1, h2, h3⟩ := goIns_ok r out (by omega)
   refine ⟨q, h1, by simp; omega, fun k => (h3 k).trans ?_⟩
   simp only [insCalls, List.any_cons, Bool.or_eq_true, Bool.and_eq_true, beq_iff_eq, e, false_and, false_or]
theorem goBlk_ok : ∀ (l : List S44) (out : List Int), (∀ b ∈ l, b.f2.length ≤ 70) → out.length + l.length * 71 < 1000000 → ∃ r, goBlk l out = some r ∧ r.length ≤ out.length + l.length * 71 ∧ ∀ k, k ∈ r ↔ k ∈ out ∨ callsB l k = true
 | [], out, _, _ => ⟨out, rfl, by simp, fun k => by simp [callsB]⟩
 | b :: r, out, hb, h => by
  simp only [List.length_cons] at h
  have h70 := hb b (by simp)
  obtain ⟨o1, e1, l1, m1⟩ := goIns_ok b.f2 out (by omega)
  have e2 : ∃ o2, goEnd b o1 = some o2 ∧ o2.length ≤ o1.length + 1 ∧ ∀ k, k ∈ o2 ↔ k ∈ o1 ∨ (b.f3.f0 = 4 ∧ b.f3.f3 = k) := by
   unfold goEnd
   by_cases e : b.f3.f0 = 4
   ·rw [if_pos e, if_pos (by omega)]
    exact ⟨_, rfl, by simp, fun k => by simp [e, eq_comm]⟩
   ·rw [if_neg e]
    exact ⟨_, rfl, by omega, fun k => by simp [e]⟩
  obtain ⟨o2, e2, l2, m2⟩ := e2
  obtain ⟨q, e3, l3, m3⟩ := goBlk_ok r o2 (fun x hx => hb x (by simp [hx])) (by omega)
  refine ⟨q, by rw [goBlk, e1, Option.bind_some, e2, Option.bind_some, e3], by simp; omega, fun k => ?_⟩
  rw [m3, m2, m1]
  simp only [callsB, List.any_cons, blkCalls, Bool.or_eq_true, Bool.and_eq_true, beq_iff_eq]
  constructor
  ·rintro (((h | h) | h) | h)
   ·exact .inl h
   ·exact .inr (.inl (.inl h))
   ·exact .inr (.inl (.inr h))
   ·exact .inr (.inr h)
  ·rintro (h | (h | h) | h)
   ·exact .inl (.inl (.inl h))
   ·exact .inl (.inl (.inr h))
   ·exact .inl (.inr h)
   ·exact .inr h
theorem isB_iff (n : Nat) (k : Int) : isB n k = true ↔ 0 ≤ k ∧ k < (n : Int) := by unfold isB; simp
theorem of_prog (m : List S33) (hm : Sh m) (a : Int) : calls_Of.f m a = some (if isB m.length a = true then ofL m a.toNat else []) := by
 unfold calls_Of.f
 by_cases h : isB m.length a = true
 ·rw [if_pos h, if_pos h]
  have h01 := (isB_iff _ _).1 h
  have hf : rd_T33 m a = m.getD a.toNat z33 := rfl
  have hmem : m.getD a.toNat z33 ∈ m := getD_in m _ z33 (by omega)
  have hg := hm.fn _ hmem
  rw [hf]
  obtain ⟨o, e1, l1, m1⟩ := goBlk_ok (m.getD a.toNat z33).f2 [] (fun b hb => (hg.blk b hb).ins) (by have := hg.len; rw [List.length_nil]; omega)
  have := hg.len
  rw [e1, Option.bind_some, if_pos (by rw [List.length_nil] at l1; omega)]
  congr 1
  rw [compact_pick _ m.length (fun x hx => (isB_iff _ _).1 (List.mem_filter.1 hx).2)]
  unfold ofL pickN
  congr 1
  refine List.filter_congr fun k hk => ?_
  have hk := List.mem_range.1 hk
  have e : ((k : Int) ∈ o.filter fun k => isB m.length k) ↔ E m a.toNat k = true := by
   rw [List.mem_filter, m1, isB_iff]
   unfold E
   constructor
   ·rintro ⟨h1 | h1, _⟩
    ·cases h1
    ·exact h1
   ·intro h1
    exact ⟨.inr h1, by omega, by omega⟩
  cases hE : E m a.toNat k with
  | true => exact decide_eq_true (e.2 hE)
  | false => exact decide_eq_false fun h => by rw [e.1 h] at hE; cases hE
 ·rw [if_neg h, if_neg h]
theorem refCalls_l1 (l : List S44) (a0 a1 : Int) (k : Int) (hl : l.length ≤ 100000) (i : Nat) (hi : i < l.length) (hb : (l.getD i z44).f2.length ≤ 100000) (res : Bool)
  (hyes : blkCalls (l.getD i z44) k = true → res = true) (hno : blkCalls (l.getD i z44) k = false → Evt (fun f => davitref11_Calls.l0 f k ((i : Int) + 1) a0 a1 l) res) :
  ∀ (d j : Nat), j + d = (l.getD i z44).f2.length → (insCalls ((l.getD i z44).f2.take j) k = false) → Evt (fun f => davitref11_Calls.l1 f k (i : Int) (j : Int) a0 a1 l) res := by
 obtain ⟨b, hbe⟩ : ∃ b, b = l.getD i z44 := ⟨_, rfl⟩
 rw [← hbe] at hb hyes hno ⊢
 intro d
 induction d with
 | zero =>
  intro j hj hp
  rw [List.take_of_length_le (by omega)] at hp
  by_cases e4 : b.f3.f0 = 4
  ·by_cases ek : b.f3.f3 = k
   ·obtain rfl := hyes (by unfold blkCalls; simp [e4, ek])
    refine Evt.succ (Evt.congr (Evt.pure _) fun f => ?_)
    rw [davitref11_Calls.l1, if_pos (by omega), if_pos (by omega), rdB, ← hbe, if_neg (by omega), if_pos e4, if_pos ek]
   ·refine Evt.succ (Evt.congr (hno (by unfold blkCalls; simp [hp, ek])) fun f => ?_)
    rw [davitref11_Calls.l1, if_pos (by omega), if_pos (by omega), rdB, ← hbe, if_neg (by omega), if_pos e4, if_neg ek, wrap_small _ (by omega) (by omega)]
  ·refine Evt.succ (Evt.congr (hno (by unfold blkCalls; simp [hp, e4])) fun f => ?_)
   rw [davitref11_Calls.l1, if_pos (by omega), if_pos (by omega), rdB, ← hbe, if_neg (by omega), if_neg e4, wrap_small _ (by omega) (by omega)]
 | succ d ih =>
  intro j hj hp
  have hjl : j < b.f2.length := by omega
  have hw : wrap64 ((j : Int) + 1) = (j : Int) + 1 := wrap_small _ (by omega) (by omega)
  by_cases hc : (b.f2.getD j z36).f0 = 11 ∧ (b.f2.getD j z36).f5 = k
  ·obtain rfl := hyes (by
    unfold blkCalls insCalls
    rw [Bool.or_eq_true]
    exact .inl (List.any_eq_true.2 ⟨_, getD_in b.f2 j z36 hjl, by simp only [hc.1, hc.2, beq_self_eq_true, Bool.and_self]⟩))
   refine Evt.succ (Evt.congr (Evt.pure _) fun f => ?_)
   rw [davitref11_Calls.l1, if_pos (by omega), if_pos (by omega), rdB, ← hbe, if_pos (by omega), if_pos (by omega), rdI, if_pos hc.1, if_pos hc.2]
  ·have nx := ih (j + 1) (by omega) (by
    rw [take_snoc b.f2 j z36 hjl]
    unfold insCalls at hp ⊢
    rw [List.any_append, hp, Bool.false_or, List.any_cons, List.any_nil, Bool.or_false, Bool.and_eq_false_iff]
    by_cases e : (b.f2.getD j z36).f0 = 11
    ·right; exact beq_eq_false_iff_ne.2 (fun h => hc ⟨e, h⟩)
    ·left; exact beq_eq_false_iff_ne.2 e)
   rw [cast_succ] at nx
   refine Evt.succ (Evt.congr nx fun f => ?_)
   rw [davitref11_Calls.l1, if_pos (by omega), if_pos (by omega), rdB, ← hbe, if_pos (by omega), if_pos (by omega), rdI, hw]
   by_cases e : (b.f2.getD j z36).f0 = 11
   ·rw [if_pos e, if_neg (fun h => hc ⟨e, h⟩)]
   ·rw [if_neg e]
theorem refCalls_ev (l : List S44) (a0 a1 : Int) (k : Int) (hl : l.length ≤ 100000) (hb : ∀ b ∈ l, b.f2.length ≤ 100000) : Evt (fun f => davitref11_Calls.f f a0 a1 l k) (callsB l k) := by
 have key : ∀ (d i : Nat), i + d = l.length → callsB (l.take i) k = false → Evt (fun f => davitref11_Calls.l0 f k (i : Int) a0 a1 l) (callsB l k) := by
  intro d
  induction d with
  | zero =>
   intro i hi hp
   rw [List.take_of_length_le (by omega)] at hp
   rw [hp]
   refine Evt.succ (Evt.congr (Evt.pure _) fun f => ?_)
   rw [davitref11_Calls.l0, if_neg (by omega)]
  | succ d ih =>
   intro i hi hp
   have hil : i < l.length := by omega
   have hmem := getD_in l i z44 hil
   have := refCalls_l1 l a0 a1 k hl i hil (hb _ hmem) (callsB l k) (fun h => by unfold callsB; exact List.any_eq_true.2 ⟨_, hmem, h⟩) (fun h => by
    have := ih (i + 1) (by omega) (by
     rw [take_snoc l i z44 hil]
     unfold callsB at hp ⊢
     rw [List.any_append, hp, Bool.false_or, List.any_cons, List.any_nil, Bool.or_false]
     exact h)
    rwa [cast_succ] at this) (l.getD i z44).f2.length 0 (by omega) rfl
   refine Evt.succ (Evt.congr this fun f => ?_)
   rw [davitref11_Calls.l0, if_pos (by omega)]
   rfl
 exact key l.length 0 (by omega) rfl
theorem of_ref (m : List S33) (hm : Sh m) (a : Int) : Evt (fun f => davitref11_Of.f f m a) (if isB m.length a = true then ofL m a.toNat else []) := by
 have hl := hm.len
 by_cases h : isB m.length a = true
 ·rw [if_pos h]
  have h01 := (isB_iff _ _).1 h
  have hg := hm.fn _ (getD_in m a.toNat z33 (by omega))
  have key : ∀ (d i : Nat), i + d = m.length → Evt (fun f => davitref11_Of.l0 f a (pickN (E m a.toNat) i) (i : Int) m) (ofL m a.toNat) := by
   intro d
   induction d with
   | zero =>
    intro i hi
    obtain rfl : i = m.length := by omega
    refine Evt.succ (Evt.congr (Evt.pure _) fun f => ?_)
    rw [davitref11_Of.l0, if_neg (by omega)]
    rfl
   | succ d ih =>
    intro i hi
    have nx := ih (i + 1) (by omega)
    rw [cast_succ, pickN_succ] at nx
    have hc := refCalls_ev (m.getD a.toNat z33).f2 (m.getD a.toNat z33).f0 (m.getD a.toNat z33).f1 (i : Int) (by have := hg.len; omega) (fun b hb => by have := (hg.blk b hb).ins; omega)
    have hlen := pickN_len (E m a.toNat) i
    refine Evt.succ (Evt.congr (Evt.bind (h := fun f t155 => (if t155 = true then (if (pickN (E m a.toNat) i).length < 17592186044416 then (davitref11_Of.l0 f a (pickN (E m a.toNat) i ++ [(i : Int)]) (wrap64 ((i : Int) + 1)) m) else none) else (davitref11_Of.l0 f a (pickN (E m a.toNat) i) (wrap64 ((i : Int) + 1)) m))) hc ?_) fun f => ?_)
    ·refine Evt.congr nx fun f => ?_
     rw [wrap_small _ (by omega) (by omega)]
     by_cases hE : E m a.toNat i = true
     ·rw [if_pos (show callsB _ _ = true from hE), if_pos (by omega), if_pos hE]
     ·rw [if_neg (show ¬ callsB _ _ = true from hE), if_neg hE, List.append_nil]
    ·rw [davitref11_Of.l0, if_pos (by omega), if_pos (by omega), if_pos (by omega), if_pos (by omega)]
     rfl
  exact key m.length 0 (by omega)
 ·rw [if_neg h]
  have h01 : ¬ (0 ≤ a ∧ a < (m.length : Int)) := fun h2 => h ((isB_iff _ _).2 h2)
  have key : ∀ (d i : Nat), i + d = m.length → Evt (fun f => davitref11_Of.l0 f a [] (i : Int) m) ([] : List Int) := by
   intro d
   induction d with
   | zero =>
    intro i hi
    refine Evt.succ (Evt.congr (Evt.pure _) fun f => ?_)
    rw [davitref11_Of.l0, if_neg (by omega)]
   | succ d ih =>
    intro i hi
    have nx := ih (i + 1) (by omega)
    rw [cast_succ] at nx
    refine Evt.succ (Evt.congr nx fun f => ?_)
    rw [davitref11_Of.l0, if_pos (by omega), wrap_small _ (by omega) (by omega)]
    by_cases h1 : a ≥ 0
    ·rw [if_pos h1, if_neg (by omega)]
    ·rw [if_neg h1]
  exact key m.length 0 (by omega)
theorem has_ev (l : List Int) (x : Int) (hl : l.length ≤ 100000) : Evt (fun f => davitref07_Has.f f l x) (decide (x ∈ l)) := by
 have key : ∀ (d i : Nat), i + d = l.length → x ∉ l.take i → Evt (fun f => davitref07_Has.l0 f l x (i : Int)) (decide (x ∈ l)) := by
  intro d
  induction d with
  | zero =>
   intro i hi hp
   rw [List.take_of_length_le (by omega)] at hp
   rw [decide_eq_false hp]
   refine Evt.succ (Evt.congr (Evt.pure _) fun f => ?_)
   rw [davitref07_Has.l0, if_neg (by omega)]
  | succ d ih =>
   intro i hi hp
   have hil : i < l.length := by omega
   have hr : rd l (i : Int) = l.getD i 0 := by unfold rd; rw [Int.toNat_natCast]
   by_cases e : l.getD i 0 = x
   ·rw [decide_eq_true (by rw [← e]; exact getD_in l i 0 hil)]
    refine Evt.succ (Evt.congr (Evt.pure _) fun f => ?_)
    rw [davitref07_Has.l0, if_pos (by omega), if_pos (by omega), hr, if_pos e]
   ·have nx := ih (i + 1) (by omega) (by
     rw [take_snoc l i 0 hil, List.mem_append, List.mem_singleton]
     rintro (h | h)
     ·exact hp h
     ·exact e h.symm)
    rw [cast_succ] at nx
    refine Evt.succ (Evt.congr nx fun f => ?_)
    rw [davitref07_Has.l0, if_pos (by omega), if_pos (by omega), hr, if_neg e, wrap_small _ (by omega) (by omega)]
 exact key l.length 0 (by omega) (by simp)
end Go.Proofs.Ytjjcnbfmmhokeaa.G
namespace Go.Proofs.Ytjjcnbfmmhokeaa.X
open Go.RowKit Go.Proofs.YtjjcnbfmmhokeaaW.PrintWords Go.Proofs.YtjjcnbfmmhokeaaW.PrintLast Go.Proofs.YtjjcnbfmmhokeaaW.PrintMore
attribute [local go_sem] max2_int min2_int max_two min_two max_three min_three max_four min_four
set_option linter.all false
noncomputable section
mutual
def davitref11_To.l0 : Nat → List Int → Int → List (S33) → Option (List Int)
 | 0, _, _, _ => none
 | k + 1, x5, x6, x160000 => if x6 < (x5.length : Int) then (if 0 ≤ x6 then ((davitref11_Of.f k x160000 (rd x5 x6)).bind fun t164 => (davitref11_To.l1 k x5 x6 t164 0 x160000)) else (none)) else (some x5)
def davitref11_To.l1 : Nat → List Int → Int → List Int → Int → List (S33) → Option (List Int)
 | 0, _, _, _, _, _ => none
 | k + 1, x5, x6, x7, x8, x160000 => if x8 < (x7.length : Int) then (if 0 ≤ x8 then ((davitref07_Has.f k x5 (rd x7 x8)).bind fun t168 => (if t168 = true then (davitref11_To.l1 k x5 x6 x7 (wrap64 (x8 + 1)) x160000) else (if x5.length < 17592186044416 then (davitref11_To.l1 k (x5 ++ [rd x7 x8]) x6 x7 (wrap64 (x8 + 1)) x160000) else (none)))) else (none)) else (davitref11_To.l0 k x5 (wrap64 (x6 + 1)) x160000)
end
def davitref11_To.f (k : Nat) (l0_0 : List (S33)) (a1 : Int) : Option (List Int) := (davitref11_Of.f k l0_0 a1).bind fun t160 => (davitref11_To.l0 k t160 0 l0_0)
theorem davitref11_To.mono_l : ∀ k, (∀ y0 y1 y2, LeO (davitref11_To.l0 k y0 y1 y2) (davitref11_To.l0 (k + 1) y0 y1 y2)) ∧ (∀ y0 y1 y2 y3 y4, LeO (davitref11_To.l1 k y0 y1 y2 y3 y4) (davitref11_To.l1 (k + 1) y0 y1 y2 y3 y4))
 | 0 => ⟨fun _ _ _ r h => by simp [davitref11_To.l0] at h, fun _ _ _ _ _ r h => by simp [davitref11_To.l1] at h⟩
 | k + 1 => by
  obtain ⟨ih0, ih1⟩ := davitref11_To.mono_l k
  refine ⟨?_, ?_⟩
  ·intro y0 y1 y2
   unfold davitref11_To.l0
   repeat' first
   | (with_reducible exact ih0 _ _ _)
   | (with_reducible exact ih1 _ _ _ _ _)
   | (with_reducible exact davitref07_Has.mono _ _ _)
   | (with_reducible exact davitref11_Of.mono _ _ _)
   | (with_reducible exact LeO.refl _)
   | (with_reducible exact LeO.none _)
   | (with_reducible refine LeO.ite ?_ ?_)
   | (with_reducible refine LeO.bind ?_ (fun _ => ?_))
   | exact ih0 _ _ _
   | exact ih1 _ _ _ _ _
   | exact davitref07_Has.mono _ _ _
   | exact davitref11_Of.mono _ _ _
   | exact LeO.none _
   | refine LeO.ite ?_ ?_
   | refine LeO.bind ?_ (fun _ => ?_)
  ·intro y0 y1 y2 y3 y4
   unfold davitref11_To.l1
   repeat' first
   | (with_reducible exact ih0 _ _ _)
   | (with_reducible exact ih1 _ _ _ _ _)
   | (with_reducible exact davitref07_Has.mono _ _ _)
   | (with_reducible exact davitref11_Of.mono _ _ _)
   | (with_reducible exact LeO.refl _)
   | (with_reducible exact LeO.none _)
   | (with_reducible refine LeO.ite ?_ ?_)
   | (with_reducible refine LeO.bind ?_ (fun _ => ?_))
   | exact ih0 _ _ _
   | exact ih1 _ _ _ _ _
   | exact davitref07_Has.mono _ _ _
   | exact davitref11_Of.mono _ _ _
   | exact LeO.none _
   | refine LeO.ite ?_ ?_
   | refine LeO.bind ?_ (fun _ => ?_)
theorem davitref11_To.mono : ∀ a0 a1 k, LeO (davitref11_To.f k a0 a1) (davitref11_To.f (k + 1) a0 a1) := by
 intro a0 a1 k
 obtain ⟨ih0, ih1⟩ := davitref11_To.mono_l k
 unfold davitref11_To.f
 repeat' first
   | (with_reducible exact ih0 _ _ _)
   | (with_reducible exact ih1 _ _ _ _ _)
   | (with_reducible exact davitref07_Has.mono _ _ _)
   | (with_reducible exact davitref11_Of.mono _ _ _)
   | (with_reducible exact LeO.refl _)
   | (with_reducible exact LeO.none _)
   | (with_reducible refine LeO.ite ?_ ?_)
   | (with_reducible refine LeO.bind ?_ (fun _ => ?_))
   | exact ih0 _ _ _
   | exact ih1 _ _ _ _ _
   | exact davitref07_Has.mono _ _ _
   | exact davitref11_Of.mono _ _ _
   | exact LeO.none _
   | refine LeO.ite ?_ ?_
   | refine LeO.bind ?_ (fun _ => ?_)
set_option maxHeartbeats 8000000 in
set_option maxRecDepth 100000 in
theorem davitref11_To.calls (k : Nat) (A0_0 : Option Addr) (c0_0 : Nat) (l0_0 : List (S33)) (a1 : Int) (r : List Int) (w : World) (hr0_0 : Kd.C k33 w A0_0 l0_0.length l0_0) (hc0_0 : l0_0.length ≤ c0_0) (h : davitref11_To.f k l0_0 a1 = some r) :
  Calls Try.prog 14 #[.agg #[.slice A0_0 l0_0.length c0_0], .int .i64 a1] w fun e w' => ∃ v0_ : Value, e = .returned (v0_) ∧ Kd.R (Kd.int .i64) 3 w' w.heap.size (fun _ => True) v0_ r ∧ Below w.heap.size w w' := by
 have hu24 := Try.underlying24
 have HR0_0 := Aside0.mk hr0_0
 have HC0_0 := Aside0.mk hc0_0
 clear hr0_0 hc0_0
 have HB := Aside0.mk (Below.refl w.heap.size w)
 have H : ((davitref11_Of.f k l0_0 a1).bind fun t160 => (davitref11_To.l0 k t160 0 l0_0)) = some r := h
 clear h
 replace H := Option.bind_eq_some_iff.mp H
 obtain ⟨t160, A30, H⟩ := H
 replace H : (davitref11_To.l0 k t160 0 l0_0) = some r := H
 have A3 := Aside0.mk A30
 clear A30
 have H' := Aside0.mk H
 clear H
 go_enter Try.func14, Try.ntmps14
 go_wp2_with (first | ((with_reducible refine gate_dst (N := 2) rfl ?_); refine box_event ?hg (N := 2) ?hd (cs := #[.slice A0_0 l0_0.length c0_0]) (t := 24) ?hr ?_; (case hd => rfl); (case hg => rfl); (case hr => first | (go_simp; done) | (go_simp; rfl)); intro gb159 hg w4 hbox hb; have n0_ := Aside0.mk (below_step (by repeat (first | (with_reducible first | exact HB.out | apply below_alloc | apply pw_below_drewN | apply below_drew1) | exact HB.out)) hb); have n1_ := Aside0.mk (hbox); have n2_ := Aside0.mk ((by rw [hg]; exact (below_size (by repeat (first | (with_reducible first | exact HB.out | apply below_alloc | apply pw_below_drewN | apply below_drew1) | exact HB.out))) : w.heap.size ≤ gb159)); have n3_ := Aside0.mk ((by rw [hg]; exact (below_size (by repeat (first | (with_reducible first | exact HB.out | apply below_alloc | apply pw_below_drewN | apply below_drew1) | exact HB.out))) : w.heap.size ≤ gb159)); clear HB; have HB := n0_; have BK159 := n1_; have GW159 := n2_; have GE159 := n3_; clear n0_ n1_ n2_ n3_; clear hb hbox hg; have hcz5_0 : w4.cell? ⟨gb159, 0, none⟩ = some (.slice A0_0 l0_0.length c0_0) := (blk_cell BK159.out 0).trans rfl; have hfz5_0 := blk_frozen BK159.out 0) | ((with_reducible refine gate_callee (f := 13) rfl ?_); refine goesL_ (some 11) rfl rfl Try.func13 (by kernel_rfl) rfl #[.agg #[.slice A0_0 l0_0.length c0_0], .int .i64 a1] rfl (by (try simp only [List.map_toArray, List.map_cons, List.map_nil]); first | done | rfl | (simp only [List.length_drop, List.length_take]; rfl)) ?_; (with_reducible refine (davitref11_Of.calls k _ _ l0_0 a1 t160 _ ?side1 ?side2 A3.out).mono ?_); (case side1 => repeat (first | exact (Kd.C_below HR0_0.out HB.out) | (with_reducible refine Kd.C_alloc ?_ _) | (with_reducible refine Kd.C_drewN ?_ _) | (with_reducible refine Kd.C_drew ?_))); (case side2 => exact HC0_0.out); rintro e w6 ⟨v161, rfl, ho0, hb⟩; refine ⟨_, rfl, ?_⟩; have n0_ := Aside0.mk (Kd.R_lower ho0 (below_size (by repeat (first | (with_reducible first | exact HB.out | apply below_alloc | apply pw_below_drewN | apply below_drew1 | refine below_set ?_ GE159.out) | exact HB.out)))); have n1_ := Aside0.mk (blk_below (g := gb159) (o := .cells #[.slice A0_0 l0_0.length c0_0] 24 (0, 0)) (by (with_reducible repeat (first | refine blk_drewN ?_ _ | refine blk_drew ?_ | refine blk_alloc ?_ _)); exact BK159.out) hb); have n2_ := Aside0.mk (below_step (by repeat (first | (with_reducible first | exact HB.out | apply below_alloc | apply pw_below_drewN | apply below_drew1 | refine below_set ?_ GE159.out) | exact HB.out)) hb); clear BK159; clear HB; have HO162 := n0_; have BK159 := n1_; have HB := n2_; clear n0_ n1_ n2_; (try clear hb); (try clear hb2); (try clear hk); (try clear hi); (try clear ho0)))
 go_loopg [5, 6] k (fun kq v5 v6 w' => ∃ (x5_1 : List Int) (x6_1 : Int), v6 = .int .i64 x6_1 ∧ Aside0 (davitref11_To.l0 kq x5_1 x6_1 l0_0 = some r) ∧ Aside0 (kq ≤ k) ∧ Aside0 (Kd.R (Kd.int .i64) 3 w' w.heap.size (fun _ => True) v5 x5_1) ∧ Aside0 (w'.heap[gb159]? = some (.cells #[(.slice A0_0 l0_0.length c0_0)] 24 (0, 0))) ∧ Aside0 (Below w.heap.size w w'))
 case atStart => exact ⟨(t160), (0), (by first | rfl | (simp; done) | (simp [*]; done)), H', ⟨Nat.le_refl _⟩, ⟨by (with_reducible repeat (first | apply Kd.R_alloc | apply Kd.R_drewN | apply Kd.R_drew)); exact HO162.out⟩, ⟨by (with_reducible repeat (first | refine blk_drewN ?_ _ | refine blk_drew ?_ | refine blk_alloc ?_ _)); exact BK159.out⟩, ⟨by repeat (first | (with_reducible first | exact HB.out | apply below_alloc | apply pw_below_drewN | apply below_drew1 | refine below_set ?_ GE159.out) | exact HB.out)⟩⟩
 case round =>
  clear H'
  try clear c1
  try clear p2
  try clear hcz5_0
  try clear hfz5_0
  obtain ⟨x5_1, x6_1, rfl, HA, HK1, HO_5, BK159, HB⟩ := hrel
  cases gk with
  | zero => exact absurd HA.out (by simp [davitref11_To.l0])
  | succ k1 =>
   have H := HA.out
   clear HA
   simp only [davitref11_To.l0] at H
   by_cases c7 : x6_1 < (x5_1.length : Int)
   ·rw [if_pos c7] at H
    have c7b0 : decide (x6_1 < (x5_1.length : Int)) = true := decide_eq_true c7
    clear c7
    by_cases c8 : 0 ≤ x6_1
    ·rw [if_pos c8] at H
     have c8b0 : decide (0 ≤ x6_1) = true := decide_eq_true c8
     clear c8
     replace H := Option.bind_eq_some_iff.mp H
     obtain ⟨t164, A90, H⟩ := H
     replace H : (davitref11_To.l1 k1 x5_1 x6_1 t164 0 l0_0) = some r := H
     have A9 := Aside0.mk A90
     clear A90
     have H' := Aside0.mk H
     clear H
     obtain ⟨Ao10, co10, eo10⟩ := Kd.R_slice HO_5.out
     subst eo10
     try go_wp2
     have n0_ := Aside0.mk (Kd.R_drew HO_5.out)
     have n1_ := Aside0.mk (blk_drew BK159.out)
     have n2_ := Aside0.mk (below_drew1 HB.out)
     clear HO_5
     clear BK159
     clear HB
     have HO_5 := n0_
     have BK159 := n1_
     have HB := n2_
     clear n0_ n1_ n2_
     have p163 : 0 ≤ (x6_1 : Int) := of_decide_eq_true (by first | (with_reducible assumption) | assumption)
     have q163 : x6_1 < (x5_1.length : Int) := of_decide_eq_true (by first | (with_reducible assumption) | assumption)
     obtain ⟨ad163, e163, hx163_0⟩ := Kd.at_int (Kd.R_reads' HO_5.out).2.2 x6_1 p163 q163
     cases e163
     replace p163 := eq_true p163
     replace q163 := eq_true q163
     refine start_ (n := 7) (S := fun w' => w'.cell? ⟨gb159, 0, none⟩ = some (.slice A0_0 l0_0.length c0_0) ∧ w'.cell? (ad163.add (x6_1).toNat) = some (.int .i64 (rd x5_1 x6_1))) (ds := []) #[false, false, false, false, false, false, false] (by kernel_rfl) rfl rfl ⟨(blk_cell BK159.out 0).trans rfl, hx163_0⟩ (fun hHeld => ?_)
     generalize wr.drew = w11 at HO_5 BK159 HB hx163_0 hHeld ⊢
     refine pure_ (i := 1) (N := some 19) (v := ?_) (a' := ?_) #[false, true, false, false, false, false, false] rfl rfl (by kernel_rfl) (fun _ _ _ h => h) (Or.inl ⟨by rfl, ?_⟩) ?_ ?_
     rotate_left
     ·intro w'
      go_simp
      with_reducible rfl
     rotate_left
     ·simp only [Act.put, List.setIfInBounds_toArray, List.set_cons_zero, List.set_cons_succ, i64_w, i32_w]
      rfl
     refine pure_ (i := 2) (N := some 20) (v := ?_) (a' := ?_) #[false, true, true, false, false, false, false] rfl rfl (by kernel_rfl) (fun _ _ _ h => h) (Or.inl ⟨by rfl, ?_⟩) ?_ ?_
     rotate_left
     ·intro w'
      go_simp
      with_reducible rfl
     rotate_left
     ·simp only [Act.put, List.setIfInBounds_toArray, List.set_cons_zero, List.set_cons_succ, i64_w, i32_w]
      rfl
     refine pure_ (i := 3) (N := some 21) (v := ?_) (a' := ?_) #[false, true, true, true, false, false, false] rfl rfl (by kernel_rfl) (fun _ _ _ h => h) (Or.inl ⟨by rfl, ?_⟩) ?_ ?_
     rotate_left
     ·intro w'
      go_simp
      with_reducible rfl
     rotate_left
     ·simp only [Act.put, List.setIfInBounds_toArray, List.set_cons_zero, List.set_cons_succ, i64_w, i32_w]
      rfl
     refine take_ (i := 0) (N := some 18) (v := ?_) (a' := ?_) #[true, true, true, true, false, false, false] rfl rfl (by kernel_rfl) (fun _ _ _ h => h) (Or.inl ⟨by rfl, ?_⟩) hHeld ?_ ?_
     rotate_left
     ·rintro w' ⟨s0, s1⟩
      go_simp
      with_reducible rfl
     rotate_left
     ·simp only [Act.put, List.setIfInBounds_toArray, List.set_cons_zero, List.set_cons_succ, i64_w, i32_w]
      rfl
     refine take_ (i := 4) (N := some 22) (v := ?_) (a' := ?_) #[true, true, true, true, true, false, false] rfl rfl (by kernel_rfl) (fun _ _ _ h => h) (Or.inl ⟨by rfl, ?_⟩) hHeld ?_ ?_
     rotate_left
     ·rintro w' ⟨s0, s1⟩
      go_simp
      with_reducible rfl
     rotate_left
     ·simp only [Act.put, List.setIfInBounds_toArray, List.set_cons_zero, List.set_cons_succ, i64_w, i32_w]
      rfl
     refine one_ (i := 5) (N := some 23) #[true, true, true, true, true, true, false] rfl rfl (by kernel_rfl) (by decide) (fun K hK => ?_)
     refine goes_ Try.func13 (by kernel_rfl) rfl #[.agg #[.slice A0_0 l0_0.length c0_0], .int .i64 (rd x5_1 x6_1)] (by rfl) rfl rfl (by (try simp only [List.map_toArray, List.map_cons, List.map_nil]); first | done | rfl | (simp only [List.length_drop, List.length_take]; rfl)) ?_
     with_reducible refine (davitref11_Of.calls k1 _ _ l0_0 (rd x5_1 x6_1) t164 _ ?side1 ?side2 A9.out).mono ?_
     (case side1 => repeat (first | exact (Kd.C_below HR0_0.out HB.out) | (with_reducible refine Kd.C_alloc ?_ _) | (with_reducible refine Kd.C_drewN ?_ _) | (with_reducible refine Kd.C_drew ?_)))
     (case side2 => exact HC0_0.out)
     rintro e w12 ⟨v165, rfl, ho0, hb⟩
     have HS1_ := (hb.cell (World.block_lt_of_cell? _ _ (hHeld.2))).trans (hHeld.2)
     refine ⟨_, rfl, ?_⟩
     have n0_ := Aside0.mk (Kd.R_elder' (by (with_reducible repeat (first | apply Kd.R_alloc | apply Kd.R_drewN | apply Kd.R_drew)); exact HO_5.out) (Kd.R_base ho0) hb)
     have n1_ := Aside0.mk (Kd.R_lower (Kd.R_new' ho0 (Kd.R_lt (by (with_reducible repeat (first | apply Kd.R_alloc | apply Kd.R_drewN | apply Kd.R_drew)); exact HO_5.out))) (below_size (by repeat (first | (with_reducible first | exact HB.out | apply below_alloc | apply pw_below_drewN | apply below_drew1 | refine below_set ?_ GE159.out) | exact HB.out))))
     have n2_ := Aside0.mk (blk_below (g := gb159) (o := .cells #[.slice A0_0 l0_0.length c0_0] 24 (0, 0)) (by (with_reducible repeat (first | refine blk_drewN ?_ _ | refine blk_drew ?_ | refine blk_alloc ?_ _)); exact BK159.out) hb)
     have n3_ := Aside0.mk (below_step (by repeat (first | (with_reducible first | exact HB.out | apply below_alloc | apply pw_below_drewN | apply below_drew1 | refine below_set ?_ GE159.out) | exact HB.out)) hb)
     clear HO_5
     clear BK159
     clear HB
     have HO_5 := n0_
     have HO166 := n1_
     have BK159 := n2_
     have HB := n3_
     clear n0_ n1_ n2_ n3_
     (try clear hb)
     (try clear hb2)
     (try clear hk)
     (try clear hi)
     (try clear ho0)
     refine hK.out _ _ ⟨(blk_cell BK159.out 0).trans rfl, HS1_⟩ (fun hHeld => ?_)
     clear hK K
     refine norm_ (a' := ?_) ?_ ?_
     rotate_left
     ·show Act.put _ (some 23) _ = _
      simp only [Act.put, List.setIfInBounds_toArray, List.set_cons_zero, List.set_cons_succ, i64_w, i32_w]
      rfl
     refine pure_ (i := 6) (N := some 7) (v := ?_) (a' := ?_) #[true, true, true, true, true, true, true] rfl rfl (by kernel_rfl) (fun _ _ _ h => h) (Or.inl ⟨by rfl, ?_⟩) ?_ ?_
     rotate_left
     ·intro w'
      go_simp
      with_reducible rfl
     rotate_left
     ·simp only [Act.put, List.setIfInBounds_toArray, List.set_cons_zero, List.set_cons_succ, i64_w, i32_w]
      rfl
     refine done_ (by kernel_rfl) ?_
     try go_wp2
     go_loopg [5, 8] k1 (fun kq v5 v8 w' => ∃ (x5_2 : List Int) (x8_2 : Int), v8 = .int .i64 x8_2 ∧ Aside0 (davitref11_To.l1 kq x5_2 x6_1 t164 x8_2 l0_0 = some r) ∧ Aside0 (kq ≤ k1) ∧ Aside0 (Kd.R (Kd.int .i64) 3 w' w.heap.size (fun k_ => some k_ ≠ (v165 : Value).ownBlock) v5 x5_2) ∧ Aside0 (Kd.R (Kd.int .i64) 3 w' w.heap.size (fun k_ => some k_ ≠ (v5 : Value).ownBlock) v165 t164) ∧ Aside0 (w'.heap[gb159]? = some (.cells #[(.slice A0_0 l0_0.length c0_0)] 24 (0, 0))) ∧ Aside0 (Below w.heap.size w w'))
     case atStart => exact ⟨(x5_1), (0), (by first | rfl | (simp; done) | (simp [*]; done)), H', ⟨Nat.le_refl _⟩, ⟨by (with_reducible repeat (first | apply Kd.R_alloc | apply Kd.R_drewN | apply Kd.R_drew)); exact Kd.R_mono HO_5.out (fun _ hk => hk.2)⟩, ⟨by (with_reducible repeat (first | apply Kd.R_alloc | apply Kd.R_drewN | apply Kd.R_drew)); exact Kd.R_mono HO166.out (fun _ hk => hk.2)⟩, ⟨by (with_reducible repeat (first | refine blk_drewN ?_ _ | refine blk_drew ?_ | refine blk_alloc ?_ _)); exact BK159.out⟩, ⟨by repeat (first | (with_reducible first | exact HB.out | apply below_alloc | apply pw_below_drewN | apply below_drew1 | refine below_set ?_ GE159.out) | exact HB.out)⟩⟩
     case round =>
      clear H'
      try clear c1
      try clear p1
      try clear q1
      try clear hx1
      try clear p2
      try clear c7
      try clear c7b0
      try clear c8
      try clear c8b0
      try clear hcz5_0
      try clear hfz5_0
      try clear hx163_0
      try clear p163
      try clear p2
      try clear q163
      obtain ⟨x5_2, x8_2, rfl, HA, HK2, HO_5, HO_7, BK159, HB⟩ := hrel
      cases gk with
      | zero => exact absurd HA.out (by simp [davitref11_To.l1])
      | succ k2 =>
       have H := HA.out
       clear HA
       simp only [davitref11_To.l1] at H
       by_cases c13 : x8_2 < (t164.length : Int)
       ·rw [if_pos c13] at H
        have c13b0 : decide (x8_2 < (t164.length : Int)) = true := decide_eq_true c13
        clear c13
        by_cases c14 : 0 ≤ x8_2
        ·rw [if_pos c14] at H
         have c14b0 : decide (0 ≤ x8_2) = true := decide_eq_true c14
         clear c14
         replace H := Option.bind_eq_some_iff.mp H
         obtain ⟨t168, A150, H⟩ := H
         replace H : (if t168 = true then (davitref11_To.l1 k2 x5_2 x6_1 t164 (wrap64 (x8_2 + 1)) l0_0) else (if x5_2.length < 17592186044416 then (davitref11_To.l1 k2 (x5_2 ++ [rd t164 x8_2]) x6_1 t164 (wrap64 (x8_2 + 1)) l0_0) else (none))) = some r := H
         have A15 := Aside0.mk A150
         clear A150
         by_cases c16 : t168 = true
         ·subst c16
          have H1 : (davitref11_To.l1 k2 x5_2 x6_1 t164 (wrap64 (x8_2 + 1)) l0_0) = some r := by rw [if_pos rfl] at H; exact H
          clear H
          have H := H1
          clear H1
          have H' := Aside0.mk H
          clear H
          obtain ⟨Ao17, co17, eo17⟩ := Kd.R_slice HO_7.out
          subst eo17
          have p167 : 0 ≤ (x8_2 : Int) := of_decide_eq_true (by first | (with_reducible assumption) | assumption)
          have q167 : x8_2 < (t164.length : Int) := of_decide_eq_true (by first | (with_reducible assumption) | assumption)
          obtain ⟨ad167, e167, hx167_0⟩ := Kd.at_int (Kd.R_reads' HO_7.out).2.2 x8_2 p167 q167
          cases e167
          replace p167 := eq_true p167
          replace q167 := eq_true q167
          obtain ⟨Ao18, co18, eo18⟩ := Kd.R_slice HO_5.out
          subst eo18
          go_wp2_with (first | ((with_reducible refine gate_callee (f := 10) rfl ?_); refine goesL_ (some 35) rfl rfl Try.func10 (by kernel_rfl) rfl #[.slice Ao18 x5_2.length co18, .int .i64 (rd t164 x8_2)] rfl (by (try simp only [List.map_toArray, List.map_cons, List.map_nil]); first | done | rfl | (simp only [List.length_drop, List.length_take]; rfl)) ?_; (with_reducible refine (davitref07_Has.calls k2 _ _ x5_2 (rd t164 x8_2) true _ ?side1 ?side2 A15.out).mono ?_); (case side1 => repeat (first | exact (Kd.R_reads' HO_5.out).2.2 | (with_reducible refine Kd.C_alloc ?_ _) | (with_reducible refine Kd.C_drewN ?_ _) | (with_reducible refine Kd.C_drew ?_))); (case side2 => exact (Kd.R_reads' HO_5.out).2.1); rintro e w' ⟨rfl, ⟨nd, rfl⟩⟩; refine ⟨_, rfl, ?_⟩))
          go_roundg k2
          case measure => have := HK1.out; have := HK2.out; omega
          case rel => exact ⟨(x5_2), (wrap64 (x8_2 + 1)), (by first | rfl | (simp; done) | (simp [*]; done)), H', ⟨by have := HK1.out; have := HK2.out; omega⟩, ⟨by (with_reducible repeat (first | apply Kd.R_alloc | apply Kd.R_drewN | apply Kd.R_drew)); exact HO_5.out⟩, ⟨by (with_reducible repeat (first | apply Kd.R_alloc | apply Kd.R_drewN | apply Kd.R_drew)); exact HO_7.out⟩, ⟨by (with_reducible repeat (first | refine blk_drewN ?_ _ | refine blk_drew ?_ | refine blk_alloc ?_ _)); exact BK159.out⟩, ⟨by repeat (first | (with_reducible first | exact HB.out | apply below_alloc | apply pw_below_drewN | apply below_drew1 | refine below_set ?_ GE159.out) | exact HB.out)⟩⟩
         ·replace c16 := Bool.eq_false_iff.mpr c16
          subst c16
          have H1 : (if x5_2.length < 17592186044416 then (davitref11_To.l1 k2 (x5_2 ++ [rd t164 x8_2]) x6_1 t164 (wrap64 (x8_2 + 1)) l0_0) else (none)) = some r := by rw [if_neg (show ¬ (false = true) by decide)] at H; exact H
          clear H
          have H := H1
          clear H1
          by_cases c19 : x5_2.length < 17592186044416
          ·rw [if_pos c19] at H
           have LMc19 := Aside0.mk c19
           clear c19
           obtain ⟨y170, hy170⟩ : ∃ y_ : List Int, y_ = (x5_2 ++ [rd t164 x8_2]) := ⟨_, rfl⟩
           replace H : (davitref11_To.l1 k2 y170 x6_1 t164 (wrap64 (x8_2 + 1)) l0_0) = some r := by first | (rw [hy170]; with_reducible exact H) | (have H2_ := (Option.bind_some _ _).symm.trans H; rw [hy170]; with_reducible exact H2_) | (have H2_ := (Option.bind_some _ _).symm.trans H; with_reducible exact H2_) | with_reducible exact H | (rw [hy170]; exact H) | exact H
           have Ny170 := Aside0.mk hy170
           clear hy170
           have H' := Aside0.mk H
           clear H
           obtain ⟨Ao20, co20, eo20⟩ := Kd.R_slice HO_7.out
           subst eo20
           have p167 : 0 ≤ (x8_2 : Int) := of_decide_eq_true (by first | (with_reducible assumption) | assumption)
           have q167 : x8_2 < (t164.length : Int) := of_decide_eq_true (by first | (with_reducible assumption) | assumption)
           obtain ⟨ad167, e167, hx167_0⟩ := Kd.at_int (Kd.R_reads' HO_7.out).2.2 x8_2 p167 q167
           cases e167
           replace p167 := eq_true p167
           replace q167 := eq_true q167
           obtain ⟨Ao21, co21, eo21⟩ := Kd.R_slice HO_5.out
           subst eo21
           go_wp2_with (first | ((with_reducible refine gate_callee (f := 10) rfl ?_); refine goesL_ (some 35) rfl rfl Try.func10 (by kernel_rfl) rfl #[.slice Ao21 x5_2.length co21, .int .i64 (rd t164 x8_2)] rfl (by (try simp only [List.map_toArray, List.map_cons, List.map_nil]); first | done | rfl | (simp only [List.length_drop, List.length_take]; rfl)) ?_; (with_reducible refine (davitref07_Has.calls k2 _ _ x5_2 (rd t164 x8_2) false _ ?side1 ?side2 A15.out).mono ?_); (case side1 => repeat (first | exact (Kd.R_reads' HO_5.out).2.2 | (with_reducible refine Kd.C_alloc ?_ _) | (with_reducible refine Kd.C_drewN ?_ _) | (with_reducible refine Kd.C_drew ?_))); (case side2 => exact (Kd.R_reads' HO_5.out).2.1); rintro e w' ⟨rfl, ⟨nd, rfl⟩⟩; refine ⟨_, rfl, ?_⟩; have p169 : 0 ≤ (x8_2 : Int) := of_decide_eq_true (by first | (with_reducible assumption) | assumption); have q169 : x8_2 < (t164.length : Int) := of_decide_eq_true (by first | (with_reducible assumption) | assumption); obtain ⟨ad169, e169, hx169_0⟩ := Kd.at_int (Kd.R_reads' HO_7.out).2.2 x8_2 p169 q169; obtain rfl : ad167 = ad169 := (by injection e169); replace p169 := eq_true p169; replace q169 := eq_true q169) | ((with_reducible refine gate_builtin (b := .append) (xs := #[.tmp 37, .tmp 42]) rfl ?_); at_builtin; refine Kd.R_append (Kd.int .i64) (w0 := w) w.heap.size rfl (.tmp 37) (.tmp 42) 29 3 (.int .i64 0) 8 rfl Try.underlying29 info3 rfl (by decide) (by omega) (.slice Ao21 x5_2.length co21) x5_2 (rd t164 x8_2) [.int .i64 (rd t164 x8_2)] (fun k_ => some k_ ≠ (.slice (some ad167) t164.length co20 : Value).ownBlock) (fun _ => False) rfl rfl ?aP (fun _ hk => hk.elim) ?aF ?aO ?aB ?aS ?aL ?_; (case aP => exact rfl); (case aB => exact (by repeat (first | (with_reducible first | exact HB.out | apply below_alloc | apply pw_below_drewN | apply below_drew1 | refine below_set ?_ GE159.out) | exact HB.out))); (case aF => exact (fun k_ hk => Kd.fresh' (Kd.R_lt (by (with_reducible repeat (first | apply Kd.R_alloc | apply Kd.R_drewN | apply Kd.R_drew)); exact HO_7.out)) k_ hk)); (case aO => exact (by (with_reducible repeat (first | apply Kd.R_alloc | apply Kd.R_drewN | apply Kd.R_drew)); exact HO_5.out)); (case aS => exact (below_size (by repeat (first | (with_reducible first | exact HB.out | apply below_alloc | apply pw_below_drewN | apply below_drew1 | refine below_set ?_ GE159.out) | exact HB.out)))); (case aL => have := LMc19.out; omega); intro v171 w22 ho hb hg hat; rw [← Ny170.out] at ho; have n0_ := Aside0.mk (Kd.R_after (ok := (fun _ => True)) (by (with_reducible repeat (first | apply Kd.R_alloc | apply Kd.R_drewN | apply Kd.R_drew)); exact Kd.R_mono HO_7.out (fun _ hk => ⟨trivial, hk⟩)) hg hat); have n1_ := Aside0.mk (blk_grown (g := gb159) (o := .cells #[.slice A0_0 l0_0.length c0_0] 24 (0, 0)) (by (with_reducible repeat (first | refine blk_drewN ?_ _ | refine blk_drew ?_ | refine blk_alloc ?_ _)); exact BK159.out) hg (Kd.R_ne HO_5.out BK159.out (by decide))); have n2_ := Aside0.mk (hb); have n3_ := Aside0.mk (ho); clear HO_7; clear BK159; clear HB; clear HO_5; have HO_7 := n0_; have BK159 := n1_; have HB := n2_; have HO172 := n3_; clear n0_ n1_ n2_ n3_; clear ho hb hg hat))
           go_roundg k2
           case measure => have := HK1.out; have := HK2.out; omega
           case rel => exact ⟨(y170), (wrap64 (x8_2 + 1)), (by first | rfl | (simp; done) | (simp [*]; done)), H', ⟨by have := HK1.out; have := HK2.out; omega⟩, ⟨by (with_reducible repeat (first | apply Kd.R_alloc | apply Kd.R_drewN | apply Kd.R_drew)); exact HO172.out⟩, ⟨by (with_reducible repeat (first | apply Kd.R_alloc | apply Kd.R_drewN | apply Kd.R_drew)); exact Kd.R_mono HO_7.out (fun _ hk => hk.2)⟩, ⟨by (with_reducible repeat (first | refine blk_drewN ?_ _ | refine blk_drew ?_ | refine blk_alloc ?_ _)); exact BK159.out⟩, ⟨by repeat (first | (with_reducible first | exact HB.out | apply below_alloc | apply pw_below_drewN | apply below_drew1 | refine below_set ?_ GE159.out) | exact HB.out)⟩⟩
          ·rw [if_neg c19] at H
           exact absurd H (by simp)
        ·rw [if_neg c14] at H
         exact absurd H (by simp)
       ·rw [if_neg c13] at H
        have c13b0 : decide (x8_2 < (t164.length : Int)) = false := decide_eq_false c13
        clear c13
        have H' := Aside0.mk H
        clear H
        obtain ⟨Ao23, co23, eo23⟩ := Kd.R_slice HO_7.out
        subst eo23
        go_wp2
        go_roundg k2
        case measure => have := HK1.out; have := HK2.out; omega
        case rel => exact ⟨(x5_2), (wrap64 (x6_1 + 1)), (by first | rfl | (simp; done) | (simp [*]; done)), H', ⟨by have := HK1.out; have := HK2.out; omega⟩, ⟨by (with_reducible repeat (first | apply Kd.R_alloc | apply Kd.R_drewN | apply Kd.R_drew)); exact Kd.R_mono HO_5.out (fun _ hk => trivial)⟩, ⟨by (with_reducible repeat (first | refine blk_drewN ?_ _ | refine blk_drew ?_ | refine blk_alloc ?_ _)); exact BK159.out⟩, ⟨by repeat (first | (with_reducible first | exact HB.out | apply below_alloc | apply pw_below_drewN | apply below_drew1 | refine below_set ?_ GE159.out) | exact HB.out)⟩⟩
    ·rw [if_neg c8] at H
     exact absurd H (by simp)
   ·rw [if_neg c7] at H
    have c7b0 : decide (x6_1 < (x5_1.length : Int)) = false := decide_eq_false c7
    clear c7
    obtain rfl := Option.some.inj H
    obtain ⟨Ao24, co24, eo24⟩ := Kd.R_slice HO_5.out
    subst eo24
    go_wp2
    go_ret
    exact ⟨_, by first | rfl | (simp [errW_none, errW_some] <;> rfl) | (simp [*, errW_none, errW_some] <;> rfl), by (with_reducible repeat (first | apply Kd.R_alloc | apply Kd.R_drewN | apply Kd.R_drew)); exact HO_5.out, by repeat (first | (with_reducible first | exact HB.out | apply below_alloc | apply pw_below_drewN | apply below_drew1 | refine below_set ?_ GE159.out) | exact HB.out)⟩
end
end Go.Proofs.Ytjjcnbfmmhokeaa.X
namespace Go.Proofs.Ytjjcnbfmmhokeaa.G
open Go.Proofs.Ytjjcnbfmmhokeaa.X Go.RowKit Go.Proofs.YtjjcnbfmmhokeaaW.PrintWords
set_option linter.all false
set_option maxHeartbeats 8000000
inductive TC (n : Nat) (R : Nat → Nat → Bool) : Nat → Nat → Prop
 | one {a b : Nat} : a < n → b < n → R a b = true → TC n R a b
 | step {a b c : Nat} : a < n → b < n → R a b = true → TC n R b c → TC n R a c
theorem TC.lt {n : Nat} {R : Nat → Nat → Bool} {a b : Nat} (h : TC n R a b) : a < n ∧ b < n := by
 induction h with
 | one h1 h2 _ => exact ⟨h1, h2⟩
 | step h1 _ _ _ ih => exact ⟨h1, ih.2⟩
theorem TC.trans {n : Nat} {R : Nat → Nat → Bool} {a b c : Nat} (h : TC n R a b) (h2 : TC n R b c) : TC n R a c := by
 induction h with
 | one h1 hb hR => exact .step h1 hb hR h2
 | step h1 hb hR _ ih => exact .step h1 hb hR (ih h2)
def wstep (T : Nat → Nat → Bool) (k : Nat) : Nat → Nat → Bool := fun i j => T i j || (T i k && T k j)
def wsh (R : Nat → Nat → Bool) : Nat → Nat → Nat → Bool
 | 0 => R
 | k + 1 => wstep (wsh R k) k
theorem wstep_row (T : Nat → Nat → Bool) (k j : Nat) : wstep T k k j = T k j := by unfold wstep; cases T k j <;> cases T k k <;> rfl
theorem wstep_col (T : Nat → Nat → Bool) (k i : Nat) : wstep T k i k = T i k := by unfold wstep; cases T i k <;> cases T k k <;> rfl
theorem wsh_up (R : Nat → Nat → Bool) (k i j : Nat) (h : wsh R k i j = true) : wsh R (k + 1) i j = true := by
 show wstep _ _ _ _ = true
 unfold wstep
 rw [h, Bool.true_or]
theorem wsh_ge (R : Nat → Nat → Bool) (k d i j : Nat) (h : wsh R k i j = true) : wsh R (k + d) i j = true := by
 induction d with
 | zero => exact h
 | succ d ih => exact wsh_up R _ i j ih
theorem wsh_succ (R : Nat → Nat → Bool) (k i j : Nat) : wsh R (k + 1) i j = true ↔ wsh R k i j = true ∨ (wsh R k i k = true ∧ wsh R k k j = true) := by
 show wstep _ _ _ _ = true ↔ _
 unfold wstep
 rw [Bool.or_eq_true, Bool.and_eq_true]
theorem wsh_via (R : Nat → Nat → Bool) : ∀ (k c a b : Nat), c < k → wsh R k a c = true → wsh R k c b = true → wsh R k a b = true
 | 0, c, _, _, h, _, _ => absurd h (Nat.not_lt_zero _)
 | k + 1, c, a, b, hc, h1, h2 => by
  rw [wsh_succ] at h1 h2 ⊢
  rcases Nat.lt_or_ge c k with hlt | hge
  ·rcases h1 with h1 | ⟨h1, h1'⟩
   ·rcases h2 with h2 | ⟨h2, h2'⟩
    ·exact .inl (wsh_via R k c a b hlt h1 h2)
    ·exact .inr ⟨wsh_via R k c a k hlt h1 h2, h2'⟩
   ·rcases h2 with h2 | ⟨h2, h2'⟩
    ·exact .inr ⟨h1, wsh_via R k c k b hlt h1' h2⟩
    ·exact .inr ⟨h1, h2'⟩
  ·obtain rfl : c = k := by omega
   refine .inr ⟨?_, ?_⟩
   ·rcases h1 with h1 | h1
    ·exact h1
    ·exact h1.1
   ·rcases h2 with h2 | h2
    ·exact h2
    ·exact h2.2
theorem wsh_sound (n : Nat) (R : Nat → Nat → Bool) : ∀ (k a b : Nat), k ≤ n → a < n → b < n → wsh R k a b = true → TC n R a b
 | 0, a, b, _, ha, hb, h => .one ha hb h
 | k + 1, a, b, hk, ha, hb, h => by
  rcases (wsh_succ R k a b).1 h with h | ⟨h1, h2⟩
  ·exact wsh_sound n R k a b (by omega) ha hb h
  ·exact (wsh_sound n R k a k (by omega) ha (by omega) h1).trans (wsh_sound n R k k b (by omega) (by omega) hb h2)
theorem wsh_iff (n : Nat) (R : Nat → Nat → Bool) (a b : Nat) (ha : a < n) (hb : b < n) : wsh R n a b = true ↔ TC n R a b := by
 refine ⟨wsh_sound n R n a b (Nat.le_refl _) ha hb, fun h => ?_⟩
 have up : ∀ i j, R i j = true → wsh R n i j = true := fun i j h => by
  have := wsh_ge R 0 n i j h
  rwa [Nat.zero_add] at this
 clear ha hb
 induction h with
 | one h1 h2 hR => exact up _ _ hR
 | step h1 h2 hR _ ih => exact wsh_via R n _ _ _ h2 (up _ _ hR) ih
structure Tab (n : Nat) (t : List (List Bool)) (T : Nat → Nat → Bool) : Prop where
 len : t.length = n
 row : ∀ i, i < n → (t.getD i []).length = n
 val : ∀ i j, i < n → j < n → tv t i j = T i j
theorem Tab.set {n : Nat} {t : List (List Bool)} {T T' : Nat → Nat → Bool} (h : Tab n t T) (a b : Nat) (ha : a < n) (hb : b < n) (v : Bool) (hv : T' a b = v) (ho : ∀ i j, ¬ (i = a ∧ j = b) → T' i j = T i j) : Tab n (t.set a ((t.getD a []).set b v)) T' := by
 have hget : ∀ i, (t.set a ((t.getD a []).set b v)).getD i [] = if i = a then (t.getD a []).set b v else t.getD i [] := by
  intro i
  rw [List.getD_eq_getElem?_getD, List.getElem?_set]
  by_cases e : a = i
  ·subst e
   rw [if_pos rfl, if_pos (by rw [h.len]; exact ha), if_pos rfl]
   rfl
  ·rw [if_neg e, if_neg (fun h => e h.symm), ← List.getD_eq_getElem?_getD]
 refine ⟨by rw [List.length_set]; exact h.len, fun i hi => ?_, fun i j hi hj => ?_⟩
 ·rw [hget]
  split
  ·rw [List.length_set]; exact h.row a ha
  ·exact h.row i hi
 ·unfold tv
  rw [hget]
  by_cases e : i = a
  ·subst e
   rw [if_pos rfl]
   by_cases e2 : j = b
   ·subst e2
    rw [List.getD_eq_getElem?_getD, List.getElem?_set_self (by rw [h.row i hi]; exact hj), hv]
    rfl
   ·rw [List.getD_eq_getElem?_getD, List.getElem?_set_ne (fun h => e2 h.symm), ← List.getD_eq_getElem?_getD, ho i j (fun h => e2 h.2)]
    exact h.val i j hi hj
  ·rw [if_neg e, ho i j (fun h => e h.1)]
   exact h.val i j hi hj
theorem Tab.same {n : Nat} {t : List (List Bool)} {T T' : Nat → Nat → Bool} (h : Tab n t T) (e : ∀ i j, i < n → j < n → T' i j = T i j) : Tab n t T' := ⟨h.len, h.row, fun i j hi hj => by rw [e i j hi hj]; exact h.val i j hi hj⟩
theorem rdL (t : List (List Bool)) (i : Nat) : rd_L15 t (i : Int) = t.getD i [] := by unfold rd_L15; rw [Int.toNat_natCast]
theorem rdBool (l : List Bool) (i : Nat) : rdOf false l (i : Int) = l.getD i false := by unfold rdOf; rw [Int.toNat_natCast]
def mix (T : Nat → Nat → Bool) (k a b : Nat) : Nat → Nat → Bool := fun i j => if i < a ∨ (i = a ∧ j < b) then wstep T k i j else T i j
theorem tab_l4 (n : Nat) (hn : n ≤ 1000) (k a : Nat) (hk : k < n) (ha : a < n) (T : Nat → Nat → Bool) (res : List (List Bool)) (x40 : Int)
  (K : ∀ t, Tab n t (mix T k (a + 1) 0) → Evt (fun f => calls_table.l3 f t (k : Int) (n : Int) x40 (n : Int) ((a : Int) + 1)) res) :
  ∀ (d b : Nat) (t : List (List Bool)), b + d = n → Tab n t (mix T k a b) → Evt (fun f => calls_table.l4 f t (k : Int) (a : Int) (n : Int) x40 (n : Int) (a : Int) (n : Int) (b : Int)) res := by
 intro d
 induction d with
 | zero =>
  intro b t hb ht
  refine Evt.succ (Evt.congr (K t (ht.same fun i j hi hj => ?_)) fun f => ?_)
  ·unfold mix
   by_cases h : i < a + 1 ∨ (i = a + 1 ∧ j < 0)
   ·rw [if_pos h, if_pos (by omega)]
   ·rw [if_neg h, if_neg (by omega)]
  ·rw [calls_table.l4, if_neg (by omega), wrap_small _ (by omega) (by omega)]
 | succ d ih =>
  intro b t hb ht
  have hbn : b < n := by omega
  have hw : wrap64 ((b : Int) + 1) = (b : Int) + 1 := wrap_small _ (by omega) (by omega)
  have hlen := ht.len
  have hra := ht.row a ha
  have hrk := ht.row k hk
  have vab : (t.getD a []).getD b false = T a b := by
   have := ht.val a b ha hbn
   unfold tv at this
   rw [this]; unfold mix; rw [if_neg (by omega)]
  have vak : (t.getD a []).getD k false = T a k := by
   have := ht.val a k ha hk
   unfold tv at this
   rw [this]; unfold mix
   split
   ·exact wstep_col T k a
   ·rfl
  have vkb : (t.getD k []).getD b false = T k b := by
   have := ht.val k b hk hbn
   unfold tv at this
   rw [this]; unfold mix
   split
   ·exact wstep_row T k b
   ·rfl
  have next : ∀ v : Bool, wstep T k a b = v → Evt (fun f => calls_table.l4 f (t.set a ((t.getD a []).set b v)) (k : Int) (a : Int) (n : Int) x40 (n : Int) (a : Int) (n : Int) ((b : Int) + 1)) res := by
   intro v hv
   have := ih (b + 1) (t.set a ((t.getD a []).set b v)) (by omega) (ht.set a b ha hbn v (by unfold mix; rw [if_pos (by omega)]; exact hv) (fun i j hij => by
    unfold mix
    by_cases h : i < a ∨ (i = a ∧ j < b)
    ·rw [if_pos (by omega), if_pos h]
    ·rw [if_neg (by omega), if_neg h]))
   rwa [cast_succ] at this
  cases h1 : T a b with
  | true =>
   refine Evt.succ (Evt.congr (next true (by unfold wstep; rw [h1, Bool.true_or])) fun f => ?_)
   rw [calls_table.l4, if_pos (by omega), if_pos (by omega), if_pos (by omega), if_pos (by omega), rdL, if_pos (by omega), rdBool, vab, h1, if_pos rfl, hw, Int.toNat_natCast, Int.toNat_natCast]
  | false =>
   cases h2 : T a k with
   | true =>
    refine Evt.succ (Evt.congr (next (T k b) (by unfold wstep; rw [h1, h2]; simp)) fun f => ?_)
    rw [calls_table.l4, if_pos (by omega), if_pos (by omega), if_pos (by omega), if_pos (by omega), rdL, if_pos (by omega), rdBool, vab, h1, if_neg (by simp), if_pos (by omega), if_pos (by omega), rdBool, vak, h2, if_pos rfl, if_pos (by omega), rdL, if_pos (by omega), rdBool, vkb, hw, Int.toNat_natCast, Int.toNat_natCast]
   | false =>
    refine Evt.succ (Evt.congr (next false (by unfold wstep; rw [h1, h2]; simp)) fun f => ?_)
    rw [calls_table.l4, if_pos (by omega), if_pos (by omega), if_pos (by omega), if_pos (by omega), rdL, if_pos (by omega), rdBool, vab, h1, if_neg (by simp), if_pos (by omega), if_pos (by omega), rdBool, vak, h2, if_neg (by simp), hw, Int.toNat_natCast, Int.toNat_natCast]
theorem tab_l3 (n : Nat) (hn : n ≤ 1000) (k : Nat) (hk : k < n) (T : Nat → Nat → Bool) (res : List (List Bool))
  (K : ∀ t, Tab n t (wstep T k) → Evt (fun f => calls_table.l2 f t (n : Int) ((k : Int) + 1)) res) :
  ∀ (d a : Nat) (t : List (List Bool)), a + d = n → Tab n t (mix T k a 0) → Evt (fun f => calls_table.l3 f t (k : Int) (n : Int) (k : Int) (n : Int) (a : Int)) res := by
 intro d
 induction d with
 | zero =>
  intro a t ha ht
  refine Evt.succ (Evt.congr (K t (ht.same fun i j hi hj => ?_)) fun f => ?_)
  ·unfold mix; rw [if_pos (by omega)]
  ·rw [calls_table.l3, if_neg (by omega), wrap_small _ (by omega) (by omega)]
 | succ d ih =>
  intro a t ha ht
  have := tab_l4 n hn k a hk (by omega) T res (k : Int) (fun t ht => by
   have := ih (a + 1) t (by omega) ht
   rwa [cast_succ] at this) n 0 t (by omega) ht
  refine Evt.succ (Evt.congr this fun f => ?_)
  rw [calls_table.l3, if_pos (by omega), ht.len]
  rfl
theorem tab_l2 (n : Nat) (hn : n ≤ 1000) (R : Nat → Nat → Bool) : ∀ (d k : Nat) (t : List (List Bool)), k + d = n → Tab n t (wsh R k) → ∃ r, Evt (fun f => calls_table.l2 f t (n : Int) (k : Int)) r ∧ Tab n r (wsh R n) := by
 intro d
 induction d with
 | zero =>
  intro k t hk ht
  obtain rfl : k = n := by omega
  refine ⟨t, Evt.succ (Evt.congr (Evt.pure _) fun f => ?_), ht⟩
  rw [calls_table.l2, if_neg (by omega)]
 | succ d ih =>
  intro k t hk ht
  obtain ⟨t2, h2⟩ : ∃ t2, Tab n t2 (wstep (wsh R k) k) := ⟨(List.range n).map fun i => (List.range n).map fun j => wstep (wsh R k) k i j, by simp, fun i hi => by simp [List.getD_eq_getElem?_getD, hi], fun i j hi hj => by simp [tv, List.getD_eq_getElem?_getD, hi, hj]⟩
  have uniq : ∀ t, Tab n t (wstep (wsh R k) k) → t = t2 := by
   intro t h
   apply List.ext_getElem?
   intro i
   by_cases hi : i < n
   ·have e1 : t[i]? = some (t.getD i []) := by rw [List.getD_eq_getElem?_getD, List.getElem?_eq_getElem (by rw [h.len]; exact hi)]; rfl
    have e2 : t2[i]? = some (t2.getD i []) := by rw [List.getD_eq_getElem?_getD, List.getElem?_eq_getElem (by rw [h2.len]; exact hi)]; rfl
    rw [e1, e2]
    congr 1
    apply List.ext_getElem?
    intro j
    by_cases hj : j < n
    ·have f1 : (t.getD i [])[j]? = some ((t.getD i []).getD j false) := by rw [List.getD_eq_getElem?_getD (l := t.getD i []), List.getElem?_eq_getElem (by rw [h.row i hi]; exact hj)]; rfl
     have f2 : (t2.getD i [])[j]? = some ((t2.getD i []).getD j false) := by rw [List.getD_eq_getElem?_getD (l := t2.getD i []), List.getElem?_eq_getElem (by rw [h2.row i hi]; exact hj)]; rfl
     rw [f1, f2]
     have a1 := h.val i j hi hj
     have a2 := h2.val i j hi hj
     unfold tv at a1 a2
     rw [a1, a2]
    ·rw [List.getElem?_eq_none (by rw [h.row i hi]; omega), List.getElem?_eq_none (by rw [h2.row i hi]; omega)]
   ·rw [List.getElem?_eq_none (by rw [h.len]; omega), List.getElem?_eq_none (by rw [h2.len]; omega)]
  obtain ⟨r, hr, hT⟩ := ih (k + 1) t2 (by omega) h2
  rw [cast_succ] at hr
  refine ⟨r, ?_, hT⟩
  have := tab_l3 n hn k (by omega) (wsh R k) r (fun t h => by rw [uniq t h]; exact hr) n 0 t (by omega) (ht.same fun i j hi hj => by unfold mix; rw [if_neg (by omega)])
  refine Evt.succ (Evt.congr this fun f => ?_)
  rw [calls_table.l2, if_pos (by omega), ht.len]
  rfl
theorem tab_l1 (m : List S33) (a : Nat) (ha : a < m.length) (hm : Sh m) (x : List (List Bool)) (hx : x.length ≤ 20) (res : List (List Bool)) (K : ∀ r : List Bool, r.length = m.length → (∀ j, j < m.length → r.getD j false = E m a j) → Evt (fun f => calls_table.l0 f (x ++ [r]) (m.length : Int) ((a : Int) + 1) m) res) :
  ∀ (d i : Nat) (r : List Bool), i + d = (ofL m a).length → r.length = m.length → (∀ j, j < m.length → r.getD j false = decide ((j : Int) ∈ (ofL m a).take i)) →
   Evt (fun f => calls_table.l1 f x r (m.length : Int) (a : Int) (ofL m a) ((ofL m a).length : Int) (i : Int) m) res := by
 have hl := hm.len
 have hol : (ofL m a).length ≤ m.length := pickN_len _ _
 intro d
 induction d with
 | zero =>
  intro i r hi hr hv
  rw [List.take_of_length_le (by omega)] at hv
  refine Evt.succ (Evt.congr (K r hr fun j hj => ?_) fun f => ?_)
  ·rw [hv j hj]
   cases hE : E m a j with
   | true => exact decide_eq_true (mem_pickN.2 ⟨j, rfl, hj, hE⟩)
   | false =>
    refine decide_eq_false fun h => ?_
    obtain ⟨q, e, _, h2⟩ := mem_pickN.1 h
    have : j = q := by omega
    subst this
    rw [hE] at h2; cases h2
  ·rw [calls_table.l1, if_neg (by omega), if_pos (by omega), wrap_small _ (by omega) (by omega)]
 | succ d ih =>
  intro i r hi hr hv
  have hil : i < (ofL m a).length := by omega
  obtain ⟨q, hq, hqn, _⟩ := mem_pickN.1 (getD_in (ofL m a) i 0 hil)
  have hrd : rd (ofL m a) (i : Int) = (q : Int) := by unfold rd; rw [Int.toNat_natCast]; exact hq
  have nx := ih (i + 1) (r.set q true) (by omega) (by rw [List.length_set]; exact hr) (fun j hj => by
   rw [take_snoc (ofL m a) i 0 hil]
   by_cases e : j = q
   ·subst e
    rw [List.getD_eq_getElem?_getD, List.getElem?_set_self (by omega), decide_eq_true (by rw [List.mem_append]; exact .inr (by rw [List.mem_singleton]; exact hq.symm))]
    rfl
   ·rw [List.getD_eq_getElem?_getD, List.getElem?_set_ne (fun h => e h.symm), ← List.getD_eq_getElem?_getD, hv j hj]
    refine decide_eq_decide.2 ⟨fun h => List.mem_append_left _ h, fun h => ?_⟩
    rcases List.mem_append.1 h with h | h
    ·exact h
    ·have h2 := List.mem_singleton.1 h
     rw [show (ofL m a).getD i 0 = (q : Int) from hq] at h2
     exact absurd (by omega) e)
  rw [cast_succ] at nx
  refine Evt.succ (Evt.congr nx fun f => ?_)
  rw [calls_table.l1, if_pos (by omega), if_pos (by omega), if_pos (by omega), hrd, if_pos (by omega), if_pos (by omega), wrap_small _ (by omega) (by omega), Int.toNat_natCast]
theorem table_ev (m : List S33) (hm : Sh m) : ∃ t, Evt (fun f => calls_table.f f m) t ∧ Tab m.length t (wsh (E m) m.length) := by
 have hl := hm.len
 obtain ⟨t1, h1⟩ : ∃ t1, t1 = (List.range m.length).map fun i => (List.range m.length).map fun j => E m i j := ⟨_, rfl⟩
 have hT : Tab m.length t1 (E m) := by
  rw [h1]
  exact ⟨by simp, fun i hi => by simp [List.getD_eq_getElem?_getD, hi], fun i j hi hj => by simp [tv, List.getD_eq_getElem?_getD, hi, hj]⟩
 obtain ⟨r, hr, hR⟩ := tab_l2 m.length (by omega) (E m) m.length 0 t1 (by omega) hT
 have key : ∀ (d i : Nat), i + d = m.length → Evt (fun f => calls_table.l0 f (t1.take i) (m.length : Int) (i : Int) m) r := by
  intro d
  induction d with
  | zero =>
   intro i hi
   refine Evt.succ (Evt.congr hr fun f => ?_)
   rw [calls_table.l0, if_neg (by omega), List.take_of_length_le (by rw [hT.len]; omega), hT.len]
   rfl
  | succ d ih =>
   intro i hi
   have hil : i < m.length := by omega
   have nx := ih (i + 1) (by omega)
   rw [cast_succ, take_snoc t1 i [] (by rw [hT.len]; exact hil)] at nx
   have hiB : isB m.length (i : Int) = true := (isB_iff _ _).2 ⟨by omega, by omega⟩
   have := tab_l1 m i hil hm (t1.take i) (by rw [List.length_take]; omega) r (fun q hq hv => by
    have : q = t1.getD i [] := by
     apply List.ext_getElem?
     intro j
     by_cases hj : j < m.length
     ·have f1 : q[j]? = some (q.getD j false) := by rw [List.getD_eq_getElem?_getD, List.getElem?_eq_getElem (by omega)]; rfl
      have f2 : (t1.getD i [])[j]? = some ((t1.getD i []).getD j false) := by rw [List.getD_eq_getElem?_getD (l := t1.getD i []), List.getElem?_eq_getElem (by rw [hT.row i hil]; exact hj)]; rfl
      have := hT.val i j hil hj
      unfold tv at this
      rw [f1, f2, hv j hj, this]
     ·rw [List.getElem?_eq_none (by omega), List.getElem?_eq_none (by rw [hT.row i hil]; omega)]
    rw [this]; exact nx) (ofL m i).length 0 (List.replicate m.length false) (by omega) (by simp) (fun j hj => by simp [List.getD_eq_getElem?_getD, hj])
   refine Evt.succ (Evt.congr this fun f => ?_)
   rw [calls_table.l0, if_pos (by omega), if_pos (by omega), if_pos (by omega), of_prog m hm, if_pos hiB, Option.bind_some, Int.toNat_natCast, Int.toNat_natCast]
   rfl
 refine ⟨r, Evt.congr (key m.length 0 (by omega)) fun f => rfl, hR⟩
structure ToInv (m : List S33) (a : Nat) (out : List Int) (i : Nat) : Prop where
 nd : out.Nodup
 tc : ∀ x ∈ out, ∃ b : Nat, x = (b : Int) ∧ TC m.length (E m) a b
 fst : ∀ b, b < m.length → E m a b = true → (b : Int) ∈ out
 clo : ∀ j, j < i → ∀ c, c < m.length → ∀ b : Nat, out.getD j 0 = (b : Int) → E m b c = true → (c : Int) ∈ out
theorem ToInv.len {m : List S33} {a : Nat} {out : List Int} {i : Nat} (h : ToInv m a out i) : out.length ≤ m.length := by
 have := h.nd.length_le_of_subset (l₂ := (List.range m.length).map fun (k : Nat) => (k : Int)) (fun x hx => by
  obtain ⟨b, rfl, hb⟩ := h.tc x hx
  exact List.mem_map.2 ⟨b, List.mem_range.2 hb.lt.2, rfl⟩)
 simpa using this
theorem getD_app {α : Type} (l : List α) (x z : α) (j : Nat) (h : j < l.length) : (l ++ [x]).getD j z = l.getD j z := by
 rw [List.getD_eq_getElem?_getD, List.getElem?_append_left h, ← List.getD_eq_getElem?_getD]
def addI (o : List Int) (x : Int) : List Int := if x ∈ o then o else o ++ [x]
theorem addI_in {o : List Int} {x : Int} (h : x ∈ o) : addI o x = o := if_pos h
theorem addI_out {o : List Int} {x : Int} (h : x ∉ o) : addI o x = o ++ [x] := if_neg h
theorem to_inner (m : List S33) (hm : m.length ≤ 1000) (b i : Nat) (hi : i ≤ 1000) (fin r : List Int) (hr : Evt (fun f => davitref11_To.l0 f fin ((i : Int) + 1) m) r) :
  ∀ (d k : Nat) (o : List Int), k + d = (ofL m b).length → o.length + d ≤ 1000 → ((ofL m b).drop k).foldl addI o = fin → Evt (fun f => davitref11_To.l1 f o (i : Int) (ofL m b) (k : Int) m) r := by
 have hol0 : (ofL m b).length ≤ m.length := pickN_len _ _
 generalize hol : ofL m b = ol at hol0 ⊢
 have hlist : ∀ k, k < ol.length → ∃ q : Nat, ol.getD k 0 = (q : Int) := fun k hk => by
  rw [← hol] at hk ⊢
  obtain ⟨q, hq, _⟩ := mem_pickN.1 (getD_in (ofL m b) k 0 hk)
  exact ⟨q, hq⟩
 clear hol
 intro d
 induction d with
 | zero =>
  intro k o hk ho he
  rw [List.drop_of_length_le (by omega)] at he
  rw [show o = fin from he]
  refine Evt.succ (Evt.congr hr fun f => ?_)
  rw [davitref11_To.l1, if_neg (by omega), wrap_small _ (by omega) (by omega)]
 | succ d ih =>
  intro k o hk ho he
  have hkl : k < ol.length := by omega
  obtain ⟨q, hq⟩ := hlist k hkl
  have hrd : rd ol (k : Int) = (q : Int) := by unfold rd; rw [Int.toNat_natCast]; exact hq
  have hw : wrap64 ((k : Int) + 1) = (k : Int) + 1 := wrap_small _ (by omega) (by omega)
  have c1 : (k : Int) < (ol.length : Int) := by omega
  have c2 : (0 : Int) ≤ (k : Int) := Int.natCast_nonneg k
  have c3 : o.length < 17592186044416 := by omega
  have hh := has_ev o (q : Int) (by omega)
  rw [drop_one ol k 0 hkl, List.foldl_cons, hq] at he
  by_cases hin : (q : Int) ∈ o
  ·rw [decide_eq_true hin] at hh
   rw [addI_in hin] at he
   have nx := ih (k + 1) o (by omega) (by omega) he
   rw [cast_succ] at nx
   refine Evt.succ (Evt.congr (Evt.bind (h := fun f t168 => (if t168 = true then (davitref11_To.l1 f o (i : Int) ol (wrap64 ((k : Int) + 1)) m) else (if o.length < 17592186044416 then (davitref11_To.l1 f (o ++ [(q : Int)]) (i : Int) ol (wrap64 ((k : Int) + 1)) m) else none))) hh (Evt.congr nx fun f => by rw [if_pos rfl, hw])) fun f => ?_)
   rw [davitref11_To.l1, if_pos c1, if_pos c2, hrd]
  ·rw [decide_eq_false hin] at hh
   rw [addI_out hin] at he
   have nx := ih (k + 1) (o ++ [(q : Int)]) (by omega) (by simp; omega) he
   rw [cast_succ] at nx
   refine Evt.succ (Evt.congr (Evt.bind (h := fun f t168 => (if t168 = true then (davitref11_To.l1 f o (i : Int) ol (wrap64 ((k : Int) + 1)) m) else (if o.length < 17592186044416 then (davitref11_To.l1 f (o ++ [(q : Int)]) (i : Int) ol (wrap64 ((k : Int) + 1)) m) else none))) hh (Evt.congr nx fun f => by rw [if_neg (by simp), if_pos c3, hw])) fun f => ?_)
   rw [davitref11_To.l1, if_pos c1, if_pos c2, hrd]
theorem to_l0 (m : List S33) (hm : Sh m) (a : Nat) : ∀ (d i : Nat) (out : List Int), i + d = m.length → i ≤ out.length → ToInv m a out i → ∃ r, Evt (fun f => davitref11_To.l0 f out (i : Int) m) r ∧ ToInv m a r r.length := by
 have hl := hm.len
 intro d
 induction d with
 | zero =>
  intro i out hi hio hI
  have := hI.len
  obtain rfl : i = out.length := by omega
  refine ⟨out, Evt.succ (Evt.congr (Evt.pure _) fun f => ?_), hI⟩
  rw [davitref11_To.l0, if_neg (by omega)]
 | succ d ih =>
  intro i out hi hio hI
  have hlen := hI.len
  by_cases hlt : i < out.length
  ·obtain ⟨b, hb, hbT⟩ := hI.tc _ (getD_in out i 0 hlt)
   have hrd : rd out (i : Int) = (b : Int) := by unfold rd; rw [Int.toNat_natCast]; exact hb
   have hof := of_ref m hm (b : Int)
   rw [if_pos ((isB_iff _ _).2 ⟨by omega, by have := hbT.lt.2; omega⟩), Int.toNat_natCast] at hof
   obtain ⟨fin, hfin⟩ : ∃ fin : List Int, fin = (ofL m b).foldl addI out := ⟨_, rfl⟩
   have hstep : ∀ (l : List Int) (o : List Int), ToInv m a o i → (i < o.length ∧ o.getD i 0 = (b : Int)) → (∀ x ∈ l, ∃ q : Nat, x = (q : Int) ∧ q < m.length ∧ E m b q = true) → ToInv m a (l.foldl addI o) i ∧ (i < (l.foldl addI o).length ∧ (l.foldl addI o).getD i 0 = (b : Int)) ∧ (∀ x ∈ o, x ∈ l.foldl addI o) ∧ ∀ x ∈ l, x ∈ l.foldl addI o := by
    intro l
    induction l with
    | nil => intro o h1 h2 _; exact ⟨h1, h2, fun x hx => hx, fun x hx => by cases hx⟩
    | cons x l ihl =>
     intro o h1 h2 h3
     rw [List.foldl_cons]
     by_cases hin : x ∈ o
     ·rw [addI_in hin]
      obtain ⟨g1, g2, g3, g4⟩ := ihl o h1 h2 (fun y hy => h3 y (by simp [hy]))
      exact ⟨g1, g2, g3, fun y hy => (List.mem_cons.1 hy).elim (fun e => by rw [e]; exact g3 x hin) (g4 y)⟩
     ·rw [addI_out hin]
      obtain ⟨q, rfl, hqn, hqE⟩ := h3 x (by simp)
      have hI2 : ToInv m a (o ++ [(q : Int)]) i := by
       refine ⟨List.nodup_append.2 ⟨h1.nd, by simp, fun x hx y hy e => hin (by rw [List.mem_singleton.1 hy] at e; rw [← e]; exact hx)⟩, fun x hx => ?_, fun c hc hE => List.mem_append_left _ (h1.fst c hc hE), fun j hj c hc b' hb' hE => List.mem_append_left _ (h1.clo j hj c hc b' (by rw [getD_app _ _ _ _ (by omega)] at hb'; exact hb') hE)⟩
       rcases List.mem_append.1 hx with hx | hx
       ·exact h1.tc x hx
       ·exact ⟨q, List.mem_singleton.1 hx, hbT.trans (.one hbT.lt.2 hqn hqE)⟩
      obtain ⟨g1, g2, g3, g4⟩ := ihl (o ++ [(q : Int)]) hI2 ⟨by simp; omega, by rw [getD_app _ _ _ _ h2.1]; exact h2.2⟩ (fun y hy => h3 y (by simp [hy]))
      exact ⟨g1, g2, fun y hy => g3 y (List.mem_append_left _ hy), fun y hy => (List.mem_cons.1 hy).elim (fun e => by rw [e]; exact g3 _ (by simp)) (g4 y)⟩
   obtain ⟨f1, f2, f3, f4⟩ := hstep (ofL m b) out hI ⟨hlt, hb⟩ (fun x hx => mem_pickN.1 hx)
   rw [← hfin] at f1 f2 f3 f4
   have hI3 : ToInv m a fin (i + 1) := ⟨f1.nd, f1.tc, f1.fst, fun j hj c hc b' hb' hE => by
    rcases Nat.lt_or_ge j i with h | h
    ·exact f1.clo j h c hc b' hb' hE
    ·obtain rfl : j = i := by omega
     rw [f2.2] at hb'
     have : b = b' := by omega
     subst this
     exact f4 _ (mem_pickN.2 ⟨c, rfl, hc, hE⟩)⟩
   obtain ⟨r, hr, hR⟩ := ih (i + 1) fin (by omega) f2.1 hI3
   rw [cast_succ] at hr
   have hol : (ofL m b).length ≤ m.length := pickN_len _ _
   have hin := to_inner m (by omega) b i (by omega) fin r hr (ofL m b).length 0 out (by omega) (by omega) (by rw [hfin, List.drop_zero])
   refine ⟨r, Evt.succ (Evt.congr (Evt.bind (h := fun f t164 => davitref11_To.l1 f out (i : Int) t164 0 m) hof hin) fun f => ?_), hR⟩
   rw [davitref11_To.l0, if_pos (by omega), if_pos (by omega), hrd]
  ·obtain rfl : i = out.length := by omega
   refine ⟨out, Evt.succ (Evt.congr (Evt.pure _) fun f => ?_), hI⟩
   rw [davitref11_To.l0, if_neg (by omega)]
theorem to_ev (m : List S33) (hm : Sh m) (a : Nat) (ha : a < m.length) : ∃ r, Evt (fun f => davitref11_To.f f m (a : Int)) r ∧ r.length ≤ m.length ∧ ∀ x : Int, x ∈ r ↔ ∃ b : Nat, x = (b : Int) ∧ TC m.length (E m) a b := by
 have hof := of_ref m hm (a : Int)
 rw [if_pos ((isB_iff _ _).2 ⟨by omega, by omega⟩), Int.toNat_natCast] at hof
 have h0 : ToInv m a (ofL m a) 0 := by
  refine ⟨?_, fun x hx => ?_, fun b hb hE => mem_pickN.2 ⟨b, rfl, hb, hE⟩, fun j hj => by omega⟩
  ·rw [List.nodup_iff_pairwise_ne]
   exact (pickN_strict _ _).imp (fun h => by omega)
  ·obtain ⟨q, rfl, h1, h2⟩ := mem_pickN.1 hx
   exact ⟨q, rfl, .one ha h1 h2⟩
 obtain ⟨r, hr, hR⟩ := to_l0 m hm a m.length 0 (ofL m a) (by omega) (by omega) h0
 refine ⟨r, Evt.congr (Evt.bind (h := fun f t => davitref11_To.l0 f t 0 m) hof hr) fun f => rfl, hR.len, fun x => ⟨hR.tc x, ?_⟩⟩
 rintro ⟨b, rfl, hb⟩
 have : ∀ {c b : Nat}, TC m.length (E m) c b → (c = a ∨ (c : Int) ∈ r) → (b : Int) ∈ r := by
  intro c b h
  have one : ∀ {c b : Nat}, b < m.length → E m c b = true → (c = a ∨ (c : Int) ∈ r) → (b : Int) ∈ r := by
   intro c' b' hb' hE' hc'
   rcases hc' with e' | hc'
   ·rw [e'] at hE'
    exact hR.fst b' hb' hE'
   ·obtain ⟨j, hj, e⟩ := of_getD hc' 0
    exact hR.clo j hj b' hb' c' e hE'
  induction h with
  | one h1 h2 hE => exact fun hc => one h2 hE hc
  | step h1 h2 hE _ ih => exact fun hc => ih (.inr (one h2 hE hc))
 exact this hb (.inl rfl)
end Go.Proofs.Ytjjcnbfmmhokeaa.G
namespace Go.Proofs.Ytjjcnbfmmhokeaa.G
open Go.Proofs.Ytjjcnbfmmhokeaa.X Go.RowKit Go.Proofs.YtjjcnbfmmhokeaaW.PrintWords
set_option linter.all false
set_option maxHeartbeats 4000000
theorem filter_less {α : Type} (p q : α → Bool) : ∀ (l : List α) (x : α), x ∈ l → (∀ y ∈ l, p y = true → q y = true) → q x = true → p x = false → (l.filter p).length < (l.filter q).length
 | y :: l, x, hx, hs, hq, hp => by
  have le : (l.filter p).length ≤ (l.filter q).length := by
   clear hx
   induction l with
   | nil => simp
   | cons z l ih =>
    have h1 := ih (fun w hw => hs w (by rcases List.mem_cons.1 hw with e | e <;> simp [e]))
    cases hz : p z with
    | true =>
     rw [List.filter_cons_of_pos hz, List.filter_cons_of_pos (hs z (by simp) hz)]
     simpa using h1
    | false =>
     rw [List.filter_cons_of_neg (by simp [hz])]
     cases hz2 : q z with
     | true => rw [List.filter_cons_of_pos hz2]; simp; omega
     | false => rw [List.filter_cons_of_neg (by simp [hz2])]; exact h1
  by_cases e : y = x
  ·subst e
   rw [List.filter_cons_of_neg (by simp [hp]), List.filter_cons_of_pos hq]
   simp; omega
  ·have hxl : x ∈ l := (List.mem_cons.1 hx).resolve_left fun h => e h.symm
   have h1 := filter_less p q l x hxl (fun w hw => hs w (.tail _ hw)) hq hp
   cases hz : p y with
   | true =>
    rw [List.filter_cons_of_pos hz, List.filter_cons_of_pos (hs y (.head _) hz)]
    simpa using h1
   | false =>
    rw [List.filter_cons_of_neg (by simp [hz])]
    cases hz2 : q y with
    | true => rw [List.filter_cons_of_pos hz2]; simp; omega
    | false => rw [List.filter_cons_of_neg (by simp [hz2])]; exact h1
def clsP (T : Nat → Nat → Bool) (a k : Nat) : Bool := k == a || (T a k && T k a)
def cls (n : Nat) (T : Nat → Nat → Bool) (a : Nat) : List Int := pickN (clsP T a) n
def badP (T : Nat → Nat → Bool) (done : List Int) (a k : Nat) : Bool := T a k && !(decide ((k : Int) ∈ done)) && !(T k a) && !(k == a)
theorem clsP_iff {T : Nat → Nat → Bool} {a k : Nat} : clsP T a k = true ↔ k = a ∨ (T a k = true ∧ T k a = true) := by unfold clsP; simp
theorem badP_iff {T : Nat → Nat → Bool} {done : List Int} {a k : Nat} : badP T done a k = true ↔ T a k = true ∧ (k : Int) ∉ done ∧ T k a = false ∧ k ≠ a := by unfold badP; simp [and_assoc]
theorem mem_cls {n : Nat} {T : Nat → Nat → Bool} {a k : Nat} : (k : Int) ∈ cls n T a ↔ k < n ∧ (k = a ∨ (T a k = true ∧ T k a = true)) := by
 unfold cls
 rw [mem_pickN]
 constructor
 ·rintro ⟨q, e, h1, h2⟩
  obtain rfl : k = q := by omega
  exact ⟨h1, clsP_iff.1 h2⟩
 ·rintro ⟨h1, h2⟩
  exact ⟨k, rfl, h1, clsP_iff.2 h2⟩
structure GI (n : Nat) (T : Nat → Nat → Bool) (out : List (List Int)) : Prop where
 cl : ∀ g ∈ out, ∃ a, a < n ∧ g = cls n T a
 nd : out.flatten.Nodup
 ord : ∀ pre g post, out = pre ++ g :: post → ∀ a b : Nat, a < n → b < n → (a : Int) ∈ g → T a b = true → (b : Int) ∈ pre.flatten ∨ (b : Int) ∈ g
def Trn (n : Nat) (T : Nat → Nat → Bool) : Prop := ∀ a b c, a < n → b < n → c < n → T a b = true → T b c = true → T a c = true
theorem GI.inn {n : Nat} {T : Nat → Nat → Bool} {out : List (List Int)} (h : GI n T out) : ∀ x ∈ out.flatten, ∃ k : Nat, x = (k : Int) ∧ k < n := by
 intro x hx
 obtain ⟨g, hg, hxg⟩ := List.mem_flatten.1 hx
 obtain ⟨a, _, rfl⟩ := h.cl g hg
 obtain ⟨k, e, h1, _⟩ := mem_pickN.1 hxg
 exact ⟨k, e, h1⟩
theorem GI.len {n : Nat} {T : Nat → Nat → Bool} {out : List (List Int)} (h : GI n T out) : out.flatten.length ≤ n := by
 have := h.nd.length_le_of_subset (l₂ := (List.range n).map fun (k : Nat) => (k : Int)) (fun x hx => by
  obtain ⟨k, rfl, hk⟩ := h.inn x hx
  exact List.mem_map.2 ⟨k, List.mem_range.2 hk, rfl⟩)
 simpa using this
theorem GI.all {n : Nat} {T : Nat → Nat → Bool} {out : List (List Int)} (h : GI n T out) : out.flatten.length = n ↔ ∀ a, a < n → (a : Int) ∈ out.flatten := by
 constructor
 ·intro hl a ha
  refine Classical.byContradiction fun hn => ?_
  have nd2 : ((a : Int) :: out.flatten).Nodup := List.nodup_cons.2 ⟨hn, h.nd⟩
  have := nd2.length_le_of_subset (l₂ := (List.range n).map fun (k : Nat) => (k : Int)) (fun x hx => by
   rcases List.mem_cons.1 hx with rfl | hx
   ·exact List.mem_map.2 ⟨a, List.mem_range.2 ha, rfl⟩
   ·obtain ⟨k, rfl, hk⟩ := h.inn x hx
    exact List.mem_map.2 ⟨k, List.mem_range.2 hk, rfl⟩)
  simp at this
  simp at hl
  omega
 ·intro ha
  have nd2 : ((List.range n).map fun (k : Nat) => (k : Int)).Nodup := by
   rw [List.nodup_iff_pairwise_ne, List.pairwise_map]
   exact List.pairwise_lt_range.imp (fun h => by omega)
  have := nd2.length_le_of_subset (l₂ := out.flatten) (fun x hx => by
   obtain ⟨k, hk, rfl⟩ := List.mem_map.1 hx
   exact ha k (List.mem_range.1 hk))
  have := h.len
  simp at *
  omega
theorem GI.clo {n : Nat} {T : Nat → Nat → Bool} (hT : Trn n T) {out : List (List Int)} (h : GI n T out) {a b : Nat} (ha : a < n) (hb : b < n) (had : (a : Int) ∈ out.flatten) (h1 : T a b = true) (h2 : T b a = true) : (b : Int) ∈ out.flatten := by
 obtain ⟨g, hg, hag⟩ := List.mem_flatten.1 had
 obtain ⟨c, hc, rfl⟩ := h.cl g hg
 refine List.mem_flatten.2 ⟨_, hg, mem_cls.2 ⟨hb, ?_⟩⟩
 rcases (mem_cls.1 hag).2 with rfl | ⟨h3, h4⟩
 ·exact .inr ⟨h1, h2⟩
 ·exact .inr ⟨hT c a b hc ha hb h3 h1, hT b a c hb ha hc h2 h4⟩
theorem GI.next {n : Nat} {T : Nat → Nat → Bool} (hT : Trn n T) {out : List (List Int)} (h : GI n T out) {c : Nat} (hc : c < n) (hcd : (c : Int) ∉ out.flatten) (hf : ∀ k, k < n → badP T out.flatten c k = false) : GI n T (out ++ [cls n T c]) := by
 have hcls : ∀ k : Nat, (k : Int) ∈ cls n T c → (k : Int) ∉ out.flatten := by
  intro k hk hkd
  obtain ⟨hkn, rfl | ⟨h1, h2⟩⟩ := mem_cls.1 hk
  ·exact hcd hkd
  ·exact hcd (h.clo hT hkn hc hkd h2 h1)
 refine ⟨fun g hg => ?_, ?_, ?_⟩
 ·rcases List.mem_append.1 hg with hg | hg
  ·exact h.cl g hg
  ·exact ⟨c, hc, List.mem_singleton.1 hg⟩
 ·rw [List.flatten_append]
  refine List.nodup_append.2 ⟨h.nd, ?_, fun x hx y hy e => ?_⟩
  ·simp only [List.flatten_cons, List.flatten_nil, List.append_nil]
   rw [List.nodup_iff_pairwise_ne]
   exact (pickN_strict _ _).imp (fun h => by omega)
  ·simp only [List.flatten_cons, List.flatten_nil, List.append_nil] at hy
   obtain ⟨k, rfl, _⟩ := h.inn x hx
   rw [← e] at hy
   exact hcls k hy hx
 ·intro pre g post e a b ha hb hag hab
  rcases List.eq_nil_or_concat post with rfl | ⟨post', z, rfl⟩
  ·obtain ⟨rfl, e2⟩ := List.append_inj' e rfl
   have e2 : cls n T c = g := (List.cons.inj e2).1
   subst e2
   obtain ⟨_, hca⟩ := mem_cls.1 hag
   have hcb : T c b = true := by
    rcases hca with rfl | ⟨h1, _⟩
    ·exact hab
    ·exact hT c a b hc ha hb h1 hab
   by_cases hbd : (b : Int) ∈ out.flatten
   ·exact .inl hbd
   ·refine .inr (mem_cls.2 ⟨hb, ?_⟩)
    have := hf b hb
    by_cases hbc : b = c
    ·exact .inl hbc
    ·refine .inr ⟨hcb, ?_⟩
     cases hTb : T b c with
     | true => rfl
     | false =>
      rw [badP_iff.2 ⟨hcb, hbd, hTb, hbc⟩] at this
      cases this
  ·rw [List.concat_eq_append, ← List.cons_append, ← List.append_assoc] at e
   obtain ⟨e1, _⟩ := List.append_inj' e rfl
   exact h.ord pre g post' e1 a b ha hb hag hab
theorem free_ex {n : Nat} {T : Nat → Nat → Bool} (hT : Trn n T) (done : List Int) : ∀ (s a : Nat), a < n → (a : Int) ∉ done → ((List.range n).filter fun (j : Nat) => !(decide ((j : Int) ∈ done)) && (j == a || T a j)).length ≤ s → ∃ c, c < n ∧ (c : Int) ∉ done ∧ ∀ k, k < n → badP T done c k = false
 | 0, a, ha, had, hs => by
  have : a ∈ (List.range n).filter fun (j : Nat) => !(decide ((j : Int) ∈ done)) && (j == a || T a j) := by
   refine List.mem_filter.2 ⟨List.mem_range.2 ha, ?_⟩
   simp [had]
  have := List.length_pos_of_mem this
  omega
 | s + 1, a, ha, had, hs => by
  by_cases hf : ∀ k, k < n → badP T done a k = false
  ·exact ⟨a, ha, had, hf⟩
  ·obtain ⟨k, hk⟩ := Classical.not_forall.1 hf
   obtain ⟨hkn, hk⟩ := Classical.not_imp.1 hk
   have hk : badP T done a k = true := by simpa using hk
   obtain ⟨h1, h2, h3, h4⟩ := badP_iff.1 hk
   refine free_ex hT done s k hkn h2 ?_
   have := filter_less (fun (j : Nat) => !(decide ((j : Int) ∈ done)) && (j == k || T k j)) (fun (j : Nat) => !(decide ((j : Int) ∈ done)) && (j == a || T a j)) (List.range n) a (List.mem_range.2 ha) (fun y hy hp => by
    have hyn := List.mem_range.1 hy
    simp only [Bool.and_eq_true, Bool.or_eq_true, beq_iff_eq] at hp ⊢
    refine ⟨hp.1, ?_⟩
    rcases hp.2 with rfl | hp
    ·exact .inr h1
    ·exact .inr (hT a k y ha hkn hyn h1 hp)) (by simp [had]) (by
    have : ¬ a = k := fun e => h4 e.symm
    simp [had, h3, this])
   omega
end Go.Proofs.Ytjjcnbfmmhokeaa.G
namespace Go.Proofs.Ytjjcnbfmmhokeaa.X
open Go.RowKit Go.Proofs.YtjjcnbfmmhokeaaW.PrintWords Go.Proofs.YtjjcnbfmmhokeaaW.PrintLast Go.Proofs.YtjjcnbfmmhokeaaW.PrintMore
attribute [local go_sem] max2_int min2_int max_two min_two max_three min_three max_four min_four
set_option linter.all false
noncomputable section
mutual
def davitref11_Groups.l0 : Nat → List (List Int) → Int → List (S33) → Option ((List (List Int)))
 | 0, _, _, _ => none
 | k + 1, x3, x4, x183000 => if x4 < (x183000.length : Int) then ((davitref11_To.f k x183000 x4).bind fun t183 => (if x3.length < 5864062014805 then (davitref11_Groups.l0 k (x3 ++ [t183]) (wrap64 (x4 + 1)) x183000) else (none))) else (davitref11_Groups.l1 k x3 ([] : List (List Int)) ([] : List Int))
def davitref11_Groups.l1 : Nat → List (List Int) → List (List Int) → List Int → Option ((List (List Int)))
 | 0, _, _, _ => none
 | k + 1, x3, x5, x6 => if (x6.length : Int) < (x3.length : Int) then (davitref11_Groups.l2 k x3 x5 x6 0) else (some x5)
def davitref11_Groups.l2 : Nat → List (List Int) → List (List Int) → List Int → Int → Option ((List (List Int)))
 | 0, _, _, _, _ => none
 | k + 1, x3, x5, x6, x7 => if x7 < (x3.length : Int) then ((davitref07_Has.f k x6 x7).bind fun t189 => (if t189 = true then (davitref11_Groups.l2 k x3 x5 x6 (wrap64 (x7 + 1))) else (davitref11_Groups.l3 k x3 x5 x6 x7 ([] : List Int) true 0))) else (davitref11_Groups.l1 k x3 x5 x6)
def davitref11_Groups.l3 : Nat → List (List Int) → List (List Int) → List Int → Int → List Int → Bool → Int → Option ((List (List Int)))
 | 0, _, _, _, _, _, _, _ => none
 | k + 1, x3, x5, x6, x7, x8, x9, x10 => if x10 < (x3.length : Int) then (if 0 ≤ x10 then ((davitref07_Has.f k (rd_L5 x3 x10) x7).bind fun t197 => (if x10 = x7 then (davitref11_Groups.j4 k x3 x5 x6 x7 x8 x9 x10 true) else (if 0 ≤ x7 then (if x7 < (x3.length : Int) then ((davitref07_Has.f k (rd_L5 x3 x7) x10).bind fun t199 => (if t199 = true then (davitref11_Groups.j4 k x3 x5 x6 x7 x8 x9 x10 t197) else (davitref11_Groups.j4 k x3 x5 x6 x7 x8 x9 x10 false))) else (none)) else (none)))) else (none)) else (if x9 = true then (if x5.length < 5864062014805 then (if x6.length + x8.length < 17592186044416 then (davitref11_Groups.l1 k x3 (x5 ++ [x8]) (x6 ++ x8)) else (none)) else (none)) else (davitref11_Groups.l2 k x3 x5 x6 (wrap64 (x7 + 1))))
def davitref11_Groups.j4 : Nat → List (List Int) → List (List Int) → List Int → Int → List Int → Bool → Int → Bool → Option ((List (List Int)))
 | 0, _, _, _, _, _, _, _, _ => none
 | k + 1, x3, x5, x6, x7, x8, x9, x10, x64 => if x64 = true then (if x8.length < 17592186044416 then (davitref11_Groups.l3 k x3 x5 x6 x7 (x8 ++ [x10]) x9 (wrap64 (x10 + 1))) else (none)) else (if 0 ≤ x7 then (if x7 < (x3.length : Int) then ((davitref07_Has.f k (rd_L5 x3 x7) x10).bind fun t204 => (if t204 = true then ((davitref07_Has.f k x6 x10).bind fun t205 => (if t205 = true then (davitref11_Groups.l3 k x3 x5 x6 x7 x8 x9 (wrap64 (x10 + 1))) else (davitref11_Groups.l3 k x3 x5 x6 x7 x8 false (wrap64 (x10 + 1))))) else (davitref11_Groups.l3 k x3 x5 x6 x7 x8 x9 (wrap64 (x10 + 1))))) else (none)) else (none))
end
def davitref11_Groups.f (k : Nat) (l0_0 : List (S33)) : Option ((List (List Int))) := davitref11_Groups.l0 k ([] : List (List Int)) 0 l0_0
theorem davitref11_Groups.mono_l : ∀ k, (∀ y0 y1 y2, LeO (davitref11_Groups.l0 k y0 y1 y2) (davitref11_Groups.l0 (k + 1) y0 y1 y2)) ∧ (∀ y0 y1 y2, LeO (davitref11_Groups.l1 k y0 y1 y2) (davitref11_Groups.l1 (k + 1) y0 y1 y2)) ∧ (∀ y0 y1 y2 y3, LeO (davitref11_Groups.l2 k y0 y1 y2 y3) (davitref11_Groups.l2 (k + 1) y0 y1 y2 y3)) ∧ (∀ y0 y1 y2 y3 y4 y5 y6, LeO (davitref11_Groups.l3 k y0 y1 y2 y3 y4 y5 y6) (davitref11_Groups.l3 (k + 1) y0 y1 y2 y3 y4 y5 y6)) ∧ (∀ y0 y1 y2 y3 y4 y5 y6 y7, LeO (davitref11_Groups.j4 k y0 y1 y2 y3 y4 y5 y6 y7) (davitref11_Groups.j4 (k + 1) y0 y1 y2 y3 y4 y5 y6 y7))
 | 0 => ⟨fun _ _ _ r h => by simp [davitref11_Groups.l0] at h, fun _ _ _ r h => by simp [davitref11_Groups.l1] at h, fun _ _ _ _ r h => by simp [davitref11_Groups.l2] at h, fun _ _ _ _ _ _ _ r h => by simp [davitref11_Groups.l3] at h, fun _ _ _ _ _ _ _ _ r h => by simp [davitref11_Groups.j4] at h⟩
 | k + 1 => by
  obtain ⟨ih0, ih1, ih2, ih3, ih4⟩ := davitref11_Groups.mono_l k
  refine ⟨?_, ?_, ?_, ?_, ?_⟩
  ·intro y0 y1 y2
   unfold davitref11_Groups.l0
   repeat' first
   | (with_reducible exact ih0 _ _ _)
   | (with_reducible exact ih1 _ _ _)
   | (with_reducible exact ih2 _ _ _ _)
   | (with_reducible exact ih3 _ _ _ _ _ _ _)
   | (with_reducible exact ih4 _ _ _ _ _ _ _ _)
   | (with_reducible exact davitref07_Has.mono _ _ _)
   | (with_reducible exact davitref11_To.mono _ _ _)
   | (with_reducible exact LeO.refl _)
   | (with_reducible exact LeO.none _)
   | (with_reducible refine LeO.ite ?_ ?_)
   | (with_reducible refine LeO.bind ?_ (fun _ => ?_))
   | exact ih0 _ _ _
   | exact ih1 _ _ _
   | exact ih2 _ _ _ _
   | exact ih3 _ _ _ _ _ _ _
   | exact ih4 _ _ _ _ _ _ _ _
   | exact davitref07_Has.mono _ _ _
   | exact davitref11_To.mono _ _ _
   | exact LeO.none _
   | refine LeO.ite ?_ ?_
   | refine LeO.bind ?_ (fun _ => ?_)
  ·intro y0 y1 y2
   unfold davitref11_Groups.l1
   repeat' first
   | (with_reducible exact ih0 _ _ _)
   | (with_reducible exact ih1 _ _ _)
   | (with_reducible exact ih2 _ _ _ _)
   | (with_reducible exact ih3 _ _ _ _ _ _ _)
   | (with_reducible exact ih4 _ _ _ _ _ _ _ _)
   | (with_reducible exact davitref07_Has.mono _ _ _)
   | (with_reducible exact davitref11_To.mono _ _ _)
   | (with_reducible exact LeO.refl _)
   | (with_reducible exact LeO.none _)
   | (with_reducible refine LeO.ite ?_ ?_)
   | (with_reducible refine LeO.bind ?_ (fun _ => ?_))
   | exact ih0 _ _ _
   | exact ih1 _ _ _
   | exact ih2 _ _ _ _
   | exact ih3 _ _ _ _ _ _ _
   | exact ih4 _ _ _ _ _ _ _ _
   | exact davitref07_Has.mono _ _ _
   | exact davitref11_To.mono _ _ _
   | exact LeO.none _
   | refine LeO.ite ?_ ?_
   | refine LeO.bind ?_ (fun _ => ?_)
  ·intro y0 y1 y2 y3
   unfold davitref11_Groups.l2
   repeat' first
   | (with_reducible exact ih0 _ _ _)
   | (with_reducible exact ih1 _ _ _)
   | (with_reducible exact ih2 _ _ _ _)
   | (with_reducible exact ih3 _ _ _ _ _ _ _)
   | (with_reducible exact ih4 _ _ _ _ _ _ _ _)
   | (with_reducible exact davitref07_Has.mono _ _ _)
   | (with_reducible exact davitref11_To.mono _ _ _)
   | (with_reducible exact LeO.refl _)
   | (with_reducible exact LeO.none _)
   | (with_reducible refine LeO.ite ?_ ?_)
   | (with_reducible refine LeO.bind ?_ (fun _ => ?_))
   | exact ih0 _ _ _
   | exact ih1 _ _ _
   | exact ih2 _ _ _ _
   | exact ih3 _ _ _ _ _ _ _
   | exact ih4 _ _ _ _ _ _ _ _
   | exact davitref07_Has.mono _ _ _
   | exact davitref11_To.mono _ _ _
   | exact LeO.none _
   | refine LeO.ite ?_ ?_
   | refine LeO.bind ?_ (fun _ => ?_)
  ·intro y0 y1 y2 y3 y4 y5 y6
   unfold davitref11_Groups.l3
   repeat' first
   | (with_reducible exact ih0 _ _ _)
   | (with_reducible exact ih1 _ _ _)
   | (with_reducible exact ih2 _ _ _ _)
   | (with_reducible exact ih3 _ _ _ _ _ _ _)
   | (with_reducible exact ih4 _ _ _ _ _ _ _ _)
   | (with_reducible exact davitref07_Has.mono _ _ _)
   | (with_reducible exact davitref11_To.mono _ _ _)
   | (with_reducible exact LeO.refl _)
   | (with_reducible exact LeO.none _)
   | (with_reducible refine LeO.ite ?_ ?_)
   | (with_reducible refine LeO.bind ?_ (fun _ => ?_))
   | exact ih0 _ _ _
   | exact ih1 _ _ _
   | exact ih2 _ _ _ _
   | exact ih3 _ _ _ _ _ _ _
   | exact ih4 _ _ _ _ _ _ _ _
   | exact davitref07_Has.mono _ _ _
   | exact davitref11_To.mono _ _ _
   | exact LeO.none _
   | refine LeO.ite ?_ ?_
   | refine LeO.bind ?_ (fun _ => ?_)
  ·intro y0 y1 y2 y3 y4 y5 y6 y7
   unfold davitref11_Groups.j4
   repeat' first
   | (with_reducible exact ih0 _ _ _)
   | (with_reducible exact ih1 _ _ _)
   | (with_reducible exact ih2 _ _ _ _)
   | (with_reducible exact ih3 _ _ _ _ _ _ _)
   | (with_reducible exact ih4 _ _ _ _ _ _ _ _)
   | (with_reducible exact davitref07_Has.mono _ _ _)
   | (with_reducible exact davitref11_To.mono _ _ _)
   | (with_reducible exact LeO.refl _)
   | (with_reducible exact LeO.none _)
   | (with_reducible refine LeO.ite ?_ ?_)
   | (with_reducible refine LeO.bind ?_ (fun _ => ?_))
   | exact ih0 _ _ _
   | exact ih1 _ _ _
   | exact ih2 _ _ _ _
   | exact ih3 _ _ _ _ _ _ _
   | exact ih4 _ _ _ _ _ _ _ _
   | exact davitref07_Has.mono _ _ _
   | exact davitref11_To.mono _ _ _
   | exact LeO.none _
   | refine LeO.ite ?_ ?_
   | refine LeO.bind ?_ (fun _ => ?_)
theorem davitref11_Groups.mono : ∀ a0 k, LeO (davitref11_Groups.f k a0) (davitref11_Groups.f (k + 1) a0) := by
 intro a0 k
 obtain ⟨ih0, ih1, ih2, ih3, ih4⟩ := davitref11_Groups.mono_l k
 unfold davitref11_Groups.f
 repeat' first
   | (with_reducible exact ih0 _ _ _)
   | (with_reducible exact ih1 _ _ _)
   | (with_reducible exact ih2 _ _ _ _)
   | (with_reducible exact ih3 _ _ _ _ _ _ _)
   | (with_reducible exact ih4 _ _ _ _ _ _ _ _)
   | (with_reducible exact davitref07_Has.mono _ _ _)
   | (with_reducible exact davitref11_To.mono _ _ _)
   | (with_reducible exact LeO.refl _)
   | (with_reducible exact LeO.none _)
   | (with_reducible refine LeO.ite ?_ ?_)
   | (with_reducible refine LeO.bind ?_ (fun _ => ?_))
   | exact ih0 _ _ _
   | exact ih1 _ _ _
   | exact ih2 _ _ _ _
   | exact ih3 _ _ _ _ _ _ _
   | exact ih4 _ _ _ _ _ _ _ _
   | exact davitref07_Has.mono _ _ _
   | exact davitref11_To.mono _ _ _
   | exact LeO.none _
   | refine LeO.ite ?_ ?_
   | refine LeO.bind ?_ (fun _ => ?_)
set_option maxHeartbeats 8000000 in
set_option maxRecDepth 100000 in
theorem davitref11_Groups.calls (k : Nat) (A0_0 : Option Addr) (c0_0 : Nat) (l0_0 : List (S33)) (r : List (List Int)) (w : World) (hr0_0 : Kd.C k33 w A0_0 l0_0.length l0_0) (hc0_0 : l0_0.length ≤ c0_0) (h : davitref11_Groups.f k l0_0 = some r) :
  Calls Try.prog 16 #[.agg #[.slice A0_0 l0_0.length c0_0]] w fun e w' => ∃ v0_ : Value, e = .returned (v0_) ∧ Kd.S (Kd.slice 3 (Kd.int .i64)) 29 w' w.heap.size (fun _ => True) v0_ r ∧ Below w.heap.size w w' := by
 have hu24 := Try.underlying24
 have HR0_0 := Aside0.mk hr0_0
 have HC0_0 := Aside0.mk hc0_0
 clear hr0_0 hc0_0
 have HB := Aside0.mk (Below.refl w.heap.size w)
 have H : (davitref11_Groups.l0 k ([] : List (List Int)) 0 l0_0) = some r := h
 clear h
 have H' := Aside0.mk H
 clear H
 go_enter Try.func16, Try.ntmps16
 go_wp2_with (first | ((with_reducible refine gate_dst (N := 1) rfl ?_); refine box_event ?hg (N := 1) ?hd (cs := #[.slice A0_0 l0_0.length c0_0]) (t := 24) ?hr ?_; (case hd => rfl); (case hg => rfl); (case hr => first | (go_simp; done) | (go_simp; rfl)); intro gb182 hg w2 hbox hb; have n0_ := Aside0.mk (below_step (by repeat (first | (with_reducible first | exact HB.out | apply below_alloc | apply pw_below_drewN | apply below_drew1) | exact HB.out)) hb); have n1_ := Aside0.mk (hbox); have n2_ := Aside0.mk ((by rw [hg]; exact (below_size (by repeat (first | (with_reducible first | exact HB.out | apply below_alloc | apply pw_below_drewN | apply below_drew1) | exact HB.out))) : w.heap.size ≤ gb182)); have n3_ := Aside0.mk ((by rw [hg]; exact (below_size (by repeat (first | (with_reducible first | exact HB.out | apply below_alloc | apply pw_below_drewN | apply below_drew1) | exact HB.out))) : w.heap.size ≤ gb182)); clear HB; have HB := n0_; have BK182 := n1_; have GW182 := n2_; have GE182 := n3_; clear n0_ n1_ n2_ n3_; clear hb hbox hg))
 go_loopg [3, 4] k (fun kq v3 v4 w' => ∃ (x3_1 : List (List Int)) (x4_1 : Int), v4 = .int .i64 x4_1 ∧ Aside0 (davitref11_Groups.l0 kq x3_1 x4_1 l0_0 = some r) ∧ Aside0 (kq ≤ k) ∧ Aside0 (Kd.S (Kd.slice 3 (Kd.int .i64)) 29 w' w.heap.size (fun _ => True) v3 x3_1) ∧ Aside0 (w'.heap[gb182]? = some (.cells #[(.slice A0_0 l0_0.length c0_0)] 24 (0, 0))) ∧ Aside0 (Below w.heap.size w w'))
 case atStart => exact ⟨(([] : List (List Int))), (0), (by first | rfl | (simp; done) | (simp [*]; done)), H', ⟨Nat.le_refl _⟩, ⟨by first | exact Kd.S_nil _ _ _ _ _ | exact Kd.N_nil _ _ _ _ _ | exact Kd.V_nil _ _ _ _ _ | exact Kd.Q_nil _ _ _ _ _ | exact Kd.R_nil _ _ _ _ _⟩, ⟨by (with_reducible repeat (first | refine blk_drewN ?_ _ | refine blk_drew ?_ | refine blk_alloc ?_ _)); exact BK182.out⟩, ⟨by repeat (first | (with_reducible first | exact HB.out | apply below_alloc | apply pw_below_drewN | apply below_drew1 | refine below_set ?_ GE182.out) | exact HB.out)⟩⟩
 case round =>
  clear H'
  try clear c1
  try clear p2
  obtain ⟨x3_1, x4_1, rfl, HA, HK1, HO_3, BK182, HB⟩ := hrel
  cases gk with
  | zero => exact absurd HA.out (by simp [davitref11_Groups.l0])
  | succ k1 =>
   have H := HA.out
   clear HA
   simp only [davitref11_Groups.l0] at H
   by_cases c3 : x4_1 < (l0_0.length : Int)
   ·rw [if_pos c3] at H
    have c3b0 : decide (x4_1 < (l0_0.length : Int)) = true := decide_eq_true c3
    clear c3
    replace H := Option.bind_eq_some_iff.mp H
    obtain ⟨t183, A40, H⟩ := H
    replace H : (if x3_1.length < 5864062014805 then (davitref11_Groups.l0 k1 (x3_1 ++ [t183]) (wrap64 (x4_1 + 1)) l0_0) else (none)) = some r := H
    have A4 := Aside0.mk A40
    clear A40
    by_cases c5 : x3_1.length < 5864062014805
    ·rw [if_pos c5] at H
     have LMc5 := Aside0.mk c5
     clear c5
     obtain ⟨y186, hy186⟩ : ∃ y_ : List (List Int), y_ = (x3_1 ++ [t183]) := ⟨_, rfl⟩
     replace H : (davitref11_Groups.l0 k1 y186 (wrap64 (x4_1 + 1)) l0_0) = some r := by first | (rw [hy186]; with_reducible exact H) | (have H2_ := (Option.bind_some _ _).symm.trans H; rw [hy186]; with_reducible exact H2_) | (have H2_ := (Option.bind_some _ _).symm.trans H; with_reducible exact H2_) | with_reducible exact H | (rw [hy186]; exact H) | exact H
     have Ny186 := Aside0.mk hy186
     clear hy186
     have H' := Aside0.mk H
     clear H
     have hcz6_0 : wr.cell? ⟨gb182, 0, none⟩ = some (.slice A0_0 l0_0.length c0_0) := (blk_cell BK182.out 0).trans rfl
     have hfz6_0 := blk_frozen BK182.out 0
     go_wp2_with (first | ((with_reducible refine gate_callee (f := 14) rfl ?_); refine goesL_ (some 22) rfl rfl Try.func14 (by kernel_rfl) rfl #[.agg #[.slice A0_0 l0_0.length c0_0], .int .i64 x4_1] rfl (by (try simp only [List.map_toArray, List.map_cons, List.map_nil]); first | done | rfl | (simp only [List.length_drop, List.length_take]; rfl)) ?_; (with_reducible refine (davitref11_To.calls k1 _ _ l0_0 x4_1 t183 _ ?side1 ?side2 A4.out).mono ?_); (case side1 => repeat (first | exact (Kd.C_below HR0_0.out HB.out) | (with_reducible refine Kd.C_alloc ?_ _) | (with_reducible refine Kd.C_drewN ?_ _) | (with_reducible refine Kd.C_drew ?_))); (case side2 => exact HC0_0.out); rintro e w7 ⟨v184, rfl, ho0, hb⟩; refine ⟨_, rfl, ?_⟩; have n0_ := Aside0.mk (Kd.S_elder' (by (with_reducible repeat (first | apply Kd.S_alloc | apply Kd.S_drewN | apply Kd.S_drew)); exact HO_3.out) (Kd.R_base ho0) hb); have n1_ := Aside0.mk (Kd.R_lower ho0 (below_size (by repeat (first | (with_reducible first | exact HB.out | apply below_alloc | apply pw_below_drewN | apply below_drew1 | refine below_set ?_ GE182.out) | exact HB.out)))); have n2_ := Aside0.mk (blk_below (g := gb182) (o := .cells #[.slice A0_0 l0_0.length c0_0] 24 (0, 0)) (by (with_reducible repeat (first | refine blk_drewN ?_ _ | refine blk_drew ?_ | refine blk_alloc ?_ _)); exact BK182.out) hb); have n3_ := Aside0.mk (below_step (by repeat (first | (with_reducible first | exact HB.out | apply below_alloc | apply pw_below_drewN | apply below_drew1 | refine below_set ?_ GE182.out) | exact HB.out)) hb); clear HO_3; clear BK182; clear HB; have HO_3 := n0_; have HO185 := n1_; have BK182 := n2_; have HB := n3_; clear n0_ n1_ n2_ n3_; (try clear hb); (try clear hb2); (try clear hk); (try clear hi); (try clear ho0); obtain ⟨Ao9, co9, eo9⟩ := Kd.R_slice HO185.out; subst eo9) | ((with_reducible refine gate_builtin (b := .append) (xs := #[.tmp 19, .tmp 23]) rfl ?_); at_builtin; refine Kd.S_append (Kd.slice 3 (Kd.int .i64)) (w0 := w) w.heap.size rfl (.tmp 19) (.tmp 23) 27 29 (.slice none 0 0) 24 rfl Try.underlying27 info29 rfl (by decide) (by omega) u3 x3_1 t183 [.slice Ao9 t183.length co9] (fun _ => True) (fun k_ => some k_ = (.slice Ao9 t183.length co9 : Value).ownBlock) rfl rfl ?aP (fun k_ hk_ => ((Kd.R_mono (ok' := fun k_ => ((fun _ => True)) k_ ∧ some k_ ≠ (u3 : Value).ownBlock) (Kd.R_apart' (HO185.out) (Kd.S_typed HO_3.out) (by decide)) (fun k_ hk => ⟨trivial, hk.2⟩))).1 k_ hk_.symm) ?aF ?aO ?aB ?aS ?aL ?_; (case aP => exact Kd.M_row (Kd.R_mono (Kd.R_tight rfl (Kd.R_mono (ok' := fun k_ => ((fun _ => True)) k_ ∧ some k_ ≠ (u3 : Value).ownBlock) (Kd.R_apart' (HO185.out) (Kd.S_typed HO_3.out) (by decide)) (fun k_ hk => ⟨trivial, hk.2⟩))) (fun _ h_ => h_))); (case aB => exact (by repeat (first | (with_reducible first | exact HB.out | apply below_alloc | apply pw_below_drewN | apply below_drew1 | refine below_set ?_ GE182.out) | exact HB.out))); (case aF => exact (fun _ _ => trivial)); (case aO => exact (by (with_reducible repeat (first | apply Kd.S_alloc | apply Kd.S_drewN | apply Kd.S_drew)); exact Kd.S_mono HO_3.out (fun k_ hk => ⟨trivial, fun e_ => hk.2 e_⟩))); (case aS => exact (below_size (by repeat (first | (with_reducible first | exact HB.out | apply below_alloc | apply pw_below_drewN | apply below_drew1 | refine below_set ?_ GE182.out) | exact HB.out)))); (case aL => have := LMc5.out; omega); intro v187 w8 ho hb hg hat; rw [← Ny186.out] at ho; have n0_ := Aside0.mk (blk_grown (g := gb182) (o := .cells #[.slice A0_0 l0_0.length c0_0] 24 (0, 0)) (by (with_reducible repeat (first | refine blk_drewN ?_ _ | refine blk_drew ?_ | refine blk_alloc ?_ _)); exact BK182.out) hg (Kd.S_ne HO_3.out BK182.out (by decide))); have n1_ := Aside0.mk (hb); have n2_ := Aside0.mk (ho); clear BK182; clear HB; clear HO_3; clear HO185; have BK182 := n0_; have HB := n1_; have HO188 := n2_; clear n0_ n1_ n2_; clear ho hb hg hat))
     go_roundg k1
     case measure => have := HK1.out; omega
     case rel => exact ⟨(y186), (wrap64 (x4_1 + 1)), (by first | rfl | (simp; done) | (simp [*]; done)), H', ⟨by have := HK1.out; omega⟩, ⟨by (with_reducible repeat (first | apply Kd.S_alloc | apply Kd.S_drewN | apply Kd.S_drew)); exact HO188.out⟩, ⟨by (with_reducible repeat (first | refine blk_drewN ?_ _ | refine blk_drew ?_ | refine blk_alloc ?_ _)); exact BK182.out⟩, ⟨by repeat (first | (with_reducible first | exact HB.out | apply below_alloc | apply pw_below_drewN | apply below_drew1 | refine below_set ?_ GE182.out) | exact HB.out)⟩⟩
    ·rw [if_neg c5] at H
     exact absurd H (by simp)
   ·rw [if_neg c3] at H
    have c3b0 : decide (x4_1 < (l0_0.length : Int)) = false := decide_eq_false c3
    clear c3
    have H' := Aside0.mk H
    clear H
    have hcz10_0 : wr.cell? ⟨gb182, 0, none⟩ = some (.slice A0_0 l0_0.length c0_0) := (blk_cell BK182.out 0).trans rfl
    have hfz10_0 := blk_frozen BK182.out 0
    go_wp2
    go_loopg [5, 6] k1 (fun kq v5 v6 w' => ∃ (x5_2 : List (List Int)) (x6_2 : List Int), Aside0 (davitref11_Groups.l1 kq x3_1 x5_2 x6_2 = some r) ∧ Aside0 (kq ≤ k1) ∧ Aside0 (Kd.S (Kd.slice 3 (Kd.int .i64)) 29 w' w.heap.size (fun k_ => some k_ ≠ (v5 : Value).ownBlock ∧ some k_ ≠ (v6 : Value).ownBlock) u3 x3_1) ∧ Aside0 (Kd.S (Kd.slice 3 (Kd.int .i64)) 29 w' w.heap.size (fun k_ => some k_ ≠ (u3 : Value).ownBlock ∧ some k_ ≠ (v6 : Value).ownBlock) v5 x5_2) ∧ Aside0 (Kd.R (Kd.int .i64) 3 w' w.heap.size (fun _ => True) v6 x6_2) ∧ Aside0 (w'.heap[gb182]? = some (.cells #[(.slice A0_0 l0_0.length c0_0)] 24 (0, 0))) ∧ Aside0 (Below w.heap.size w w'))
    case atStart => exact ⟨(([] : List (List Int))), (([] : List Int)), H', ⟨Nat.le_refl _⟩, ⟨by (with_reducible repeat (first | apply Kd.S_alloc | apply Kd.S_drewN | apply Kd.S_drew)); exact Kd.S_mono HO_3.out (fun _ hk => ⟨(by simp [Value.ownBlock]), (by simp [Value.ownBlock])⟩)⟩, ⟨by first | exact Kd.S_nil _ _ _ _ _ | exact Kd.N_nil _ _ _ _ _ | exact Kd.V_nil _ _ _ _ _ | exact Kd.Q_nil _ _ _ _ _ | exact Kd.R_nil _ _ _ _ _⟩, ⟨by first | exact Kd.R_nil _ _ _ _ _ | exact Kd.N_nil _ _ _ _ _ | exact Kd.V_nil _ _ _ _ _ | exact Kd.Q_nil _ _ _ _ _ | exact Kd.S_nil _ _ _ _ _⟩, ⟨by (with_reducible repeat (first | refine blk_drewN ?_ _ | refine blk_drew ?_ | refine blk_alloc ?_ _)); exact BK182.out⟩, ⟨by repeat (first | (with_reducible first | exact HB.out | apply below_alloc | apply pw_below_drewN | apply below_drew1 | refine below_set ?_ GE182.out) | exact HB.out)⟩⟩
    case round =>
     clear H'
     try clear c1
     try clear p2
     try clear c3
     try clear c3b0
     try clear c5
     try clear p6
     try clear hcz10_0
     try clear hcz6_0
     try clear hfz10_0
     try clear hfz6_0
     try clear p2
     obtain ⟨x5_2, x6_2, HA, HK2, HO_3, HO_5, HO_6, BK182, HB⟩ := hrel
     cases gk with
     | zero => exact absurd HA.out (by simp [davitref11_Groups.l1])
     | succ k2 =>
      have H := HA.out
      clear HA
      simp only [davitref11_Groups.l1] at H
      by_cases c11 : (x6_2.length : Int) < (x3_1.length : Int)
      ·rw [if_pos c11] at H
       have c11b0 : decide ((x6_2.length : Int) < (x3_1.length : Int)) = true := decide_eq_true c11
       have c11b1 : decide (x6_2.length < x3_1.length) = true := decide_eq_true (Int.ofNat_lt.mp c11)
       clear c11
       have H' := Aside0.mk H
       clear H
       obtain ⟨Ao12, co12, eo12⟩ := Kd.R_slice HO_6.out
       subst eo12
       obtain ⟨Ao13, co13, eo13⟩ := Kd.S_slice HO_3.out
       subst eo13
       go_wp2
       go_loopg [5, 6, 7] k2 (fun kq v5 v6 v7 w' => ∃ (x5_3 : List (List Int)) (x6_3 : List Int) (x7_3 : Int), v7 = .int .i64 x7_3 ∧ Aside0 (davitref11_Groups.l2 kq x3_1 x5_3 x6_3 x7_3 = some r) ∧ Aside0 (kq ≤ k2) ∧ Aside0 (Kd.S (Kd.slice 3 (Kd.int .i64)) 29 w' w.heap.size (fun k_ => some k_ ≠ (v5 : Value).ownBlock ∧ some k_ ≠ (v6 : Value).ownBlock) (.slice Ao13 x3_1.length co13) x3_1) ∧ Aside0 (Kd.S (Kd.slice 3 (Kd.int .i64)) 29 w' w.heap.size (fun k_ => some k_ ≠ ((.slice Ao13 x3_1.length co13) : Value).ownBlock ∧ some k_ ≠ (v6 : Value).ownBlock) v5 x5_3) ∧ Aside0 (Kd.R (Kd.int .i64) 3 w' w.heap.size (fun _ => True) v6 x6_3) ∧ Aside0 (w'.heap[gb182]? = some (.cells #[(.slice A0_0 l0_0.length c0_0)] 24 (0, 0))) ∧ Aside0 (Below w.heap.size w w'))
       case atStart => exact ⟨(x5_2), (x6_2), (0), (by first | rfl | (simp; done) | (simp [*]; done)), H', ⟨Nat.le_refl _⟩, ⟨by (with_reducible repeat (first | apply Kd.S_alloc | apply Kd.S_drewN | apply Kd.S_drew)); exact HO_3.out⟩, ⟨by (with_reducible repeat (first | apply Kd.S_alloc | apply Kd.S_drewN | apply Kd.S_drew)); exact HO_5.out⟩, ⟨by (with_reducible repeat (first | apply Kd.R_alloc | apply Kd.R_drewN | apply Kd.R_drew)); exact HO_6.out⟩, ⟨by (with_reducible repeat (first | refine blk_drewN ?_ _ | refine blk_drew ?_ | refine blk_alloc ?_ _)); exact BK182.out⟩, ⟨by repeat (first | (with_reducible first | exact HB.out | apply below_alloc | apply pw_below_drewN | apply below_drew1 | refine below_set ?_ GE182.out) | exact HB.out)⟩⟩
       case round =>
        clear H'
        try clear c1
        try clear p2
        try clear c3
        try clear c3b0
        try clear c5
        try clear p6
        try clear c11
        try clear c11b0
        try clear c11b1
        try clear hcz10_0
        try clear hcz6_0
        try clear hfz10_0
        try clear hfz6_0
        try clear p2
        try clear p6
        obtain ⟨x5_3, x6_3, x7_3, rfl, HA, HK3, HO_3, HO_5, HO_6, BK182, HB⟩ := hrel
        cases gk with
        | zero => exact absurd HA.out (by simp [davitref11_Groups.l2])
        | succ k3 =>
         have H := HA.out
         clear HA
         simp only [davitref11_Groups.l2] at H
         by_cases c14 : x7_3 < (x3_1.length : Int)
         ·rw [if_pos c14] at H
          have c14b0 : decide (x7_3 < (x3_1.length : Int)) = true := decide_eq_true c14
          clear c14
          replace H := Option.bind_eq_some_iff.mp H
          obtain ⟨t189, A150, H⟩ := H
          replace H : (if t189 = true then (davitref11_Groups.l2 k3 x3_1 x5_3 x6_3 (wrap64 (x7_3 + 1))) else (davitref11_Groups.l3 k3 x3_1 x5_3 x6_3 x7_3 ([] : List Int) true 0)) = some r := H
          have A15 := Aside0.mk A150
          clear A150
          by_cases c16 : t189 = true
          ·subst c16
           have H1 : (davitref11_Groups.l2 k3 x3_1 x5_3 x6_3 (wrap64 (x7_3 + 1))) = some r := by rw [if_pos rfl] at H; exact H
           clear H
           have H := H1
           clear H1
           have H' := Aside0.mk H
           clear H
           obtain ⟨Ao17, co17, eo17⟩ := Kd.R_slice HO_6.out
           subst eo17
           go_wp2_with (first | ((with_reducible refine gate_callee (f := 10) rfl ?_); refine goesL_ (some 38) rfl rfl Try.func10 (by kernel_rfl) rfl #[.slice Ao17 x6_3.length co17, .int .i64 x7_3] rfl (by (try simp only [List.map_toArray, List.map_cons, List.map_nil]); first | done | rfl | (simp only [List.length_drop, List.length_take]; rfl)) ?_; (with_reducible refine (davitref07_Has.calls k3 _ _ x6_3 x7_3 true _ ?side1 ?side2 A15.out).mono ?_); (case side1 => repeat (first | exact (Kd.R_reads' HO_6.out).2.2 | (with_reducible refine Kd.C_alloc ?_ _) | (with_reducible refine Kd.C_drewN ?_ _) | (with_reducible refine Kd.C_drew ?_))); (case side2 => exact (Kd.R_reads' HO_6.out).2.1); rintro e w' ⟨rfl, ⟨nd, rfl⟩⟩; refine ⟨_, rfl, ?_⟩))
           go_roundg k3
           case measure => have := HK1.out; have := HK2.out; have := HK3.out; omega
           case rel => exact ⟨(x5_3), (x6_3), (wrap64 (x7_3 + 1)), (by first | rfl | (simp; done) | (simp [*]; done)), H', ⟨by have := HK1.out; have := HK2.out; have := HK3.out; omega⟩, ⟨by (with_reducible repeat (first | apply Kd.S_alloc | apply Kd.S_drewN | apply Kd.S_drew)); exact HO_3.out⟩, ⟨by (with_reducible repeat (first | apply Kd.S_alloc | apply Kd.S_drewN | apply Kd.S_drew)); exact HO_5.out⟩, ⟨by (with_reducible repeat (first | apply Kd.R_alloc | apply Kd.R_drewN | apply Kd.R_drew)); exact HO_6.out⟩, ⟨by (with_reducible repeat (first | refine blk_drewN ?_ _ | refine blk_drew ?_ | refine blk_alloc ?_ _)); exact BK182.out⟩, ⟨by repeat (first | (with_reducible first | exact HB.out | apply below_alloc | apply pw_below_drewN | apply below_drew1 | refine below_set ?_ GE182.out) | exact HB.out)⟩⟩
          ·replace c16 := Bool.eq_false_iff.mpr c16
           subst c16
           have H1 : (davitref11_Groups.l3 k3 x3_1 x5_3 x6_3 x7_3 ([] : List Int) true 0) = some r := by rw [if_neg (show ¬ (false = true) by decide)] at H; exact H
           clear H
           have H := H1
           clear H1
           have H' := Aside0.mk H
           clear H
           obtain ⟨Ao18, co18, eo18⟩ := Kd.R_slice HO_6.out
           subst eo18
           go_wp2_with (first | ((with_reducible refine gate_callee (f := 10) rfl ?_); refine goesL_ (some 38) rfl rfl Try.func10 (by kernel_rfl) rfl #[.slice Ao18 x6_3.length co18, .int .i64 x7_3] rfl (by (try simp only [List.map_toArray, List.map_cons, List.map_nil]); first | done | rfl | (simp only [List.length_drop, List.length_take]; rfl)) ?_; (with_reducible refine (davitref07_Has.calls k3 _ _ x6_3 x7_3 false _ ?side1 ?side2 A15.out).mono ?_); (case side1 => repeat (first | exact (Kd.R_reads' HO_6.out).2.2 | (with_reducible refine Kd.C_alloc ?_ _) | (with_reducible refine Kd.C_drewN ?_ _) | (with_reducible refine Kd.C_drew ?_))); (case side2 => exact (Kd.R_reads' HO_6.out).2.1); rintro e w' ⟨rfl, ⟨nd, rfl⟩⟩; refine ⟨_, rfl, ?_⟩))
           go_loopg [8, 9, 10] k3 (fun kq v8 v9 v10 w' => ∃ (x8_4 : List Int) (x9_4 : Bool) (x10_4 : Int), v9 = .bool x9_4 ∧ v10 = .int .i64 x10_4 ∧ Aside0 (davitref11_Groups.l3 kq x3_1 x5_3 x6_3 x7_3 x8_4 x9_4 x10_4 = some r) ∧ Aside0 (kq ≤ k3) ∧ Aside0 (Kd.S (Kd.slice 3 (Kd.int .i64)) 29 w' w.heap.size (fun k_ => some k_ ≠ (u5 : Value).ownBlock ∧ some k_ ≠ ((.slice Ao18 x6_3.length co18) : Value).ownBlock ∧ some k_ ≠ (v8 : Value).ownBlock) (.slice Ao13 x3_1.length co13) x3_1) ∧ Aside0 (Kd.S (Kd.slice 3 (Kd.int .i64)) 29 w' w.heap.size (fun k_ => some k_ ≠ ((.slice Ao13 x3_1.length co13) : Value).ownBlock ∧ some k_ ≠ ((.slice Ao18 x6_3.length co18) : Value).ownBlock ∧ some k_ ≠ (v8 : Value).ownBlock) u5 x5_3) ∧ Aside0 (Kd.R (Kd.int .i64) 3 w' w.heap.size (fun k_ => some k_ ≠ (v8 : Value).ownBlock) (.slice Ao18 x6_3.length co18) x6_3) ∧ Aside0 (Kd.R (Kd.int .i64) 3 w' w.heap.size (fun k_ => some k_ ≠ ((.slice Ao18 x6_3.length co18) : Value).ownBlock) v8 x8_4) ∧ Aside0 (w'.heap[gb182]? = some (.cells #[(.slice A0_0 l0_0.length c0_0)] 24 (0, 0))) ∧ Aside0 (Below w.heap.size w w'))
           case atStart => exact ⟨(([] : List Int)), (true), (0), (by first | rfl | (simp; done) | (simp [*]; done)), (by first | rfl | (simp; done) | (simp [*]; done)), H', ⟨Nat.le_refl _⟩, ⟨by (with_reducible repeat (first | apply Kd.S_alloc | apply Kd.S_drewN | apply Kd.S_drew)); exact Kd.S_mono HO_3.out (fun _ hk => ⟨hk.1, ⟨hk.2, (by simp [Value.ownBlock])⟩⟩)⟩, ⟨by (with_reducible repeat (first | apply Kd.S_alloc | apply Kd.S_drewN | apply Kd.S_drew)); exact Kd.S_mono HO_5.out (fun _ hk => ⟨hk.1, ⟨hk.2, (by simp [Value.ownBlock])⟩⟩)⟩, ⟨by (with_reducible repeat (first | apply Kd.R_alloc | apply Kd.R_drewN | apply Kd.R_drew)); exact Kd.R_mono HO_6.out (fun _ hk => (by simp [Value.ownBlock]))⟩, ⟨by first | exact Kd.R_nil _ _ _ _ _ | exact Kd.N_nil _ _ _ _ _ | exact Kd.V_nil _ _ _ _ _ | exact Kd.Q_nil _ _ _ _ _ | exact Kd.S_nil _ _ _ _ _⟩, ⟨by (with_reducible repeat (first | refine blk_drewN ?_ _ | refine blk_drew ?_ | refine blk_alloc ?_ _)); exact BK182.out⟩, ⟨by repeat (first | (with_reducible first | exact HB.out | apply below_alloc | apply pw_below_drewN | apply below_drew1 | refine below_set ?_ GE182.out) | exact HB.out)⟩⟩
           case round =>
            clear H'
            try clear c1
            try clear p2
            try clear c3
            try clear c3b0
            try clear c5
            try clear p6
            try clear c10
            try clear c11
            try clear c11b0
            try clear c11b1
            try clear c14
            try clear c14b0
            try clear c16
            try clear hcz10_0
            try clear hcz6_0
            try clear hfz10_0
            try clear hfz6_0
            try clear p2
            try clear p6
            obtain ⟨x8_4, x9_4, x10_4, rfl, rfl, HA, HK4, HO_3, HO_5, HO_6, HO_8, BK182, HB⟩ := hrel
            cases gk with
            | zero => exact absurd HA.out (by simp [davitref11_Groups.l3])
            | succ k4 =>
             have H := HA.out
             clear HA
             simp only [davitref11_Groups.l3] at H
             by_cases c19 : x10_4 < (x3_1.length : Int)
             ·rw [if_pos c19] at H
              have c19b0 : decide (x10_4 < (x3_1.length : Int)) = true := decide_eq_true c19
              clear c19
              by_cases c20 : 0 ≤ x10_4
              ·rw [if_pos c20] at H
               have c20b0 : decide (0 ≤ x10_4) = true := decide_eq_true c20
               clear c20
               replace H := Option.bind_eq_some_iff.mp H
               obtain ⟨t197, A210, H⟩ := H
               replace H : (if x10_4 = x7_3 then (davitref11_Groups.j4 k4 x3_1 x5_3 x6_3 x7_3 x8_4 x9_4 x10_4 true) else (if 0 ≤ x7_3 then (if x7_3 < (x3_1.length : Int) then ((davitref07_Has.f k4 (rd_L5 x3_1 x7_3) x10_4).bind fun t199 => (if t199 = true then (davitref11_Groups.j4 k4 x3_1 x5_3 x6_3 x7_3 x8_4 x9_4 x10_4 t197) else (davitref11_Groups.j4 k4 x3_1 x5_3 x6_3 x7_3 x8_4 x9_4 x10_4 false))) else (none)) else (none))) = some r := H
               have A21 := Aside0.mk A210
               clear A210
               have HC22 := Aside0.mk H
               clear H
               have p196 : 0 ≤ (x10_4 : Int) := of_decide_eq_true (by first | (with_reducible assumption) | assumption)
               have q196 : x10_4 < (x3_1.length : Int) := of_decide_eq_true (by first | (with_reducible assumption) | assumption)
               obtain ⟨ad196, A196_0, c196_0, e196, hx196_0, hl196_0, hi196_0⟩ := at_L5 (Kd.S_reads' HO_3.out).2.2 x10_4 p196 q196
               cases e196
               obtain ⟨ce196, hce196, hMe196, hcc196⟩ := Kd.S_get HO_3.out [] x10_4 p196 (by first | exact q196 | exact of_decide_eq_true (by first | (with_reducible assumption) | assumption) | (have e_ := (Kd.S_reads' HO_3.out).1; omega))
               obtain ⟨ve196_0, rfl, ge196_0⟩ := hMe196
               have hv196_0 := hcc196 0 _ rfl
               rw [Nat.add_zero, show ((Kd.slice 3 (Kd.int .i64))).sz = 1 from rfl, Nat.mul_one] at hv196_0
               replace hv196_0 := Option.some.inj (hv196_0.symm.trans hx196_0)
               rw [hv196_0] at ge196_0
               have HL196_0 := Aside0.mk (show Kd.R (Kd.int .i64) 3 _ _ _ _ (rd_L5 x3_1 x10_4) from ge196_0)
               clear hv196_0 ge196_0
               clear hcc196 hce196
               have HR196_0 := Aside0.mk hi196_0
               have HC196_0 := Aside0.mk hl196_0
               clear hi196_0 hl196_0
               replace p196 := eq_true p196
               replace q196 := eq_true q196
               go_upto_region 19 with (first | ((with_reducible refine gate_callee (f := 10) rfl ?_); refine goesL_ (some 50) rfl rfl Try.func10 (by kernel_rfl) rfl #[.slice A196_0 (rd_L5 x3_1 x10_4).length c196_0, .int .i64 x7_3] rfl (by (try simp only [List.map_toArray, List.map_cons, List.map_nil]); first | done | rfl | (simp only [List.length_drop, List.length_take]; rfl)) ?_; (with_reducible refine (davitref07_Has.calls k4 _ _ (rd_L5 x3_1 x10_4) x7_3 t197 _ ?side1 ?side2 A21.out).mono ?_); (case side1 => repeat (first | exact (by repeat (first | (with_reducible exact HR196_0.out) | (with_reducible refine Kd.C_alloc ?_ _) | (with_reducible refine Kd.C_drewN ?_ _) | (with_reducible refine Kd.C_drew ?_) | exact HR196_0.out)) | (with_reducible refine Kd.C_alloc ?_ _) | (with_reducible refine Kd.C_drewN ?_ _) | (with_reducible refine Kd.C_drew ?_))); (case side2 => exact HC196_0.out); rintro e w' ⟨rfl, ⟨nd, rfl⟩⟩; refine ⟨_, rfl, ?_⟩))
               (try simp only [Act.put, List.setIfInBounds_toArray, List.set_cons_zero, List.set_cons_succ])
               go_cut [64] (fun v64 wc => ∃ (kq : Nat) (x64_21 : Bool), v64 = .bool x64_21 ∧ Aside0 (davitref11_Groups.j4 kq x3_1 x5_3 x6_3 x7_3 x8_4 x9_4 x10_4 x64_21 = some r) ∧ Aside0 (kq ≤ k4) ∧ Aside0 (Kd.S (Kd.slice 3 (Kd.int .i64)) 29 wc w.heap.size (fun k_ => some k_ ≠ (u5 : Value).ownBlock ∧ some k_ ≠ ((.slice Ao18 x6_3.length co18) : Value).ownBlock ∧ some k_ ≠ (u8 : Value).ownBlock) (.slice (some ad196) x3_1.length co13) x3_1) ∧ Aside0 (Kd.S (Kd.slice 3 (Kd.int .i64)) 29 wc w.heap.size (fun k_ => some k_ ≠ ((.slice (some ad196) x3_1.length co13) : Value).ownBlock ∧ some k_ ≠ ((.slice Ao18 x6_3.length co18) : Value).ownBlock ∧ some k_ ≠ (u8 : Value).ownBlock) u5 x5_3) ∧ Aside0 (Kd.R (Kd.int .i64) 3 wc w.heap.size (fun k_ => some k_ ≠ (u8 : Value).ownBlock) (.slice Ao18 x6_3.length co18) x6_3) ∧ Aside0 (Kd.R (Kd.int .i64) 3 wc w.heap.size (fun k_ => some k_ ≠ ((.slice Ao18 x6_3.length co18) : Value).ownBlock) u8 x8_4) ∧ Aside0 (wc.heap[gb182]? = some (.cells #[(.slice A0_0 l0_0.length c0_0)] 24 (0, 0))) ∧ Aside0 (Kd.C (Kd.int .i64) wc A196_0 (rd_L5 x3_1 x10_4).length (rd_L5 x3_1 x10_4)) ∧ Aside0 (Below w.heap.size w wc))
               case first =>
                have H := HC22.out
                clear HC22
                by_cases c23 : x10_4 = x7_3
                ·rw [if_pos c23] at H
                 have c23b0 : (x10_4 == x7_3) = true := beq_iff_eq.mpr c23
                 have c23b1 : (x10_4 != x7_3) = false := bne_eq_false_iff_eq.mpr c23
                 clear c23
                 (first | rw [c23b0] | (simp only [i64_w, i32_w]; rw [c23b0]) | skip)
                 have H' := Aside0.mk H
                 clear H
                 go_wp2
                 go_meet
                 case rel => exact ⟨_, (true), (by first | rfl | (simp; done) | (simp [*]; done)), H', ⟨by have := HK1.out; have := HK2.out; have := HK3.out; have := HK4.out; first | omega | exact Nat.le_refl _⟩, ⟨by (with_reducible repeat (first | apply Kd.S_alloc | apply Kd.S_drewN | apply Kd.S_drew)); exact HO_3.out⟩, ⟨by (with_reducible repeat (first | apply Kd.S_alloc | apply Kd.S_drewN | apply Kd.S_drew)); exact HO_5.out⟩, ⟨by (with_reducible repeat (first | apply Kd.R_alloc | apply Kd.R_drewN | apply Kd.R_drew)); exact HO_6.out⟩, ⟨by (with_reducible repeat (first | apply Kd.R_alloc | apply Kd.R_drewN | apply Kd.R_drew)); exact HO_8.out⟩, ⟨by (with_reducible repeat (first | refine blk_drewN ?_ _ | refine blk_drew ?_ | refine blk_alloc ?_ _)); exact BK182.out⟩, ⟨by repeat (first | (with_reducible exact HR196_0.out) | (with_reducible refine Kd.C_alloc ?_ _) | (with_reducible refine Kd.C_drewN ?_ _) | (with_reducible refine Kd.C_drew ?_) | exact HR196_0.out)⟩, ⟨by repeat (first | (with_reducible first | exact HB.out | apply below_alloc | apply pw_below_drewN | apply below_drew1 | refine below_set ?_ GE182.out) | exact HB.out)⟩⟩
                ·rw [if_neg c23] at H
                 have c23b0 : (x10_4 == x7_3) = false := beq_eq_false_iff_ne.mpr c23
                 have c23b1 : (x10_4 != x7_3) = true := bne_iff_ne.mpr c23
                 (first | rw [c23b0] | (simp only [i64_w, i32_w]; rw [c23b0]) | skip)
                 by_cases c24 : 0 ≤ x7_3
                 ·rw [if_pos c24] at H
                  have c24b0 : decide (0 ≤ x7_3) = true := decide_eq_true c24
                  clear c24
                  by_cases c25 : x7_3 < (x3_1.length : Int)
                  ·rw [if_pos c25] at H
                   have c25b0 : decide (x7_3 < (x3_1.length : Int)) = true := decide_eq_true c25
                   clear c25
                   replace H := Option.bind_eq_some_iff.mp H
                   obtain ⟨t199, A260, H⟩ := H
                   replace H : (if t199 = true then (davitref11_Groups.j4 k4 x3_1 x5_3 x6_3 x7_3 x8_4 x9_4 x10_4 t197) else (davitref11_Groups.j4 k4 x3_1 x5_3 x6_3 x7_3 x8_4 x9_4 x10_4 false)) = some r := H
                   have A26 := Aside0.mk A260
                   clear A260
                   by_cases c27 : t199 = true
                   ·subst c27
                    have H1 : (davitref11_Groups.j4 k4 x3_1 x5_3 x6_3 x7_3 x8_4 x9_4 x10_4 t197) = some r := by rw [if_pos rfl] at H; exact H
                    clear H
                    have H := H1
                    clear H1
                    have H' := Aside0.mk H
                    clear H
                    have p198 : 0 ≤ (x7_3 : Int) := of_decide_eq_true (by first | (with_reducible assumption) | assumption)
                    have q198 : x7_3 < (x3_1.length : Int) := of_decide_eq_true (by first | (with_reducible assumption) | assumption)
                    obtain ⟨ad198, A198_0, c198_0, e198, hx198_0, hl198_0, hi198_0⟩ := at_L5 (Kd.S_reads' HO_3.out).2.2 x7_3 p198 q198
                    obtain rfl : ad196 = ad198 := (by injection e198)
                    obtain ⟨ce198, hce198, hMe198, hcc198⟩ := Kd.S_get HO_3.out [] x7_3 p198 (by first | exact q198 | exact of_decide_eq_true (by first | (with_reducible assumption) | assumption) | (have e_ := (Kd.S_reads' HO_3.out).1; omega))
                    obtain ⟨ve198_0, rfl, ge198_0⟩ := hMe198
                    have hv198_0 := hcc198 0 _ rfl
                    rw [Nat.add_zero, show ((Kd.slice 3 (Kd.int .i64))).sz = 1 from rfl, Nat.mul_one] at hv198_0
                    replace hv198_0 := Option.some.inj (hv198_0.symm.trans hx198_0)
                    rw [hv198_0] at ge198_0
                    have HL198_0 := Aside0.mk (show Kd.R (Kd.int .i64) 3 _ _ _ _ (rd_L5 x3_1 x7_3) from ge198_0)
                    clear hv198_0 ge198_0
                    clear hcc198 hce198
                    have HR198_0 := Aside0.mk hi198_0
                    have HC198_0 := Aside0.mk hl198_0
                    clear hi198_0 hl198_0
                    replace p198 := eq_true p198
                    replace q198 := eq_true q198
                    go_wp2_with (first | (go_at_call 10; (with_reducible refine (davitref07_Has.calls k4 _ _ (rd_L5 x3_1 x7_3) x10_4 true _ ?side1 ?side2 A26.out).mono ?_); (case side1 => repeat (first | exact (by repeat (first | (with_reducible exact HR198_0.out) | (with_reducible refine Kd.C_alloc ?_ _) | (with_reducible refine Kd.C_drewN ?_ _) | (with_reducible refine Kd.C_drew ?_) | exact HR198_0.out)) | (with_reducible refine Kd.C_alloc ?_ _) | (with_reducible refine Kd.C_drewN ?_ _) | (with_reducible refine Kd.C_drew ?_))); (case side2 => exact HC198_0.out); rintro e w' ⟨rfl, ⟨nd, rfl⟩⟩))
                    go_meet
                    case rel => exact ⟨_, (t197), (by first | rfl | (simp; done) | (simp [*]; done)), H', ⟨by have := HK1.out; have := HK2.out; have := HK3.out; have := HK4.out; first | omega | exact Nat.le_refl _⟩, ⟨by (with_reducible repeat (first | apply Kd.S_alloc | apply Kd.S_drewN | apply Kd.S_drew)); exact HO_3.out⟩, ⟨by (with_reducible repeat (first | apply Kd.S_alloc | apply Kd.S_drewN | apply Kd.S_drew)); exact HO_5.out⟩, ⟨by (with_reducible repeat (first | apply Kd.R_alloc | apply Kd.R_drewN | apply Kd.R_drew)); exact HO_6.out⟩, ⟨by (with_reducible repeat (first | apply Kd.R_alloc | apply Kd.R_drewN | apply Kd.R_drew)); exact HO_8.out⟩, ⟨by (with_reducible repeat (first | refine blk_drewN ?_ _ | refine blk_drew ?_ | refine blk_alloc ?_ _)); exact BK182.out⟩, ⟨by repeat (first | (with_reducible exact HR196_0.out) | (with_reducible refine Kd.C_alloc ?_ _) | (with_reducible refine Kd.C_drewN ?_ _) | (with_reducible refine Kd.C_drew ?_) | exact HR196_0.out)⟩, ⟨by repeat (first | (with_reducible first | exact HB.out | apply below_alloc | apply pw_below_drewN | apply below_drew1 | refine below_set ?_ GE182.out) | exact HB.out)⟩⟩
                   ·replace c27 := Bool.eq_false_iff.mpr c27
                    subst c27
                    have H1 : (davitref11_Groups.j4 k4 x3_1 x5_3 x6_3 x7_3 x8_4 x9_4 x10_4 false) = some r := by rw [if_neg (show ¬ (false = true) by decide)] at H; exact H
                    clear H
                    have H := H1
                    clear H1
                    have H' := Aside0.mk H
                    clear H
                    have p198 : 0 ≤ (x7_3 : Int) := of_decide_eq_true (by first | (with_reducible assumption) | assumption)
                    have q198 : x7_3 < (x3_1.length : Int) := of_decide_eq_true (by first | (with_reducible assumption) | assumption)
                    obtain ⟨ad198, A198_0, c198_0, e198, hx198_0, hl198_0, hi198_0⟩ := at_L5 (Kd.S_reads' HO_3.out).2.2 x7_3 p198 q198
                    obtain rfl : ad196 = ad198 := (by injection e198)
                    obtain ⟨ce198, hce198, hMe198, hcc198⟩ := Kd.S_get HO_3.out [] x7_3 p198 (by first | exact q198 | exact of_decide_eq_true (by first | (with_reducible assumption) | assumption) | (have e_ := (Kd.S_reads' HO_3.out).1; omega))
                    obtain ⟨ve198_0, rfl, ge198_0⟩ := hMe198
                    have hv198_0 := hcc198 0 _ rfl
                    rw [Nat.add_zero, show ((Kd.slice 3 (Kd.int .i64))).sz = 1 from rfl, Nat.mul_one] at hv198_0
                    replace hv198_0 := Option.some.inj (hv198_0.symm.trans hx198_0)
                    rw [hv198_0] at ge198_0
                    have HL198_0 := Aside0.mk (show Kd.R (Kd.int .i64) 3 _ _ _ _ (rd_L5 x3_1 x7_3) from ge198_0)
                    clear hv198_0 ge198_0
                    clear hcc198 hce198
                    have HR198_0 := Aside0.mk hi198_0
                    have HC198_0 := Aside0.mk hl198_0
                    clear hi198_0 hl198_0
                    replace p198 := eq_true p198
                    replace q198 := eq_true q198
                    go_wp2_with (first | (go_at_call 10; (with_reducible refine (davitref07_Has.calls k4 _ _ (rd_L5 x3_1 x7_3) x10_4 false _ ?side1 ?side2 A26.out).mono ?_); (case side1 => repeat (first | exact (by repeat (first | (with_reducible exact HR198_0.out) | (with_reducible refine Kd.C_alloc ?_ _) | (with_reducible refine Kd.C_drewN ?_ _) | (with_reducible refine Kd.C_drew ?_) | exact HR198_0.out)) | (with_reducible refine Kd.C_alloc ?_ _) | (with_reducible refine Kd.C_drewN ?_ _) | (with_reducible refine Kd.C_drew ?_))); (case side2 => exact HC198_0.out); rintro e w' ⟨rfl, ⟨nd, rfl⟩⟩))
                    go_meet
                    case rel => exact ⟨_, (false), (by first | rfl | (simp; done) | (simp [*]; done)), H', ⟨by have := HK1.out; have := HK2.out; have := HK3.out; have := HK4.out; first | omega | exact Nat.le_refl _⟩, ⟨by (with_reducible repeat (first | apply Kd.S_alloc | apply Kd.S_drewN | apply Kd.S_drew)); exact HO_3.out⟩, ⟨by (with_reducible repeat (first | apply Kd.S_alloc | apply Kd.S_drewN | apply Kd.S_drew)); exact HO_5.out⟩, ⟨by (with_reducible repeat (first | apply Kd.R_alloc | apply Kd.R_drewN | apply Kd.R_drew)); exact HO_6.out⟩, ⟨by (with_reducible repeat (first | apply Kd.R_alloc | apply Kd.R_drewN | apply Kd.R_drew)); exact HO_8.out⟩, ⟨by (with_reducible repeat (first | refine blk_drewN ?_ _ | refine blk_drew ?_ | refine blk_alloc ?_ _)); exact BK182.out⟩, ⟨by repeat (first | (with_reducible exact HR196_0.out) | (with_reducible refine Kd.C_alloc ?_ _) | (with_reducible refine Kd.C_drewN ?_ _) | (with_reducible refine Kd.C_drew ?_) | exact HR196_0.out)⟩, ⟨by repeat (first | (with_reducible first | exact HB.out | apply below_alloc | apply pw_below_drewN | apply below_drew1 | refine below_set ?_ GE182.out) | exact HB.out)⟩⟩
                  ·rw [if_neg c25] at H
                   exact absurd H (by simp)
                 ·rw [if_neg c24] at H
                  exact absurd H (by simp)
               case rest =>
                clear HC22
                try clear c1
                try clear p1
                try clear q1
                try clear hx1
                try clear c2
                try clear p2
                try clear c3
                try clear c3b0
                try clear c5
                try clear p6
                try clear c10
                try clear c11
                try clear c11b0
                try clear c11b1
                try clear c14
                try clear c14b0
                try clear c16
                try clear c19
                try clear c19b0
                try clear p19
                try clear q19
                try clear hx19
                try clear c20
                try clear c20b0
                try clear c23
                try clear c23b0
                try clear c23b1
                try clear c24
                try clear c24b0
                try clear c25
                try clear c25b0
                try clear c27
                try clear hcz10_0
                try clear hcz6_0
                try clear hfz10_0
                try clear hfz6_0
                try clear hx196_0
                try clear hx198_0
                try clear p196
                try clear p198
                try clear p2
                try clear p6
                try clear q196
                try clear q198
                obtain ⟨kq, x64_21, rfl, HA, HJ21, HO_3, HO_5, HO_6, HO_8, BK182, HR196_0, HB⟩ := hcut
                cases kq with
                | zero => exact absurd HA.out (by simp [davitref11_Groups.j4])
                | succ kj21 =>
                 have H := HA.out
                 clear HA
                 simp only [davitref11_Groups.j4] at H
                 by_cases c28 : x64_21 = true
                 ·subst c28
                  have H1 : (if x8_4.length < 17592186044416 then (davitref11_Groups.l3 kj21 x3_1 x5_3 x6_3 x7_3 (x8_4 ++ [x10_4]) x9_4 (wrap64 (x10_4 + 1))) else (none)) = some r := by rw [if_pos rfl] at H; exact H
                  clear H
                  have H := H1
                  clear H1
                  by_cases c29 : x8_4.length < 17592186044416
                  ·rw [if_pos c29] at H
                   have LMc29 := Aside0.mk c29
                   clear c29
                   obtain ⟨y200, hy200⟩ : ∃ y_ : List Int, y_ = (x8_4 ++ [x10_4]) := ⟨_, rfl⟩
                   replace H : (davitref11_Groups.l3 kj21 x3_1 x5_3 x6_3 x7_3 y200 x9_4 (wrap64 (x10_4 + 1))) = some r := by first | (rw [hy200]; with_reducible exact H) | (have H2_ := (Option.bind_some _ _).symm.trans H; rw [hy200]; with_reducible exact H2_) | (have H2_ := (Option.bind_some _ _).symm.trans H; with_reducible exact H2_) | with_reducible exact H | (rw [hy200]; exact H) | exact H
                   have Ny200 := Aside0.mk hy200
                   clear hy200
                   have H' := Aside0.mk H
                   clear H
                   go_wp2_with (first | ((with_reducible refine gate_builtin (b := .append) (xs := #[.tmp 65, .tmp 67]) rfl ?_); at_builtin; refine Kd.R_append (Kd.int .i64) (w0 := w) w.heap.size rfl (.tmp 65) (.tmp 67) 29 3 (.int .i64 0) 8 rfl Try.underlying29 info3 rfl (by decide) (by omega) u8 x8_4 x10_4 [.int .i64 x10_4] (fun k_ => some k_ ≠ (.slice Ao18 x6_3.length co18 : Value).ownBlock) (fun _ => False) rfl rfl ?aP (fun _ hk => hk.elim) ?aF ?aO ?aB ?aS ?aL ?_; (case aP => exact rfl); (case aB => exact (by repeat (first | (with_reducible first | exact HB.out | apply below_alloc | apply pw_below_drewN | apply below_drew1 | refine below_set ?_ GE182.out) | exact HB.out))); (case aF => exact (fun k_ hk => Kd.fresh' (Kd.R_lt (by (with_reducible repeat (first | apply Kd.R_alloc | apply Kd.R_drewN | apply Kd.R_drew)); exact HO_6.out)) k_ hk)); (case aO => exact (by (with_reducible repeat (first | apply Kd.R_alloc | apply Kd.R_drewN | apply Kd.R_drew)); exact HO_8.out)); (case aS => exact (below_size (by repeat (first | (with_reducible first | exact HB.out | apply below_alloc | apply pw_below_drewN | apply below_drew1 | refine below_set ?_ GE182.out) | exact HB.out)))); (case aL => have := LMc29.out; omega); intro v201 w30 ho hb hg hat; rw [← Ny200.out] at ho; have n0_ := Aside0.mk (Kd.S_after (ok := (fun k_ => some k_ ≠ (u5 : Value).ownBlock ∧ some k_ ≠ (.slice Ao18 x6_3.length co18 : Value).ownBlock)) (by (with_reducible repeat (first | apply Kd.S_alloc | apply Kd.S_drewN | apply Kd.S_drew)); exact Kd.S_mono HO_3.out (fun _ hk => ⟨⟨hk.1, hk.2.1⟩, hk.2.2⟩)) hg hat); have n1_ := Aside0.mk (Kd.S_after (ok := (fun k_ => some k_ ≠ (.slice (some ad196) x3_1.length co13 : Value).ownBlock ∧ some k_ ≠ (.slice Ao18 x6_3.length co18 : Value).ownBlock)) (by (with_reducible repeat (first | apply Kd.S_alloc | apply Kd.S_drewN | apply Kd.S_drew)); exact Kd.S_mono HO_5.out (fun _ hk => ⟨⟨hk.1, hk.2.1⟩, hk.2.2⟩)) hg hat); have n2_ := Aside0.mk (Kd.R_after (ok := (fun _ => True)) (by (with_reducible repeat (first | apply Kd.R_alloc | apply Kd.R_drewN | apply Kd.R_drew)); exact Kd.R_mono HO_6.out (fun _ hk => ⟨trivial, hk⟩)) hg hat); have n3_ := Aside0.mk (blk_grown (g := gb182) (o := .cells #[.slice A0_0 l0_0.length c0_0] 24 (0, 0)) (by (with_reducible repeat (first | refine blk_drewN ?_ _ | refine blk_drew ?_ | refine blk_alloc ?_ _)); exact BK182.out) hg (Kd.R_ne HO_8.out BK182.out (by decide))); have n4_ := Aside0.mk (hb); have n5_ := Aside0.mk (ho); clear HO_3; clear HO_5; clear HO_6; clear BK182; clear HB; clear HO_8; have HO_3 := n0_; have HO_5 := n1_; have HO_6 := n2_; have BK182 := n3_; have HB := n4_; have HO202 := n5_; clear n0_ n1_ n2_ n3_ n4_ n5_; clear ho hb hg hat))
                   go_roundg kj21
                   case measure => have := HK1.out; have := HK2.out; have := HK3.out; have := HK4.out; have := HJ21.out; omega
                   case rel => exact ⟨(y200), (x9_4), (wrap64 (x10_4 + 1)), (by first | rfl | (simp; done) | (simp [*]; done)), (by first | rfl | (simp; done) | (simp [*]; done)), H', ⟨by have := HK1.out; have := HK2.out; have := HK3.out; have := HK4.out; have := HJ21.out; omega⟩, ⟨by (with_reducible repeat (first | apply Kd.S_alloc | apply Kd.S_drewN | apply Kd.S_drew)); exact Kd.S_mono HO_3.out (fun _ hk => ⟨hk.1.1, ⟨hk.1.2, hk.2⟩⟩)⟩, ⟨by (with_reducible repeat (first | apply Kd.S_alloc | apply Kd.S_drewN | apply Kd.S_drew)); exact Kd.S_mono HO_5.out (fun _ hk => ⟨hk.1.1, ⟨hk.1.2, hk.2⟩⟩)⟩, ⟨by (with_reducible repeat (first | apply Kd.R_alloc | apply Kd.R_drewN | apply Kd.R_drew)); exact Kd.R_mono HO_6.out (fun _ hk => hk.2)⟩, ⟨by (with_reducible repeat (first | apply Kd.R_alloc | apply Kd.R_drewN | apply Kd.R_drew)); exact HO202.out⟩, ⟨by (with_reducible repeat (first | refine blk_drewN ?_ _ | refine blk_drew ?_ | refine blk_alloc ?_ _)); exact BK182.out⟩, ⟨by repeat (first | (with_reducible first | exact HB.out | apply below_alloc | apply pw_below_drewN | apply below_drew1 | refine below_set ?_ GE182.out) | exact HB.out)⟩⟩
                  ·rw [if_neg c29] at H
                   exact absurd H (by simp)
                 ·replace c28 := Bool.eq_false_iff.mpr c28
                  subst c28
                  have H1 : (if 0 ≤ x7_3 then (if x7_3 < (x3_1.length : Int) then ((davitref07_Has.f kj21 (rd_L5 x3_1 x7_3) x10_4).bind fun t204 => (if t204 = true then ((davitref07_Has.f kj21 x6_3 x10_4).bind fun t205 => (if t205 = true then (davitref11_Groups.l3 kj21 x3_1 x5_3 x6_3 x7_3 x8_4 x9_4 (wrap64 (x10_4 + 1))) else (davitref11_Groups.l3 kj21 x3_1 x5_3 x6_3 x7_3 x8_4 false (wrap64 (x10_4 + 1))))) else (davitref11_Groups.l3 kj21 x3_1 x5_3 x6_3 x7_3 x8_4 x9_4 (wrap64 (x10_4 + 1))))) else (none)) else (none)) = some r := by rw [if_neg (show ¬ (false = true) by decide)] at H; exact H
                  clear H
                  have H := H1
                  clear H1
                  by_cases c31 : 0 ≤ x7_3
                  ·rw [if_pos c31] at H
                   have c31b0 : decide (0 ≤ x7_3) = true := decide_eq_true c31
                   clear c31
                   by_cases c32 : x7_3 < (x3_1.length : Int)
                   ·rw [if_pos c32] at H
                    have c32b0 : decide (x7_3 < (x3_1.length : Int)) = true := decide_eq_true c32
                    clear c32
                    replace H := Option.bind_eq_some_iff.mp H
                    obtain ⟨t204, A330, H⟩ := H
                    replace H : (if t204 = true then ((davitref07_Has.f kj21 x6_3 x10_4).bind fun t205 => (if t205 = true then (davitref11_Groups.l3 kj21 x3_1 x5_3 x6_3 x7_3 x8_4 x9_4 (wrap64 (x10_4 + 1))) else (davitref11_Groups.l3 kj21 x3_1 x5_3 x6_3 x7_3 x8_4 false (wrap64 (x10_4 + 1))))) else (davitref11_Groups.l3 kj21 x3_1 x5_3 x6_3 x7_3 x8_4 x9_4 (wrap64 (x10_4 + 1)))) = some r := H
                    have A33 := Aside0.mk A330
                    clear A330
                    by_cases c34 : t204 = true
                    ·subst c34
                     have H1 : ((davitref07_Has.f kj21 x6_3 x10_4).bind fun t205 => (if t205 = true then (davitref11_Groups.l3 kj21 x3_1 x5_3 x6_3 x7_3 x8_4 x9_4 (wrap64 (x10_4 + 1))) else (davitref11_Groups.l3 kj21 x3_1 x5_3 x6_3 x7_3 x8_4 false (wrap64 (x10_4 + 1))))) = some r := by rw [if_pos rfl] at H; exact H
                     clear H
                     have H := H1
                     clear H1
                     replace H := Option.bind_eq_some_iff.mp H
                     obtain ⟨t205, A350, H⟩ := H
                     replace H : (if t205 = true then (davitref11_Groups.l3 kj21 x3_1 x5_3 x6_3 x7_3 x8_4 x9_4 (wrap64 (x10_4 + 1))) else (davitref11_Groups.l3 kj21 x3_1 x5_3 x6_3 x7_3 x8_4 false (wrap64 (x10_4 + 1)))) = some r := H
                     have A35 := Aside0.mk A350
                     clear A350
                     by_cases c36 : t205 = true
                     ·subst c36
                      have H1 : (davitref11_Groups.l3 kj21 x3_1 x5_3 x6_3 x7_3 x8_4 x9_4 (wrap64 (x10_4 + 1))) = some r := by rw [if_pos rfl] at H; exact H
                      clear H
                      have H := H1
                      clear H1
                      have H' := Aside0.mk H
                      clear H
                      have p203 : 0 ≤ (x7_3 : Int) := of_decide_eq_true (by first | (with_reducible assumption) | assumption)
                      have q203 : x7_3 < (x3_1.length : Int) := of_decide_eq_true (by first | (with_reducible assumption) | assumption)
                      obtain ⟨ad203, A203_0, c203_0, e203, hx203_0, hl203_0, hi203_0⟩ := at_L5 (Kd.S_reads' HO_3.out).2.2 x7_3 p203 q203
                      obtain rfl : ad196 = ad203 := (by injection e203)
                      obtain ⟨ce203, hce203, hMe203, hcc203⟩ := Kd.S_get HO_3.out [] x7_3 p203 (by first | exact q203 | exact of_decide_eq_true (by first | (with_reducible assumption) | assumption) | (have e_ := (Kd.S_reads' HO_3.out).1; omega))
                      obtain ⟨ve203_0, rfl, ge203_0⟩ := hMe203
                      have hv203_0 := hcc203 0 _ rfl
                      rw [Nat.add_zero, show ((Kd.slice 3 (Kd.int .i64))).sz = 1 from rfl, Nat.mul_one] at hv203_0
                      replace hv203_0 := Option.some.inj (hv203_0.symm.trans hx203_0)
                      rw [hv203_0] at ge203_0
                      have HL203_0 := Aside0.mk (show Kd.R (Kd.int .i64) 3 _ _ _ _ (rd_L5 x3_1 x7_3) from ge203_0)
                      clear hv203_0 ge203_0
                      clear hcc203 hce203
                      have HR203_0 := Aside0.mk hi203_0
                      have HC203_0 := Aside0.mk hl203_0
                      clear hi203_0 hl203_0
                      replace p203 := eq_true p203
                      replace q203 := eq_true q203
                      go_wp2_with (first | ((with_reducible refine gate_callee (f := 10) rfl ?_); refine goesL_ (some 74) rfl rfl Try.func10 (by kernel_rfl) rfl #[.slice A203_0 (rd_L5 x3_1 x7_3).length c203_0, .int .i64 x10_4] rfl (by (try simp only [List.map_toArray, List.map_cons, List.map_nil]); first | done | rfl | (simp only [List.length_drop, List.length_take]; rfl)) ?_; (with_reducible refine (davitref07_Has.calls kj21 _ _ (rd_L5 x3_1 x7_3) x10_4 true _ ?side1 ?side2 A33.out).mono ?_); (case side1 => repeat (first | exact (by repeat (first | (with_reducible exact HR203_0.out) | (with_reducible refine Kd.C_alloc ?_ _) | (with_reducible refine Kd.C_drewN ?_ _) | (with_reducible refine Kd.C_drew ?_) | exact HR203_0.out)) | (with_reducible refine Kd.C_alloc ?_ _) | (with_reducible refine Kd.C_drewN ?_ _) | (with_reducible refine Kd.C_drew ?_))); (case side2 => exact HC203_0.out); rintro e w' ⟨rfl, ⟨nd, rfl⟩⟩; refine ⟨_, rfl, ?_⟩) | (go_at_call 10; (with_reducible refine (davitref07_Has.calls kj21 _ _ x6_3 x10_4 true _ ?side1 ?side2 A35.out).mono ?_); (case side1 => repeat (first | exact (Kd.R_reads' HO_6.out).2.2 | (with_reducible refine Kd.C_alloc ?_ _) | (with_reducible refine Kd.C_drewN ?_ _) | (with_reducible refine Kd.C_drew ?_))); (case side2 => exact (Kd.R_reads' HO_6.out).2.1); rintro e w' ⟨rfl, ⟨nd, rfl⟩⟩))
                      go_roundg kj21
                      case measure => have := HK1.out; have := HK2.out; have := HK3.out; have := HK4.out; have := HJ21.out; omega
                      case rel => exact ⟨(x8_4), (x9_4), (wrap64 (x10_4 + 1)), (by first | rfl | (simp; done) | (simp [*]; done)), (by first | rfl | (simp; done) | (simp [*]; done)), H', ⟨by have := HK1.out; have := HK2.out; have := HK3.out; have := HK4.out; have := HJ21.out; omega⟩, ⟨by (with_reducible repeat (first | apply Kd.S_alloc | apply Kd.S_drewN | apply Kd.S_drew)); exact HO_3.out⟩, ⟨by (with_reducible repeat (first | apply Kd.S_alloc | apply Kd.S_drewN | apply Kd.S_drew)); exact HO_5.out⟩, ⟨by (with_reducible repeat (first | apply Kd.R_alloc | apply Kd.R_drewN | apply Kd.R_drew)); exact HO_6.out⟩, ⟨by (with_reducible repeat (first | apply Kd.R_alloc | apply Kd.R_drewN | apply Kd.R_drew)); exact HO_8.out⟩, ⟨by (with_reducible repeat (first | refine blk_drewN ?_ _ | refine blk_drew ?_ | refine blk_alloc ?_ _)); exact BK182.out⟩, ⟨by repeat (first | (with_reducible first | exact HB.out | apply below_alloc | apply pw_below_drewN | apply below_drew1 | refine below_set ?_ GE182.out) | exact HB.out)⟩⟩
                     ·replace c36 := Bool.eq_false_iff.mpr c36
                      subst c36
                      have H1 : (davitref11_Groups.l3 kj21 x3_1 x5_3 x6_3 x7_3 x8_4 false (wrap64 (x10_4 + 1))) = some r := by rw [if_neg (show ¬ (false = true) by decide)] at H; exact H
                      clear H
                      have H := H1
                      clear H1
                      have H' := Aside0.mk H
                      clear H
                      have p203 : 0 ≤ (x7_3 : Int) := of_decide_eq_true (by first | (with_reducible assumption) | assumption)
                      have q203 : x7_3 < (x3_1.length : Int) := of_decide_eq_true (by first | (with_reducible assumption) | assumption)
                      obtain ⟨ad203, A203_0, c203_0, e203, hx203_0, hl203_0, hi203_0⟩ := at_L5 (Kd.S_reads' HO_3.out).2.2 x7_3 p203 q203
                      obtain rfl : ad196 = ad203 := (by injection e203)
                      obtain ⟨ce203, hce203, hMe203, hcc203⟩ := Kd.S_get HO_3.out [] x7_3 p203 (by first | exact q203 | exact of_decide_eq_true (by first | (with_reducible assumption) | assumption) | (have e_ := (Kd.S_reads' HO_3.out).1; omega))
                      obtain ⟨ve203_0, rfl, ge203_0⟩ := hMe203
                      have hv203_0 := hcc203 0 _ rfl
                      rw [Nat.add_zero, show ((Kd.slice 3 (Kd.int .i64))).sz = 1 from rfl, Nat.mul_one] at hv203_0
                      replace hv203_0 := Option.some.inj (hv203_0.symm.trans hx203_0)
                      rw [hv203_0] at ge203_0
                      have HL203_0 := Aside0.mk (show Kd.R (Kd.int .i64) 3 _ _ _ _ (rd_L5 x3_1 x7_3) from ge203_0)
                      clear hv203_0 ge203_0
                      clear hcc203 hce203
                      have HR203_0 := Aside0.mk hi203_0
                      have HC203_0 := Aside0.mk hl203_0
                      clear hi203_0 hl203_0
                      replace p203 := eq_true p203
                      replace q203 := eq_true q203
                      go_wp2_with (first | ((with_reducible refine gate_callee (f := 10) rfl ?_); refine goesL_ (some 74) rfl rfl Try.func10 (by kernel_rfl) rfl #[.slice A203_0 (rd_L5 x3_1 x7_3).length c203_0, .int .i64 x10_4] rfl (by (try simp only [List.map_toArray, List.map_cons, List.map_nil]); first | done | rfl | (simp only [List.length_drop, List.length_take]; rfl)) ?_; (with_reducible refine (davitref07_Has.calls kj21 _ _ (rd_L5 x3_1 x7_3) x10_4 true _ ?side1 ?side2 A33.out).mono ?_); (case side1 => repeat (first | exact (by repeat (first | (with_reducible exact HR203_0.out) | (with_reducible refine Kd.C_alloc ?_ _) | (with_reducible refine Kd.C_drewN ?_ _) | (with_reducible refine Kd.C_drew ?_) | exact HR203_0.out)) | (with_reducible refine Kd.C_alloc ?_ _) | (with_reducible refine Kd.C_drewN ?_ _) | (with_reducible refine Kd.C_drew ?_))); (case side2 => exact HC203_0.out); rintro e w' ⟨rfl, ⟨nd, rfl⟩⟩; refine ⟨_, rfl, ?_⟩) | (go_at_call 10; (with_reducible refine (davitref07_Has.calls kj21 _ _ x6_3 x10_4 false _ ?side1 ?side2 A35.out).mono ?_); (case side1 => repeat (first | exact (Kd.R_reads' HO_6.out).2.2 | (with_reducible refine Kd.C_alloc ?_ _) | (with_reducible refine Kd.C_drewN ?_ _) | (with_reducible refine Kd.C_drew ?_))); (case side2 => exact (Kd.R_reads' HO_6.out).2.1); rintro e w' ⟨rfl, ⟨nd, rfl⟩⟩))
                      go_roundg kj21
                      case measure => have := HK1.out; have := HK2.out; have := HK3.out; have := HK4.out; have := HJ21.out; omega
                      case rel => exact ⟨(x8_4), (false), (wrap64 (x10_4 + 1)), (by first | rfl | (simp; done) | (simp [*]; done)), (by first | rfl | (simp; done) | (simp [*]; done)), H', ⟨by have := HK1.out; have := HK2.out; have := HK3.out; have := HK4.out; have := HJ21.out; omega⟩, ⟨by (with_reducible repeat (first | apply Kd.S_alloc | apply Kd.S_drewN | apply Kd.S_drew)); exact HO_3.out⟩, ⟨by (with_reducible repeat (first | apply Kd.S_alloc | apply Kd.S_drewN | apply Kd.S_drew)); exact HO_5.out⟩, ⟨by (with_reducible repeat (first | apply Kd.R_alloc | apply Kd.R_drewN | apply Kd.R_drew)); exact HO_6.out⟩, ⟨by (with_reducible repeat (first | apply Kd.R_alloc | apply Kd.R_drewN | apply Kd.R_drew)); exact HO_8.out⟩, ⟨by (with_reducible repeat (first | refine blk_drewN ?_ _ | refine blk_drew ?_ | refine blk_alloc ?_ _)); exact BK182.out⟩, ⟨by repeat (first | (with_reducible first | exact HB.out | apply below_alloc | apply pw_below_drewN | apply below_drew1 | refine below_set ?_ GE182.out) | exact HB.out)⟩⟩
                    ·replace c34 := Bool.eq_false_iff.mpr c34
                     subst c34
                     have H1 : (davitref11_Groups.l3 kj21 x3_1 x5_3 x6_3 x7_3 x8_4 x9_4 (wrap64 (x10_4 + 1))) = some r := by rw [if_neg (show ¬ (false = true) by decide)] at H; exact H
                     clear H
                     have H := H1
                     clear H1
                     have H' := Aside0.mk H
                     clear H
                     have p203 : 0 ≤ (x7_3 : Int) := of_decide_eq_true (by first | (with_reducible assumption) | assumption)
                     have q203 : x7_3 < (x3_1.length : Int) := of_decide_eq_true (by first | (with_reducible assumption) | assumption)
                     obtain ⟨ad203, A203_0, c203_0, e203, hx203_0, hl203_0, hi203_0⟩ := at_L5 (Kd.S_reads' HO_3.out).2.2 x7_3 p203 q203
                     obtain rfl : ad196 = ad203 := (by injection e203)
                     obtain ⟨ce203, hce203, hMe203, hcc203⟩ := Kd.S_get HO_3.out [] x7_3 p203 (by first | exact q203 | exact of_decide_eq_true (by first | (with_reducible assumption) | assumption) | (have e_ := (Kd.S_reads' HO_3.out).1; omega))
                     obtain ⟨ve203_0, rfl, ge203_0⟩ := hMe203
                     have hv203_0 := hcc203 0 _ rfl
                     rw [Nat.add_zero, show ((Kd.slice 3 (Kd.int .i64))).sz = 1 from rfl, Nat.mul_one] at hv203_0
                     replace hv203_0 := Option.some.inj (hv203_0.symm.trans hx203_0)
                     rw [hv203_0] at ge203_0
                     have HL203_0 := Aside0.mk (show Kd.R (Kd.int .i64) 3 _ _ _ _ (rd_L5 x3_1 x7_3) from ge203_0)
                     clear hv203_0 ge203_0
                     clear hcc203 hce203
                     have HR203_0 := Aside0.mk hi203_0
                     have HC203_0 := Aside0.mk hl203_0
                     clear hi203_0 hl203_0
                     replace p203 := eq_true p203
                     replace q203 := eq_true q203
                     go_wp2_with (first | ((with_reducible refine gate_callee (f := 10) rfl ?_); refine goesL_ (some 74) rfl rfl Try.func10 (by kernel_rfl) rfl #[.slice A203_0 (rd_L5 x3_1 x7_3).length c203_0, .int .i64 x10_4] rfl (by (try simp only [List.map_toArray, List.map_cons, List.map_nil]); first | done | rfl | (simp only [List.length_drop, List.length_take]; rfl)) ?_; (with_reducible refine (davitref07_Has.calls kj21 _ _ (rd_L5 x3_1 x7_3) x10_4 false _ ?side1 ?side2 A33.out).mono ?_); (case side1 => repeat (first | exact (by repeat (first | (with_reducible exact HR203_0.out) | (with_reducible refine Kd.C_alloc ?_ _) | (with_reducible refine Kd.C_drewN ?_ _) | (with_reducible refine Kd.C_drew ?_) | exact HR203_0.out)) | (with_reducible refine Kd.C_alloc ?_ _) | (with_reducible refine Kd.C_drewN ?_ _) | (with_reducible refine Kd.C_drew ?_))); (case side2 => exact HC203_0.out); rintro e w' ⟨rfl, ⟨nd, rfl⟩⟩; refine ⟨_, rfl, ?_⟩))
                     go_roundg kj21
                     case measure => have := HK1.out; have := HK2.out; have := HK3.out; have := HK4.out; have := HJ21.out; omega
                     case rel => exact ⟨(x8_4), (x9_4), (wrap64 (x10_4 + 1)), (by first | rfl | (simp; done) | (simp [*]; done)), (by first | rfl | (simp; done) | (simp [*]; done)), H', ⟨by have := HK1.out; have := HK2.out; have := HK3.out; have := HK4.out; have := HJ21.out; omega⟩, ⟨by (with_reducible repeat (first | apply Kd.S_alloc | apply Kd.S_drewN | apply Kd.S_drew)); exact HO_3.out⟩, ⟨by (with_reducible repeat (first | apply Kd.S_alloc | apply Kd.S_drewN | apply Kd.S_drew)); exact HO_5.out⟩, ⟨by (with_reducible repeat (first | apply Kd.R_alloc | apply Kd.R_drewN | apply Kd.R_drew)); exact HO_6.out⟩, ⟨by (with_reducible repeat (first | apply Kd.R_alloc | apply Kd.R_drewN | apply Kd.R_drew)); exact HO_8.out⟩, ⟨by (with_reducible repeat (first | refine blk_drewN ?_ _ | refine blk_drew ?_ | refine blk_alloc ?_ _)); exact BK182.out⟩, ⟨by repeat (first | (with_reducible first | exact HB.out | apply below_alloc | apply pw_below_drewN | apply below_drew1 | refine below_set ?_ GE182.out) | exact HB.out)⟩⟩
                   ·rw [if_neg c32] at H
                    exact absurd H (by simp)
                  ·rw [if_neg c31] at H
                   exact absurd H (by simp)
              ·rw [if_neg c20] at H
               exact absurd H (by simp)
             ·rw [if_neg c19] at H
              have c19b0 : decide (x10_4 < (x3_1.length : Int)) = false := decide_eq_false c19
              clear c19
              by_cases c37 : x9_4 = true
              ·subst c37
               have H1 : (if x5_3.length < 5864062014805 then (if x6_3.length + x8_4.length < 17592186044416 then (davitref11_Groups.l1 k4 x3_1 (x5_3 ++ [x8_4]) (x6_3 ++ x8_4)) else (none)) else (none)) = some r := by rw [if_pos rfl] at H; exact H
               clear H
               have H := H1
               clear H1
               by_cases c38 : x5_3.length < 5864062014805
               ·rw [if_pos c38] at H
                have LMc38 := Aside0.mk c38
                clear c38
                obtain ⟨y190, hy190⟩ : ∃ y_ : List (List Int), y_ = (x5_3 ++ [x8_4]) := ⟨_, rfl⟩
                replace H : (if x6_3.length + x8_4.length < 17592186044416 then (davitref11_Groups.l1 k4 x3_1 y190 (x6_3 ++ x8_4)) else (none)) = some r := by first | (rw [hy190]; with_reducible exact H) | (have H2_ := (Option.bind_some _ _).symm.trans H; rw [hy190]; with_reducible exact H2_) | (have H2_ := (Option.bind_some _ _).symm.trans H; with_reducible exact H2_) | with_reducible exact H | (rw [hy190]; exact H) | exact H
                have Ny190 := Aside0.mk hy190
                clear hy190
                by_cases c39 : x6_3.length + x8_4.length < 17592186044416
                ·rw [if_pos c39] at H
                 have LMc39 := Aside0.mk c39
                 clear c39
                 obtain ⟨y193, hy193⟩ : ∃ y_ : List Int, y_ = (x6_3 ++ x8_4) := ⟨_, rfl⟩
                 replace H : (davitref11_Groups.l1 k4 x3_1 y190 y193) = some r := by first | (rw [hy193]; with_reducible exact H) | (have H2_ := (Option.bind_some _ _).symm.trans H; rw [hy193]; with_reducible exact H2_) | (have H2_ := (Option.bind_some _ _).symm.trans H; with_reducible exact H2_) | with_reducible exact H | (rw [hy193]; exact H) | exact H
                 have Ny193 := Aside0.mk hy193
                 clear hy193
                 have H' := Aside0.mk H
                 clear H
                 obtain ⟨Ao41, co41, eo41⟩ := Kd.R_slice HO_8.out
                 subst eo41
                 go_wp2_with (first | ((with_reducible refine gate_builtin (b := .append) (xs := #[.tmp 82, .tmp 84]) rfl ?_); at_builtin; refine Kd.S_append (Kd.slice 3 (Kd.int .i64)) (w0 := w) w.heap.size rfl (.tmp 82) (.tmp 84) 27 29 (.slice none 0 0) 24 rfl Try.underlying27 info29 rfl (by decide) (by omega) u5 x5_3 x8_4 [.slice Ao41 x8_4.length co41] (fun k_ => some k_ ≠ (.slice Ao13 x3_1.length co13 : Value).ownBlock ∧ some k_ ≠ (.slice Ao18 x6_3.length co18 : Value).ownBlock) (fun k_ => some k_ = (.slice Ao41 x8_4.length co41 : Value).ownBlock) rfl rfl ?aP (fun k_ hk_ => ((Kd.R_mono (ok' := fun k_ => ((fun k_ => some k_ ≠ (.slice Ao13 x3_1.length co13 : Value).ownBlock ∧ some k_ ≠ (.slice Ao18 x6_3.length co18 : Value).ownBlock)) k_ ∧ some k_ ≠ (u5 : Value).ownBlock) (Kd.R_apart' (Kd.R_apart' (HO_8.out) (Kd.S_typed HO_3.out) (by decide)) (Kd.S_typed HO_5.out) (by decide)) (fun k_ hk => ⟨⟨hk.1.2, hk.1.1⟩, hk.2⟩))).1 k_ hk_.symm) ?aF ?aO ?aB ?aS ?aL ?_; (case aP => exact Kd.M_row (Kd.R_mono (Kd.R_tight rfl (Kd.R_mono (ok' := fun k_ => ((fun k_ => some k_ ≠ (.slice Ao13 x3_1.length co13 : Value).ownBlock ∧ some k_ ≠ (.slice Ao18 x6_3.length co18 : Value).ownBlock)) k_ ∧ some k_ ≠ (u5 : Value).ownBlock) (Kd.R_apart' (Kd.R_apart' (HO_8.out) (Kd.S_typed HO_3.out) (by decide)) (Kd.S_typed HO_5.out) (by decide)) (fun k_ hk => ⟨⟨hk.1.2, hk.1.1⟩, hk.2⟩))) (fun _ h_ => h_))); (case aB => exact (by repeat (first | (with_reducible first | exact HB.out | apply below_alloc | apply pw_below_drewN | apply below_drew1 | refine below_set ?_ GE182.out) | exact HB.out))); (case aF => exact (fun k_ hk => ⟨Kd.fresh' (Kd.S_lt (by (with_reducible repeat (first | apply Kd.S_alloc | apply Kd.S_drewN | apply Kd.S_drew)); exact HO_3.out)) k_ hk, Kd.fresh' (Kd.R_lt (by (with_reducible repeat (first | apply Kd.R_alloc | apply Kd.R_drewN | apply Kd.R_drew)); exact HO_6.out)) k_ hk⟩)); (case aO => exact (by (with_reducible repeat (first | apply Kd.S_alloc | apply Kd.S_drewN | apply Kd.S_drew)); exact Kd.S_mono HO_5.out (fun k_ hk => ⟨⟨hk.1, hk.2.1⟩, fun e_ => hk.2.2 e_⟩))); (case aS => exact (below_size (by repeat (first | (with_reducible first | exact HB.out | apply below_alloc | apply pw_below_drewN | apply below_drew1 | refine below_set ?_ GE182.out) | exact HB.out)))); (case aL => have := LMc38.out; omega); intro v191 w40 ho hb hg hat; rw [← Ny190.out] at ho; have n0_ := Aside0.mk (Kd.S_after (ok := (fun k_ => some k_ ≠ (.slice Ao18 x6_3.length co18 : Value).ownBlock ∧ some k_ ≠ (.slice Ao41 x8_4.length co41 : Value).ownBlock)) (by (with_reducible repeat (first | apply Kd.S_alloc | apply Kd.S_drewN | apply Kd.S_drew)); exact Kd.S_mono HO_3.out (fun _ hk => ⟨⟨hk.2.1, hk.2.2⟩, hk.1⟩)) hg hat); have n1_ := Aside0.mk (Kd.R_over' (by (with_reducible repeat (first | apply Kd.R_alloc | apply Kd.R_drewN | apply Kd.R_drew)); exact HO_6.out) (Kd.S_typed (by (with_reducible repeat (first | apply Kd.S_alloc | apply Kd.S_drewN | apply Kd.S_drew)); exact HO_5.out)) (by decide) hg); have n2_ := Aside0.mk (blk_grown (g := gb182) (o := .cells #[.slice A0_0 l0_0.length c0_0] 24 (0, 0)) (by (with_reducible repeat (first | refine blk_drewN ?_ _ | refine blk_drew ?_ | refine blk_alloc ?_ _)); exact BK182.out) hg (Kd.S_ne HO_5.out BK182.out (by decide))); have n3_ := Aside0.mk (hb); have n4_ := Aside0.mk (ho); have HC8_ := Aside0.mk (Kd.R_reads' (Kd.R_over' (by (with_reducible repeat (first | apply Kd.R_alloc | apply Kd.R_drewN | apply Kd.R_drew)); exact HO_8.out) (Kd.S_typed (by (with_reducible repeat (first | apply Kd.S_alloc | apply Kd.S_drewN | apply Kd.S_drew)); exact HO_5.out)) (by decide) hg)).2.2; clear HO_3; clear HO_6; clear BK182; clear HB; clear HO_5; clear HO_8; have HO_3 := n0_; have HO_6 := n1_; have BK182 := n2_; have HB := n3_; have HO192 := n4_; clear n0_ n1_ n2_ n3_ n4_; clear ho hb hg hat) | ((with_reducible refine gate_builtin (b := .append) (xs := #[.tmp 86, .tmp 87]) rfl ?_); at_builtin; refine Kd.R_append_rows (Kd.int .i64) (w0 := w) w.heap.size rfl (.tmp 86) (.tmp 87) 29 3 (.int .i64 0) 8 rfl Try.underlying29 info3 rfl (by decide) (by omega) (.slice Ao18 x6_3.length co18) x6_3 x8_4 _ _ _ (fun _ => True) (fun _ => False) rfl rfl ?aO ?aR (fun _ _ h => h) (fun _ h => h.elim) ?aF ?aB ?aS ?aL ?_; (case aR => repeat (first | exact HC8_.out | (with_reducible refine Kd.C_alloc ?_ _) | (with_reducible refine Kd.C_drewN ?_ _) | (with_reducible refine Kd.C_drew ?_))); (case aB => exact (by repeat (first | (with_reducible first | exact HB.out | apply below_alloc | apply pw_below_drewN | apply below_drew1 | refine below_set ?_ GE182.out) | exact HB.out))); (case aF => exact (fun _ _ => trivial)); (case aO => exact (by (with_reducible repeat (first | apply Kd.R_alloc | apply Kd.R_drewN | apply Kd.R_drew)); exact Kd.R_mono HO_6.out (fun _ hk => trivial))); (case aS => exact (below_size (by repeat (first | (with_reducible first | exact HB.out | apply below_alloc | apply pw_below_drewN | apply below_drew1 | refine below_set ?_ GE182.out) | exact HB.out)))); (case aL => have := LMc39.out; omega); intro v194 w42 ho hb hg hat; rw [← Ny193.out] at ho; have n0_ := Aside0.mk (Kd.S_after (ok := (fun k_ => some k_ ≠ (v191 : Value).ownBlock)) (by (with_reducible repeat (first | apply Kd.S_alloc | apply Kd.S_drewN | apply Kd.S_drew)); exact Kd.S_mono HO_3.out (fun _ hk => ⟨hk.2, hk.1.1⟩)) hg hat); have n1_ := Aside0.mk (blk_grown (g := gb182) (o := .cells #[.slice A0_0 l0_0.length c0_0] 24 (0, 0)) (by (with_reducible repeat (first | refine blk_drewN ?_ _ | refine blk_drew ?_ | refine blk_alloc ?_ _)); exact BK182.out) hg (Kd.R_ne HO_6.out BK182.out (by decide))); have n2_ := Aside0.mk (Kd.S_after (ok := (fun k_ => some k_ ≠ (.slice Ao13 x3_1.length co13 : Value).ownBlock)) (by (with_reducible repeat (first | apply Kd.S_alloc | apply Kd.S_drewN | apply Kd.S_drew)); exact HO192.out) hg hat); have n3_ := Aside0.mk (hb); have n4_ := Aside0.mk (ho); clear HO_3; clear BK182; clear HO192; clear HB; clear HO_6; have HO_3 := n0_; have BK182 := n1_; have HO192 := n2_; have HB := n3_; have HO195 := n4_; clear n0_ n1_ n2_ n3_ n4_; clear ho hb hg hat))
                 go_roundg k4
                 case measure => have := HK1.out; have := HK2.out; have := HK3.out; have := HK4.out; omega
                 case rel => exact ⟨(y190), (y193), H', ⟨by have := HK1.out; have := HK2.out; have := HK3.out; have := HK4.out; omega⟩, ⟨by (with_reducible repeat (first | apply Kd.S_alloc | apply Kd.S_drewN | apply Kd.S_drew)); exact HO_3.out⟩, ⟨by (with_reducible repeat (first | apply Kd.S_alloc | apply Kd.S_drewN | apply Kd.S_drew)); exact HO192.out⟩, ⟨by (with_reducible repeat (first | apply Kd.R_alloc | apply Kd.R_drewN | apply Kd.R_drew)); exact HO195.out⟩, ⟨by (with_reducible repeat (first | refine blk_drewN ?_ _ | refine blk_drew ?_ | refine blk_alloc ?_ _)); exact BK182.out⟩, ⟨by repeat (first | (with_reducible first | exact HB.out | apply below_alloc | apply pw_below_drewN | apply below_drew1 | refine below_set ?_ GE182.out) | exact HB.out)⟩⟩
                ·rw [if_neg c39] at H
                 exact absurd H (by simp)
               ·rw [if_neg c38] at H
                exact absurd H (by simp)
              ·replace c37 := Bool.eq_false_iff.mpr c37
               subst c37
               have H1 : (davitref11_Groups.l2 k4 x3_1 x5_3 x6_3 (wrap64 (x7_3 + 1))) = some r := by rw [if_neg (show ¬ (false = true) by decide)] at H; exact H
               clear H
               have H := H1
               clear H1
               have H' := Aside0.mk H
               clear H
               go_wp2
               go_roundg k4
               case measure => have := HK1.out; have := HK2.out; have := HK3.out; have := HK4.out; omega
               case rel => exact ⟨(x5_3), (x6_3), (wrap64 (x7_3 + 1)), (by first | rfl | (simp; done) | (simp [*]; done)), H', ⟨by have := HK1.out; have := HK2.out; have := HK3.out; have := HK4.out; omega⟩, ⟨by (with_reducible repeat (first | apply Kd.S_alloc | apply Kd.S_drewN | apply Kd.S_drew)); exact Kd.S_mono HO_3.out (fun _ hk => ⟨hk.1, hk.2.1⟩)⟩, ⟨by (with_reducible repeat (first | apply Kd.S_alloc | apply Kd.S_drewN | apply Kd.S_drew)); exact Kd.S_mono HO_5.out (fun _ hk => ⟨hk.1, hk.2.1⟩)⟩, ⟨by (with_reducible repeat (first | apply Kd.R_alloc | apply Kd.R_drewN | apply Kd.R_drew)); exact Kd.R_mono HO_6.out (fun _ hk => trivial)⟩, ⟨by (with_reducible repeat (first | refine blk_drewN ?_ _ | refine blk_drew ?_ | refine blk_alloc ?_ _)); exact BK182.out⟩, ⟨by repeat (first | (with_reducible first | exact HB.out | apply below_alloc | apply pw_below_drewN | apply below_drew1 | refine below_set ?_ GE182.out) | exact HB.out)⟩⟩
         ·rw [if_neg c14] at H
          have c14b0 : decide (x7_3 < (x3_1.length : Int)) = false := decide_eq_false c14
          clear c14
          have H' := Aside0.mk H
          clear H
          go_wp2
          go_roundg k3
          case measure => have := HK1.out; have := HK2.out; have := HK3.out; omega
          case rel => exact ⟨(x5_3), (x6_3), H', ⟨by have := HK1.out; have := HK2.out; have := HK3.out; omega⟩, ⟨by (with_reducible repeat (first | apply Kd.S_alloc | apply Kd.S_drewN | apply Kd.S_drew)); exact HO_3.out⟩, ⟨by (with_reducible repeat (first | apply Kd.S_alloc | apply Kd.S_drewN | apply Kd.S_drew)); exact HO_5.out⟩, ⟨by (with_reducible repeat (first | apply Kd.R_alloc | apply Kd.R_drewN | apply Kd.R_drew)); exact HO_6.out⟩, ⟨by (with_reducible repeat (first | refine blk_drewN ?_ _ | refine blk_drew ?_ | refine blk_alloc ?_ _)); exact BK182.out⟩, ⟨by repeat (first | (with_reducible first | exact HB.out | apply below_alloc | apply pw_below_drewN | apply below_drew1 | refine below_set ?_ GE182.out) | exact HB.out)⟩⟩
      ·rw [if_neg c11] at H
       have c11b0 : decide ((x6_2.length : Int) < (x3_1.length : Int)) = false := decide_eq_false c11
       have c11b1 : decide (x6_2.length < x3_1.length) = false := decide_eq_false (fun h => c11 (Int.ofNat_lt.mpr h))
       clear c11
       obtain rfl := Option.some.inj H
       obtain ⟨Ao43, co43, eo43⟩ := Kd.R_slice HO_6.out
       subst eo43
       obtain ⟨Ao44, co44, eo44⟩ := Kd.S_slice HO_3.out
       subst eo44
       go_wp2
       go_ret
       exact ⟨_, by first | rfl | (simp [errW_none, errW_some] <;> rfl) | (simp [*, errW_none, errW_some] <;> rfl), by (with_reducible repeat (first | apply Kd.S_alloc | apply Kd.S_drewN | apply Kd.S_drew)); exact Kd.S_mono HO_5.out (fun _ hk => trivial), by repeat (first | (with_reducible first | exact HB.out | apply below_alloc | apply pw_below_drewN | apply below_drew1 | refine below_set ?_ GE182.out) | exact HB.out)⟩
end
end Go.Proofs.Ytjjcnbfmmhokeaa.X
namespace Go.Proofs.Ytjjcnbfmmhokeaa.G
open Go.Proofs.Ytjjcnbfmmhokeaa.X Go.RowKit Go.Proofs.YtjjcnbfmmhokeaaW.PrintWords
set_option linter.all false
set_option maxHeartbeats 8000000
theorem markL_in : ∀ (g : List Int) (d : List Bool) (a : Nat), (∀ x ∈ g, ∃ k : Nat, x = (k : Int) ∧ k < d.length) → ((markL d g).getD a false = true ↔ d.getD a false = true ∨ (a : Int) ∈ g)
 | [], d, a, _ => by unfold markL; simp
 | x :: g, d, a, h => by
  obtain ⟨k, rfl, hk⟩ := h x (by simp)
  have := markL_in g (d.set k true) a (fun y hy => by rw [List.length_set]; exact h y (by simp [hy]))
  unfold markL at this ⊢
  rw [List.foldl_cons, Int.toNat_natCast, this]
  by_cases e : a = k
  ·subst e
   rw [List.getD_eq_getElem?_getD, List.getElem?_set_self hk]
   simp
  ·rw [List.getD_eq_getElem?_getD, List.getElem?_set_ne (fun h => e h.symm), ← List.getD_eq_getElem?_getD]
   have : ¬ (a : Int) = (k : Int) := by omega
   simp [this]
theorem grpL_cls {n : Nat} {t : List (List Bool)} {T : Nat → Nat → Bool} (ht : Tab n t T) (a : Nat) (ha : a < n) : grpL t a n = cls n T a := by
 unfold grpL cls pickN
 congr 1
 refine List.filter_congr fun k hk => ?_
 have hk := List.mem_range.1 hk
 unfold clsP
 rw [ht.val a k ha hk, ht.val k a hk ha]
theorem freeB_iff {n : Nat} {t : List (List Bool)} {T : Nat → Nat → Bool} (ht : Tab n t T) (d : List Bool) (done : List Int) (hd : ∀ a, a < n → (d.getD a false = true ↔ (a : Int) ∈ done)) (a : Nat) (ha : a < n) : freeB t d a = true ↔ (a : Int) ∉ done ∧ ∀ k, k < n → badP T done a k = false := by
 unfold freeB freeTo
 rw [ht.len, Bool.and_eq_true, List.all_eq_true]
 constructor
 ·rintro ⟨h1, h2⟩
  refine ⟨fun h => ?_, fun k hk => ?_⟩
  ·rw [(hd a ha).2 h] at h2; cases h2
  ·have := h1 k (List.mem_range.2 hk)
   rw [ht.val a k ha hk, ht.val k a hk ha] at this
   cases hb : badP T done a k with
   | false => rfl
   | true =>
    obtain ⟨g1, g2, g3, g4⟩ := badP_iff.1 hb
    have hdk : d.getD k false = false := by
     cases hx : d.getD k false with
     | false => rfl
     | true => exact absurd ((hd k hk).1 hx) g2
    rw [g1, g3, hdk] at this
    simp [g4] at this
 ·rintro ⟨h1, h2⟩
  refine ⟨fun k hk => ?_, ?_⟩
  ·have hk := List.mem_range.1 hk
   rw [ht.val a k ha hk, ht.val k a hk ha]
   have := h2 k hk
   unfold badP at this
   have e : decide ((k : Int) ∈ done) = d.getD k false := by
    cases hx : d.getD k false with
    | true => exact decide_eq_true ((hd k hk).1 hx)
    | false => exact decide_eq_false fun h => by rw [(hd k hk).2 h] at hx; cases hx
   rw [e] at this
   rw [this]; rfl
  ·cases hx : d.getD a false with
   | false => rfl
   | true => exact absurd ((hd a ha).1 hx) h1
structure ToL (n : Nat) (T : Nat → Nat → Bool) (tol : List (List Int)) : Prop where
 len : tol.length = n
 row : ∀ i, i < n → (tol.getD i []).length ≤ n
 inn : ∀ i k : Nat, i < n → k < n → ((k : Int) ∈ tol.getD i [] ↔ T i k = true)
theorem rdL5 (t : List (List Int)) (i : Nat) : rd_L5 t (i : Int) = t.getD i [] := by unfold rd_L5; rw [Int.toNat_natCast]
theorem cls_succ (T : Nat → Nat → Bool) (a k : Nat) : cls (k + 1) T a = cls k T a ++ (if clsP T a k = true then [(k : Int)] else []) := pickN_succ _ _
theorem cls_len (T : Nat → Nat → Bool) (a k : Nat) : (cls k T a).length ≤ k := pickN_len _ _
theorem j4_yes (T : Nat → Nat → Bool) (tol out : List (List Int)) (done g : List Int) (a k : Nat) (hk : k ≤ 1000) (hg : g.length ≤ 1000) (x9 : Bool) (res : List (List Int))
  (nx : Evt (fun f => davitref11_Groups.l3 f tol out done (a : Int) (g ++ [(k : Int)]) x9 ((k : Int) + 1)) res) : Evt (fun f => davitref11_Groups.j4 f tol out done (a : Int) g x9 (k : Int) true) res := by
 have hw : wrap64 ((k : Int) + 1) = (k : Int) + 1 := wrap_small _ (by omega) (by omega)
 have c : g.length < 17592186044416 := by omega
 refine Evt.succ (Evt.congr nx fun f => ?_)
 rw [davitref11_Groups.j4, if_pos rfl, if_pos c, hw]
theorem j4_no (tol out : List (List Int)) (done g : List Int) (a k : Nat) (hk : k ≤ 1000) (hg : g.length ≤ 1000) (hat : a < tol.length) (hrow : (tol.getD a []).length ≤ 1000) (hdl : done.length ≤ 1000) (x9 : Bool) (res : List (List Int))
  (nx : Evt (fun f => davitref11_Groups.l3 f tol out done (a : Int) g (x9 && !(decide ((k : Int) ∈ tol.getD a []) && !(decide ((k : Int) ∈ done)))) ((k : Int) + 1)) res) : Evt (fun f => davitref11_Groups.j4 f tol out done (a : Int) g x9 (k : Int) false) res := by
 have hw : wrap64 ((k : Int) + 1) = (k : Int) + 1 := wrap_small _ (by omega) (by omega)
 have c2 : (0 : Int) ≤ (a : Int) := Int.natCast_nonneg a
 have c1 : (a : Int) < (tol.length : Int) := by omega
 have hf := has_ev (tol.getD a []) (k : Int) (by omega)
 have hd := has_ev done (k : Int) (by omega)
 have e : ∀ f, davitref11_Groups.j4 (f + 1) tol out done (a : Int) g x9 (k : Int) false = (davitref07_Has.f f (tol.getD a []) (k : Int)).bind fun t204 => (if t204 = true then ((davitref07_Has.f f done (k : Int)).bind fun t205 => (if t205 = true then (davitref11_Groups.l3 f tol out done (a : Int) g x9 ((k : Int) + 1)) else (davitref11_Groups.l3 f tol out done (a : Int) g false ((k : Int) + 1)))) else (davitref11_Groups.l3 f tol out done (a : Int) g x9 ((k : Int) + 1))) := by
  intro f
  rw [davitref11_Groups.j4, if_neg Bool.false_ne_true, if_pos c2, if_pos c1, rdL5, hw]
 refine Evt.succ (Evt.congr ?_ e)
 refine Evt.bind (h := fun f t204 => (if t204 = true then ((davitref07_Has.f f done (k : Int)).bind fun t205 => (if t205 = true then (davitref11_Groups.l3 f tol out done (a : Int) g x9 ((k : Int) + 1)) else (davitref11_Groups.l3 f tol out done (a : Int) g false ((k : Int) + 1)))) else (davitref11_Groups.l3 f tol out done (a : Int) g x9 ((k : Int) + 1)))) hf ?_
 cases h1 : decide ((k : Int) ∈ tol.getD a []) with
 | false =>
  rw [h1, Bool.false_and, Bool.not_false, Bool.and_true] at nx
  exact Evt.congr nx fun f => if_neg Bool.false_ne_true
 | true =>
  rw [h1, Bool.true_and, Bool.not_not] at nx
  refine Evt.congr ?_ fun f => if_pos rfl
  refine Evt.bind (h := fun f t205 => (if t205 = true then (davitref11_Groups.l3 f tol out done (a : Int) g x9 ((k : Int) + 1)) else (davitref11_Groups.l3 f tol out done (a : Int) g false ((k : Int) + 1)))) hd ?_
  cases h2 : decide ((k : Int) ∈ done) with
  | false =>
   rw [h2, Bool.and_false] at nx
   exact Evt.congr nx fun f => if_neg Bool.false_ne_true
  | true =>
   rw [h2, Bool.and_true] at nx
   exact Evt.congr nx fun f => if_pos rfl
theorem l3_round (tol out : List (List Int)) (done g : List Int) (a k : Nat) (hkt : k < tol.length) (hk : k ≤ 1000) (hat : a < tol.length) (hra : (tol.getD a []).length ≤ 1000) (hrk : (tol.getD k []).length ≤ 1000) (x9 : Bool) (res : List (List Int))
  (nx : Evt (fun f => davitref11_Groups.j4 f tol out done (a : Int) g x9 (k : Int) (decide (k = a) || (decide ((k : Int) ∈ tol.getD a []) && decide ((a : Int) ∈ tol.getD k [])))) res) : Evt (fun f => davitref11_Groups.l3 f tol out done (a : Int) g x9 (k : Int)) res := by
 have c2 : (0 : Int) ≤ (a : Int) := Int.natCast_nonneg a
 have c1 : (a : Int) < (tol.length : Int) := by omega
 have c3 : (k : Int) < (tol.length : Int) := by omega
 have c4 : (0 : Int) ≤ (k : Int) := Int.natCast_nonneg k
 have hf := has_ev (tol.getD a []) (k : Int) (by omega)
 have hb := has_ev (tol.getD k []) (a : Int) (by omega)
 have e : ∀ f, davitref11_Groups.l3 (f + 1) tol out done (a : Int) g x9 (k : Int) = (davitref07_Has.f f (tol.getD k []) (a : Int)).bind fun t197 => (if (k : Int) = (a : Int) then (davitref11_Groups.j4 f tol out done (a : Int) g x9 (k : Int) true) else ((davitref07_Has.f f (tol.getD a []) (k : Int)).bind fun t199 => (if t199 = true then (davitref11_Groups.j4 f tol out done (a : Int) g x9 (k : Int) t197) else (davitref11_Groups.j4 f tol out done (a : Int) g x9 (k : Int) false)))) := by
  intro f
  rw [davitref11_Groups.l3, if_pos c3, if_pos c4, rdL5, rdL5]
  simp only [if_pos c2, if_pos c1]
 refine Evt.succ (Evt.congr ?_ e)
 refine Evt.bind (h := fun f t197 => (if (k : Int) = (a : Int) then (davitref11_Groups.j4 f tol out done (a : Int) g x9 (k : Int) true) else ((davitref07_Has.f f (tol.getD a []) (k : Int)).bind fun t199 => (if t199 = true then (davitref11_Groups.j4 f tol out done (a : Int) g x9 (k : Int) t197) else (davitref11_Groups.j4 f tol out done (a : Int) g x9 (k : Int) false))))) hb ?_
 by_cases h : k = a
 ·rw [decide_eq_true h, Bool.true_or] at nx
  have h' : (k : Int) = (a : Int) := by omega
  exact Evt.congr nx fun f => if_pos h'
 ·rw [decide_eq_false h, Bool.false_or] at nx
  have h' : ¬ (k : Int) = (a : Int) := by omega
  refine Evt.congr ?_ fun f => if_neg h'
  refine Evt.bind (h := fun f t199 => (if t199 = true then (davitref11_Groups.j4 f tol out done (a : Int) g x9 (k : Int) (decide ((a : Int) ∈ tol.getD k []))) else (davitref11_Groups.j4 f tol out done (a : Int) g x9 (k : Int) false))) hf ?_
  cases h1 : decide ((k : Int) ∈ tol.getD a []) with
  | false =>
   rw [h1, Bool.false_and] at nx
   exact Evt.congr nx fun f => if_neg Bool.false_ne_true
  | true =>
   rw [h1, Bool.true_and] at nx
   exact Evt.congr nx fun f => if_pos rfl
theorem ToL.dec {n : Nat} {T : Nat → Nat → Bool} {tol : List (List Int)} (ht : ToL n T tol) {i k : Nat} (hi : i < n) (hk : k < n) : decide ((k : Int) ∈ tol.getD i []) = T i k := by
 cases hx : T i k with
 | true => exact decide_eq_true ((ht.inn i k hi hk).2 hx)
 | false =>
  refine decide_eq_false fun h => ?_
  rw [(ht.inn i k hi hk).1 h] at hx
  cases hx
theorem ref_l3 (n : Nat) (hn : n ≤ 20) (T : Nat → Nat → Bool) (tol : List (List Int)) (ht : ToL n T tol) (out : List (List Int)) (done : List Int) (hdl : done.length ≤ n) (hol : out.length ≤ 1000) (a : Nat) (ha : a < n) (res : List (List Int)) (v : Bool)
  (Kf : v = false → Evt (fun f => davitref11_Groups.l2 f tol out done ((a : Int) + 1)) res)
  (Kt : v = true → Evt (fun f => davitref11_Groups.l1 f tol (out ++ [cls n T a]) (done ++ cls n T a)) res)
  (hv : v = (List.range n).all fun k => !(badP T done a k)) :
  ∀ (d k : Nat) (x9 : Bool), k + d = n → x9 = ((List.range k).all fun k => !(badP T done a k)) → Evt (fun f => davitref11_Groups.l3 f tol out done (a : Int) (cls k T a) x9 (k : Int)) res := by
 have hlen := ht.len
 intro d
 induction d with
 | zero =>
  intro k x9 hk h9
  obtain rfl : k = n := by omega
  rw [← hv] at h9
  subst h9
  have c0 : ¬ (k : Int) < (tol.length : Int) := by omega
  have hcl := cls_len T a k
  cases x9 with
  | true =>
   have c1 : out.length < 5864062014805 := by omega
   have c2 : done.length + (cls k T a).length < 17592186044416 := by omega
   refine Evt.succ (Evt.congr (Kt rfl) fun f => ?_)
   rw [davitref11_Groups.l3, if_neg c0, if_pos rfl, if_pos c1, if_pos c2]
  | false =>
   have hw : wrap64 ((a : Int) + 1) = (a : Int) + 1 := wrap_small _ (by omega) (by omega)
   refine Evt.succ (Evt.congr (Kf rfl) fun f => ?_)
   rw [davitref11_Groups.l3, if_neg c0, if_neg Bool.false_ne_true, hw]
 | succ d ih =>
  intro k x9 hk h9
  have hkn : k < n := by omega
  have hra := ht.row a ha
  have hrk := ht.row k hkn
  have hpl := cls_len T a k
  have dka := ht.dec hkn ha
  have dak := ht.dec ha hkn
  have nx := ih (k + 1) (x9 && !(badP T done a k)) (by omega) (by
   rw [List.range_succ, List.all_append, ← h9]
   simp)
  rw [cast_succ, cls_succ] at nx
  have e : (decide (k = a) || (decide ((k : Int) ∈ tol.getD a []) && decide ((a : Int) ∈ tol.getD k []))) = clsP T a k := by
   rw [dka, dak]; unfold clsP
   congr 1
  have bad : badP T done a k = (T a k && !(decide ((k : Int) ∈ done)) && !(clsP T a k)) := by
   unfold badP clsP
   cases T a k <;> cases T k a <;> cases (k == a) <;> cases decide ((k : Int) ∈ done) <;> rfl
  refine l3_round tol out done (cls k T a) a k (by omega) (by omega) (by omega) (by omega) (by omega) x9 res ?_
  rw [e]
  cases hc : clsP T a k with
  | true =>
   rw [hc, Bool.not_true, Bool.and_false] at bad
   rw [bad, hc, if_pos rfl, Bool.not_false, Bool.and_true] at nx
   exact j4_yes T tol out done (cls k T a) a k (by omega) (by omega) x9 res nx
  | false =>
   rw [hc, Bool.not_false, Bool.and_true] at bad
   rw [bad, hc, if_neg Bool.false_ne_true, List.append_nil, ← dak] at nx
   exact j4_no tol out done (cls k T a) a k (by omega) (by omega) (by omega) (by omega) (by omega) x9 res nx
theorem ref_l2 (n : Nat) (hn : n ≤ 20) (T : Nat → Nat → Bool) (tol : List (List Int)) (ht : ToL n T tol) (out : List (List Int)) (done : List Int) (hdl : done.length ≤ n) (hol : out.length ≤ 1000) (c : Nat) (hc : c < n) (hcd : (c : Int) ∉ done) (hf : ∀ k, k < n → badP T done c k = false) (hfirst : ∀ a, a < c → ¬ ((a : Int) ∉ done ∧ ∀ k, k < n → badP T done a k = false)) (res : List (List Int))
  (K : Evt (fun f => davitref11_Groups.l1 f tol (out ++ [cls n T c]) (done ++ cls n T c)) res) :
  ∀ (d a : Nat), a + d = c → Evt (fun f => davitref11_Groups.l2 f tol out done (a : Int)) res := by
 have hlen := ht.len
 intro d
 induction d with
 | zero =>
  intro a ha
  obtain rfl : a = c := by omega
  have hd := has_ev done (a : Int) (by omega)
  have c1 : (a : Int) < (tol.length : Int) := by omega
  rw [decide_eq_false hcd] at hd
  have := ref_l3 n hn T tol ht out done hdl hol a hc res true (fun h => by cases h) (fun _ => K) (by
   symm
   rw [List.all_eq_true]
   intro k hk
   rw [hf k (List.mem_range.1 hk)]; rfl) n 0 true (by omega) rfl
  refine Evt.succ (Evt.congr (Evt.bind (h := fun f t189 => if t189 = true then (davitref11_Groups.l2 f tol out done (wrap64 ((a : Int) + 1))) else (davitref11_Groups.l3 f tol out done (a : Int) ([] : List Int) true 0)) hd (Evt.congr this fun f => if_neg Bool.false_ne_true)) fun f => ?_)
  rw [davitref11_Groups.l2, if_pos c1]
 | succ d ih =>
  intro a ha
  have nx := ih (a + 1) (by omega)
  rw [cast_succ] at nx
  have hw : wrap64 ((a : Int) + 1) = (a : Int) + 1 := wrap_small _ (by omega) (by omega)
  have hd := has_ev done (a : Int) (by omega)
  have c1 : (a : Int) < (tol.length : Int) := by omega
  by_cases had : (a : Int) ∈ done
  ·rw [decide_eq_true had] at hd
   refine Evt.succ (Evt.congr (Evt.bind (h := fun f t189 => if t189 = true then (davitref11_Groups.l2 f tol out done (wrap64 ((a : Int) + 1))) else (davitref11_Groups.l3 f tol out done (a : Int) ([] : List Int) true 0)) hd (Evt.congr nx fun f => by rw [if_pos rfl, hw])) fun f => ?_)
   rw [davitref11_Groups.l2, if_pos c1]
  ·rw [decide_eq_false had] at hd
   have := ref_l3 n hn T tol ht out done hdl hol a (by omega) res false (fun _ => nx) (fun h => by cases h) (by
    symm
    cases hx : (List.range n).all fun k => !(badP T done a k) with
    | false => rfl
    | true =>
     refine absurd ⟨had, fun k hk => ?_⟩ (hfirst a (by omega))
     have := List.all_eq_true.1 hx k (List.mem_range.2 hk)
     simpa using this) n 0 true (by omega) rfl
   refine Evt.succ (Evt.congr (Evt.bind (h := fun f t189 => if t189 = true then (davitref11_Groups.l2 f tol out done (wrap64 ((a : Int) + 1))) else (davitref11_Groups.l3 f tol out done (a : Int) ([] : List Int) true 0)) hd (Evt.congr this fun f => if_neg Bool.false_ne_true)) fun f => ?_)
   rw [davitref11_Groups.l2, if_pos c1]
theorem go_all (n : Nat) (hn : n ≤ 20) (T : Nat → Nat → Bool) (hT : Trn n T) (t : List (List Bool)) (ht : Tab n t T) (tol : List (List Int)) (htl : ToL n T tol) :
  ∀ (f : Nat) (d : List Bool) (out : List (List Int)), GI n T out → d.length = n → (∀ a, a < n → (d.getD a false = true ↔ (a : Int) ∈ out.flatten)) → n ≤ f + out.flatten.length → out.length ≤ out.flatten.length →
   Evt (fun k => davitref11_Groups.l1 k tol out out.flatten) (grpGo t f d out) ∧ GI n T (grpGo t f d out) ∧ (grpGo t f d out).flatten.length = n ∧ (grpGo t f d out).length ≤ n := by
 intro f
 induction f with
 | zero =>
  intro d out hG hd hdd hf hol
  have hlen := hG.len
  refine ⟨Evt.succ (Evt.congr (Evt.pure _) fun k => ?_), hG, by unfold grpGo; omega, by unfold grpGo; omega⟩
  rw [davitref11_Groups.l1, if_neg (by rw [htl.len]; omega)]
  rfl
 | succ f ih =>
  intro d out hG hd hdd hf hol
  have hlen := hG.len
  cases hft : ffTo t d t.length with
  | none =>
   have hall : out.flatten.length = n := by
    rw [hG.all]
    intro a ha
    refine Classical.byContradiction fun had => ?_
    obtain ⟨c, hc, hcd, hcf⟩ := free_ex hT out.flatten _ a ha had (Nat.le_refl _)
    have := List.find?_eq_none.1 hft c (List.mem_range.2 (by rw [ht.len]; exact hc))
    exact this ((freeB_iff ht d out.flatten hdd c hc).2 ⟨hcd, hcf⟩)
   rw [show grpGo t (f + 1) d out = out from by rw [grpGo, hft]]
   refine ⟨Evt.succ (Evt.congr (Evt.pure _) fun k => ?_), hG, hall, by omega⟩
   rw [davitref11_Groups.l1, if_neg (by rw [htl.len]; omega)]
  | some c =>
   have hc : c < n := by have := ffTo_lt hft; rw [ht.len] at this; exact this
   obtain ⟨hfc, xs, ys, e, hbef⟩ := List.find?_eq_some_iff_append.1 hft
   obtain ⟨hcd, hcf⟩ := (freeB_iff ht d out.flatten hdd c hc).1 hfc
   have hfirst : ∀ a, a < c → ¬ ((a : Int) ∉ out.flatten ∧ ∀ k, k < n → badP T out.flatten a k = false) := by
    intro a hac hh
    have han : a < n := by omega
    have hfa := (freeB_iff ht d out.flatten hdd a han).2 hh
    have : a ∈ xs := by
     have hp := List.pairwise_lt_range (n := t.length)
     rw [e] at hp
     have hm : a ∈ xs ++ c :: ys := by rw [← e]; exact List.mem_range.2 (by rw [ht.len]; exact han)
     rcases List.mem_append.1 hm with h | h
     ·exact h
     ·rcases List.mem_cons.1 h with h | h
      ·omega
      ·have := (List.pairwise_cons.1 (List.pairwise_append.1 hp).2.1).1 a h
       omega
    have := hbef a this
    rw [hfa] at this
    cases this
   have hG2 := hG.next hT hc hcd hcf
   have hg : grpL t c t.length = cls n T c := by rw [ht.len]; exact grpL_cls ht c hc
   rw [show grpGo t (f + 1) d out = grpGo t f (markL d (cls n T c)) (out ++ [cls n T c]) from by rw [grpGo, hft]; show grpGo t f (markL d (grpL t c t.length)) (out ++ [grpL t c t.length]) = _; rw [hg]]
   have hfl : (out ++ [cls n T c]).flatten = out.flatten ++ cls n T c := by simp
   have hpos : 0 < (cls n T c).length := List.length_pos_of_mem (mem_cls.2 ⟨hc, .inl rfl⟩)
   obtain ⟨i1, i2, i3, i4⟩ := ih (markL d (cls n T c)) (out ++ [cls n T c]) hG2 (by rw [markL_len]; exact hd) (fun a ha => by
    rw [markL_in _ _ _ (fun x hx => by
     obtain ⟨k, e, h1, _⟩ := mem_pickN.1 hx
     exact ⟨k, e, by rw [hd]; exact h1⟩), hdd a ha, hfl, List.mem_append]) (by rw [hfl, List.length_append]; omega) (by rw [hfl, List.length_append, List.length_append, List.length_singleton]; omega)
   refine ⟨?_, i2, i3, i4⟩
   rw [hfl] at i1
   have := ref_l2 n hn T tol htl out out.flatten hlen (by omega) c hc hcd hcf hfirst _ i1 c 0 (by omega)
   refine Evt.succ (Evt.congr this fun k => ?_)
   have hnotall : out.flatten.length < n := by
    rcases Nat.lt_or_ge out.flatten.length n with h | h
    ·exact h
    ·exact absurd (hG.all.1 (by omega) c hc) hcd
   rw [davitref11_Groups.l1, if_pos (by rw [htl.len]; omega)]
   rfl
theorem groups_ev (m : List S33) (hm : Sh m) : ∃ g, Evt (fun f => calls_Groups.f f m) g ∧ Evt (fun f => davitref11_Groups.f f m) g ∧ GI m.length (wsh (E m) m.length) g ∧ g.flatten.length = m.length ∧ g.length ≤ m.length := by
 have hl := hm.len
 obtain ⟨t, ht, hT⟩ := table_ev m hm
 have trn : Trn m.length (wsh (E m) m.length) := by
  intro a b c ha hb hc h1 h2
  exact (wsh_iff _ _ a c ha hc).2 (((wsh_iff _ _ a b ha hb).1 h1).trans ((wsh_iff _ _ b c hb hc).1 h2))
 have hsq : Sq t := by
  refine ⟨by rw [hT.len]; omega, fun r hr => ?_⟩
  obtain ⟨k, hk, rfl⟩ := of_getD hr []
  rw [hT.row k (by rw [← hT.len]; exact hk), hT.len]
 have lists : ∃ tol, ToL m.length (wsh (E m) m.length) tol ∧ ∀ res, Evt (fun f => davitref11_Groups.l1 f tol ([] : List (List Int)) ([] : List Int)) res → Evt (fun f => davitref11_Groups.f f m) res := by
  have each : ∀ a, ∃ r : List Int, a < m.length → Evt (fun f => davitref11_To.f f m (a : Int)) r ∧ r.length ≤ m.length ∧ ∀ x : Int, x ∈ r ↔ ∃ b : Nat, x = (b : Int) ∧ TC m.length (E m) a b := by
   intro a
   by_cases ha : a < m.length
   ·obtain ⟨r, h⟩ := to_ev m hm a ha
    exact ⟨r, fun _ => h⟩
   ·exact ⟨[], fun h => absurd h ha⟩
  obtain ⟨F, hF⟩ := Classical.axiomOfChoice each
  refine ⟨(List.range m.length).map F, ⟨by simp, fun i hi => ?_, fun i k hi hk => ?_⟩, fun res hres => ?_⟩
  ·simp [List.getD_eq_getElem?_getD, hi]; exact (hF i hi).2.1
  ·have : ((List.range m.length).map F).getD i [] = F i := by simp [List.getD_eq_getElem?_getD, hi]
   rw [this, (hF i hi).2.2, wsh_iff _ _ i k hi hk]
   constructor
   ·rintro ⟨b, e, h⟩
    obtain rfl : k = b := by omega
    exact h
   ·exact fun h => ⟨k, rfl, h⟩
  ·have key : ∀ (d i : Nat), i + d = m.length → Evt (fun f => davitref11_Groups.l0 f ((List.range i).map F) (i : Int) m) res := by
    intro d
    induction d with
    | zero =>
     intro i hi
     obtain rfl : i = m.length := by omega
     refine Evt.succ (Evt.congr hres fun f => ?_)
     rw [davitref11_Groups.l0, if_neg (by omega)]
    | succ d ih =>
     intro i hi
     have nx := ih (i + 1) (by omega)
     rw [cast_succ, List.range_succ, List.map_append] at nx
     refine Evt.succ (Evt.congr (Evt.bind (h := fun f t183 => (if ((List.range i).map F).length < 5864062014805 then (davitref11_Groups.l0 f (((List.range i).map F) ++ [t183]) (wrap64 ((i : Int) + 1)) m) else (none))) (hF i (by omega)).1 (Evt.congr nx fun f => by rw [if_pos (by simp; omega), wrap_small _ (by omega) (by omega)]; rfl)) fun f => ?_)
     rw [davitref11_Groups.l0, if_pos (by omega)]
   exact Evt.congr (key m.length 0 (by omega)) fun f => rfl
 obtain ⟨tol, htol, hev⟩ := lists
 obtain ⟨r1, r2, r3, r4⟩ := go_all m.length hl (wsh (E m) m.length) trn t hT tol htol t.length (List.replicate t.length false) [] ⟨fun g hg => (by cases hg), List.nodup_nil, fun pre g post e => (by simp at e)⟩ (by simp [hT.len]) (fun a ha => by simp [List.getD_eq_getElem?_getD, hT.len, ha]) (by rw [hT.len]; omega) (by simp)
 refine ⟨_, Evt.congr (Evt.bind (h := fun f t => if Sq t then some (grpGo t t.length (List.replicate t.length false) []) else none) ht (Evt.const (by rw [if_pos hsq]))) fun f => rfl, hev _ r1, r2, r3, r4⟩
end Go.Proofs.Ytjjcnbfmmhokeaa.G
namespace Go.Proofs.Ytjjcnbfmmhokeaa.G
open Go.Proofs.Ytjjcnbfmmhokeaa.X Go.RowKit Go.Proofs.YtjjcnbfmmhokeaaW.PrintWords
set_option linter.all false
set_option maxHeartbeats 4000000
theorem awake_ev : Evt davitlaw11_awake.f true := by
 have : davitlaw11_awake.f 60 = some true := by decide +kernel
 exact Evt.of_mono davitlaw11_awake.mono this
def cm (m : List S33) (a b : Int) : Bool := isB m.length a && isB m.length b && wsh (E m) m.length a.toNat b.toNat
theorem cm_nat (m : List S33) (a b : Nat) (ha : a < m.length) (hb : b < m.length) : cm m (a : Int) (b : Int) = wsh (E m) m.length a b := by
 unfold cm
 rw [(isB_iff m.length (a : Int)).2 ⟨by omega, by omega⟩, (isB_iff m.length (b : Int)).2 ⟨by omega, by omega⟩, Int.toNat_natCast, Int.toNat_natCast]
 rfl
theorem comes_ev (m : List S33) (hm : Sh m) (a b : Int) : Evt (fun f => calls_Comes.f f m a b) (cm m a b) := by
 have hl := hm.len
 obtain ⟨t, ht, hT⟩ := table_ev m hm
 by_cases ha : isB m.length a = true
 ·obtain ⟨h1, h2⟩ := (isB_iff _ _).1 ha
  by_cases hb : isB m.length b = true
  ·obtain ⟨h3, h4⟩ := (isB_iff _ _).1 hb
   obtain ⟨x, rfl⟩ : ∃ x : Nat, a = (x : Int) := ⟨a.toNat, by omega⟩
   obtain ⟨y, rfl⟩ : ∃ y : Nat, b = (y : Int) := ⟨b.toNat, by omega⟩
   rw [cm_nat m x y (by omega) (by omega)]
   have hlen := hT.len
   have hrow := hT.row x (by omega)
   have hv := hT.val x y (by omega) (by omega)
   unfold tv at hv
   refine Evt.congr (Evt.bind (h := fun f t137 => (if 0 ≤ (x : Int) then (if (x : Int) < (t137.length : Int) then (if 0 ≤ (y : Int) then (if (y : Int) < ((rd_L15 t137 (x : Int)).length : Int) then (some (rdOf false (rd_L15 t137 (x : Int)) (y : Int))) else (none)) else (none)) else (none)) else (none))) ht (Evt.const (by rw [if_pos (by omega), if_pos (by omega), if_pos (by omega), rdL, if_pos (by omega), rdBool, hv]))) fun f => ?_
   unfold calls_Comes.f
   rw [if_neg (by omega), if_neg (by omega), if_neg (by omega), if_neg (by omega)]
  ·rw [show cm m a b = false from by unfold cm; rw [show isB m.length b = false from by simpa using hb]; simp]
   refine Evt.congr (Evt.pure _) fun f => ?_
   have hb' : ¬ (0 ≤ b ∧ b < (m.length : Int)) := fun h => hb ((isB_iff _ _).2 h)
   unfold calls_Comes.f
   rw [if_neg (by omega), if_neg (by omega)]
   by_cases h3 : b < 0
   ·rw [if_pos h3]
   ·rw [if_neg h3, if_pos (by omega)]
 ·rw [show cm m a b = false from by unfold cm; rw [show isB m.length a = false from by simpa using ha]; simp]
  refine Evt.congr (Evt.pure _) fun f => ?_
  have ha' : ¬ (0 ≤ a ∧ a < (m.length : Int)) := fun h => ha ((isB_iff _ _).2 h)
  unfold calls_Comes.f
  by_cases h3 : a < 0
  ·rw [if_pos h3]
  ·rw [if_neg h3, if_pos (by omega)]
end Go.Proofs.Ytjjcnbfmmhokeaa.G
