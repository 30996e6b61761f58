/- Part 4 of the proof of the statement CallsRight: the words of the walks, the walks through the functions that it reaches, and the plain laws of what they compute. -/
import Derived.Test.YtjjcnbfmmhokeaaMCallsRight2
import Derived.WalkSpells
import Derived.Shelf.Abstract
import Derived.Lib.SliceRun
namespace Go.Proofs.Ytjjcnbfmmhokeaa.X
open Go.RowKit Go.Proofs.YtjjcnbfmmhokeaaW.PrintWords Go.Proofs.YtjjcnbfmmhokeaaW.PrintLast Go.Proofs.YtjjcnbfmmhokeaaW.PrintMore
attribute [local go_sem] max2_int min2_int max_two min_two max_three min_three max_four min_four
set_option linter.all false
noncomputable section
mutual
def davitref11_To.l0 : Nat → List Int → Int → List (S33) → Option (List Int)
 | 0, _, _, _ => none
 | k + 1, x5, x6, x160000 => if x6 < (x5.length : Int) then (if 0 ≤ x6 then ((davitref11_Of.f k x160000 (rd x5 x6)).bind fun t164 => (davitref11_To.l1 k x5 x6 t164 0 x160000)) else (none)) else (some x5)
def davitref11_To.l1 : Nat → List Int → Int → List Int → Int → List (S33) → Option (List Int)
 | 0, _, _, _, _, _ => none
 | k + 1, x5, x6, x7, x8, x160000 => if x8 < (x7.length : Int) then (if 0 ≤ x8 then ((davitref07_Has.f k x5 (rd x7 x8)).bind fun t168 => (if t168 = true then (davitref11_To.l1 k x5 x6 x7 (wrap64 (x8 + 1)) x160000) else (if x5.length < 17592186044416 then (davitref11_To.l1 k (x5 ++ [rd x7 x8]) x6 x7 (wrap64 (x8 + 1)) x160000) else (none)))) else (none)) else (davitref11_To.l0 k x5 (wrap64 (x6 + 1)) x160000)
end
def davitref11_To.f (k : Nat) (l0_0 : List (S33)) (a1 : Int) : Option (List Int) := (davitref11_Of.f k l0_0 a1).bind fun t160 => (davitref11_To.l0 k t160 0 l0_0)
theorem davitref11_To.mono_l : ∀ k, (∀ y0 y1 y2, LeO (davitref11_To.l0 k y0 y1 y2) (davitref11_To.l0 (k + 1) y0 y1 y2)) ∧ (∀ y0 y1 y2 y3 y4, LeO (davitref11_To.l1 k y0 y1 y2 y3 y4) (davitref11_To.l1 (k + 1) y0 y1 y2 y3 y4))
 | 0 => ⟨fun _ _ _ r h => by simp [davitref11_To.l0] at h, fun _ _ _ _ _ r h => by simp [davitref11_To.l1] at h⟩
 | k + 1 => by
  obtain ⟨ih0, ih1⟩ := davitref11_To.mono_l k
  refine ⟨?_, ?_⟩
  ·intro y0 y1 y2
   unfold davitref11_To.l0
   repeat' first
   | (with_reducible exact ih0 _ _ _)
   | (with_reducible exact ih1 _ _ _ _ _)
   | (with_reducible exact davitref07_Has.mono _ _ _)
   | (with_reducible exact davitref11_Of.mono _ _ _)
   | (with_reducible exact LeO.refl _)
   | (with_reducible exact LeO.none _)
   | (with_reducible refine LeO.ite ?_ ?_)
   | (with_reducible refine LeO.bind ?_ (fun _ => ?_))
   | exact ih0 _ _ _
   | exact ih1 _ _ _ _ _
   | exact davitref07_Has.mono _ _ _
   | exact davitref11_Of.mono _ _ _
   | exact LeO.none _
   | refine LeO.ite ?_ ?_
   | refine LeO.bind ?_ (fun _ => ?_)
  ·intro y0 y1 y2 y3 y4
   unfold davitref11_To.l1
   repeat' first
   | (with_reducible exact ih0 _ _ _)
   | (with_reducible exact ih1 _ _ _ _ _)
   | (with_reducible exact davitref07_Has.mono _ _ _)
   | (with_reducible exact davitref11_Of.mono _ _ _)
   | (with_reducible exact LeO.refl _)
   | (with_reducible exact LeO.none _)
   | (with_reducible refine LeO.ite ?_ ?_)
   | (with_reducible refine LeO.bind ?_ (fun _ => ?_))
   | exact ih0 _ _ _
   | exact ih1 _ _ _ _ _
   | exact davitref07_Has.mono _ _ _
   | exact davitref11_Of.mono _ _ _
   | exact LeO.none _
   | refine LeO.ite ?_ ?_
   | refine LeO.bind ?_ (fun _ => ?_)
theorem davitref11_To.mono : ∀ a0 a1 k, LeO (davitref11_To.f k a0 a1) (davitref11_To.f (k + 1) a0 a1) := by
 intro a0 a1 k
 obtain ⟨ih0, ih1⟩ := davitref11_To.mono_l k
 unfold davitref11_To.f
 repeat' first
   | (with_reducible exact ih0 _ _ _)
   | (with_reducible exact ih1 _ _ _ _ _)
   | (with_reducible exact davitref07_Has.mono _ _ _)
   | (with_reducible exact davitref11_Of.mono _ _ _)
   | (with_reducible exact LeO.refl _)
   | (with_reducible exact LeO.none _)
   | (with_reducible refine LeO.ite ?_ ?_)
   | (with_reducible refine LeO.bind ?_ (fun _ => ?_))
   | exact ih0 _ _ _
   | exact ih1 _ _ _ _ _
   | exact davitref07_Has.mono _ _ _
   | exact davitref11_Of.mono _ _ _
   | exact LeO.none _
   | refine LeO.ite ?_ ?_
   | refine LeO.bind ?_ (fun _ => ?_)
set_option maxHeartbeats 8000000 in
set_option maxRecDepth 100000 in
theorem davitref11_To.calls (k : Nat) (A0_0 : Option Addr) (c0_0 : Nat) (l0_0 : List (S33)) (a1 : Int) (r : List Int) (w : World) (hr0_0 : Kd.C k33 w A0_0 l0_0.length l0_0) (hc0_0 : l0_0.length ≤ c0_0) (h : davitref11_To.f k l0_0 a1 = some r) :
  Calls Try.prog 14 #[.agg #[.slice A0_0 l0_0.length c0_0], .int .i64 a1] w fun e w' => ∃ v0_ : Value, e = .returned (v0_) ∧ Kd.R (Kd.int .i64) 3 w' w.heap.size (fun _ => True) v0_ r ∧ Below w.heap.size w w' := by
 have hu24 := Try.underlying24
 have HR0_0 := Aside0.mk hr0_0
 have HC0_0 := Aside0.mk hc0_0
 clear hr0_0 hc0_0
 have HB := Aside0.mk (Below.refl w.heap.size w)
 have H : ((davitref11_Of.f k l0_0 a1).bind fun t160 => (davitref11_To.l0 k t160 0 l0_0)) = some r := h
 clear h
 replace H := Option.bind_eq_some_iff.mp H
 obtain ⟨t160, A30, H⟩ := H
 replace H : (davitref11_To.l0 k t160 0 l0_0) = some r := H
 have A3 := Aside0.mk A30
 clear A30
 have H' := Aside0.mk H
 clear H
 go_enter Try.func14, Try.ntmps14
 go_wp2_with (first | ((with_reducible refine gate_dst (N := 2) rfl ?_); refine box_event ?hg (N := 2) ?hd (cs := #[.slice A0_0 l0_0.length c0_0]) (t := 24) ?hr ?_; (case hd => rfl); (case hg => rfl); (case hr => first | (go_simp; done) | (go_simp; rfl)); intro gb159 hg w4 hbox hb; have n0_ := Aside0.mk (below_step (by repeat (first | (with_reducible first | exact HB.out | apply below_alloc | apply pw_below_drewN | apply below_drew1) | exact HB.out)) hb); have n1_ := Aside0.mk (hbox); have n2_ := Aside0.mk ((by rw [hg]; exact (below_size (by repeat (first | (with_reducible first | exact HB.out | apply below_alloc | apply pw_below_drewN | apply below_drew1) | exact HB.out))) : w.heap.size ≤ gb159)); have n3_ := Aside0.mk ((by rw [hg]; exact (below_size (by repeat (first | (with_reducible first | exact HB.out | apply below_alloc | apply pw_below_drewN | apply below_drew1) | exact HB.out))) : w.heap.size ≤ gb159)); clear HB; have HB := n0_; have BK159 := n1_; have GW159 := n2_; have GE159 := n3_; clear n0_ n1_ n2_ n3_; clear hb hbox hg; have hcz5_0 : w4.cell? ⟨gb159, 0, none⟩ = some (.slice A0_0 l0_0.length c0_0) := (blk_cell BK159.out 0).trans rfl; have hfz5_0 := blk_frozen BK159.out 0) | ((with_reducible refine gate_callee (f := 13) rfl ?_); refine goesL_ (some 11) rfl rfl Try.func13 (by kernel_rfl) rfl #[.agg #[.slice A0_0 l0_0.length c0_0], .int .i64 a1] rfl (by (try simp only [List.map_toArray, List.map_cons, List.map_nil]); first | done | rfl | (simp only [List.length_drop, List.length_take]; rfl)) ?_; (with_reducible refine (davitref11_Of.calls k _ _ l0_0 a1 t160 _ ?side1 ?side2 A3.out).mono ?_); (case side1 => repeat (first | exact (Kd.C_below HR0_0.out HB.out) | (with_reducible refine Kd.C_alloc ?_ _) | (with_reducible refine Kd.C_drewN ?_ _) | (with_reducible refine Kd.C_drew ?_))); (case side2 => exact HC0_0.out); rintro e w6 ⟨v161, rfl, ho0, hb⟩; refine ⟨_, rfl, ?_⟩; have n0_ := Aside0.mk (Kd.R_lower ho0 (below_size (by repeat (first | (with_reducible first | exact HB.out | apply below_alloc | apply pw_below_drewN | apply below_drew1 | refine below_set ?_ GE159.out) | exact HB.out)))); have n1_ := Aside0.mk (blk_below (g := gb159) (o := .cells #[.slice A0_0 l0_0.length c0_0] 24 (0, 0)) (by (with_reducible repeat (first | refine blk_drewN ?_ _ | refine blk_drew ?_ | refine blk_alloc ?_ _)); exact BK159.out) hb); have n2_ := Aside0.mk (below_step (by repeat (first | (with_reducible first | exact HB.out | apply below_alloc | apply pw_below_drewN | apply below_drew1 | refine below_set ?_ GE159.out) | exact HB.out)) hb); clear BK159; clear HB; have HO162 := n0_; have BK159 := n1_; have HB := n2_; clear n0_ n1_ n2_; (try clear hb); (try clear hb2); (try clear hk); (try clear hi); (try clear ho0)))
 go_loopg [5, 6] k (fun kq v5 v6 w' => ∃ (x5_1 : List Int) (x6_1 : Int), v6 = .int .i64 x6_1 ∧ Aside0 (davitref11_To.l0 kq x5_1 x6_1 l0_0 = some r) ∧ Aside0 (kq ≤ k) ∧ Aside0 (Kd.R (Kd.int .i64) 3 w' w.heap.size (fun _ => True) v5 x5_1) ∧ Aside0 (w'.heap[gb159]? = some (.cells #[(.slice A0_0 l0_0.length c0_0)] 24 (0, 0))) ∧ Aside0 (Below w.heap.size w w'))
 case atStart => exact ⟨(t160), (0), (by first | rfl | (simp; done) | (simp [*]; done)), H', ⟨Nat.le_refl _⟩, ⟨by (with_reducible repeat (first | apply Kd.R_alloc | apply Kd.R_drewN | apply Kd.R_drew)); exact HO162.out⟩, ⟨by (with_reducible repeat (first | refine blk_drewN ?_ _ | refine blk_drew ?_ | refine blk_alloc ?_ _)); exact BK159.out⟩, ⟨by repeat (first | (with_reducible first | exact HB.out | apply below_alloc | apply pw_below_drewN | apply below_drew1 | refine below_set ?_ GE159.out) | exact HB.out)⟩⟩
 case round =>
  clear H'
  try clear c1
  try clear p2
  try clear hcz5_0
  try clear hfz5_0
  obtain ⟨x5_1, x6_1, rfl, HA, HK1, HO_5, BK159, HB⟩ := hrel
  cases gk with
  | zero => exact absurd HA.out (by simp [davitref11_To.l0])
  | succ k1 =>
   have H := HA.out
   clear HA
   simp only [davitref11_To.l0] at H
   by_cases c7 : x6_1 < (x5_1.length : Int)
   ·rw [if_pos c7] at H
    have c7b0 : decide (x6_1 < (x5_1.length : Int)) = true := decide_eq_true c7
    clear c7
    by_cases c8 : 0 ≤ x6_1
    ·rw [if_pos c8] at H
     have c8b0 : decide (0 ≤ x6_1) = true := decide_eq_true c8
     clear c8
     replace H := Option.bind_eq_some_iff.mp H
     obtain ⟨t164, A90, H⟩ := H
     replace H : (davitref11_To.l1 k1 x5_1 x6_1 t164 0 l0_0) = some r := H
     have A9 := Aside0.mk A90
     clear A90
     have H' := Aside0.mk H
     clear H
     obtain ⟨Ao10, co10, eo10⟩ := Kd.R_slice HO_5.out
     subst eo10
     try go_wp2
     have n0_ := Aside0.mk (Kd.R_drew HO_5.out)
     have n1_ := Aside0.mk (blk_drew BK159.out)
     have n2_ := Aside0.mk (below_drew1 HB.out)
     clear HO_5
     clear BK159
     clear HB
     have HO_5 := n0_
     have BK159 := n1_
     have HB := n2_
     clear n0_ n1_ n2_
     have p163 : 0 ≤ (x6_1 : Int) := of_decide_eq_true (by first | (with_reducible assumption) | assumption)
     have q163 : x6_1 < (x5_1.length : Int) := of_decide_eq_true (by first | (with_reducible assumption) | assumption)
     obtain ⟨ad163, e163, hx163_0⟩ := Kd.at_int (Kd.R_reads' HO_5.out).2.2 x6_1 p163 q163
     cases e163
     replace p163 := eq_true p163
     replace q163 := eq_true q163
     refine start_ (n := 7) (S := fun w' => w'.cell? ⟨gb159, 0, none⟩ = some (.slice A0_0 l0_0.length c0_0) ∧ w'.cell? (ad163.add (x6_1).toNat) = some (.int .i64 (rd x5_1 x6_1))) (ds := []) #[false, false, false, false, false, false, false] (by kernel_rfl) rfl rfl ⟨(blk_cell BK159.out 0).trans rfl, hx163_0⟩ (fun hHeld => ?_)
     generalize wr.drew = w11 at HO_5 BK159 HB hx163_0 hHeld ⊢
     refine pure_ (i := 1) (N := some 19) (v := ?_) (a' := ?_) #[false, true, false, false, false, false, false] rfl rfl (by kernel_rfl) (fun _ _ _ h => h) (Or.inl ⟨by rfl, ?_⟩) ?_ ?_
     rotate_left
     ·intro w'
      go_simp
      with_reducible rfl
     rotate_left
     ·simp only [Act.put, List.setIfInBounds_toArray, List.set_cons_zero, List.set_cons_succ, i64_w, i32_w]
      rfl
     refine pure_ (i := 2) (N := some 20) (v := ?_) (a' := ?_) #[false, true, true, false, false, false, false] rfl rfl (by kernel_rfl) (fun _ _ _ h => h) (Or.inl ⟨by rfl, ?_⟩) ?_ ?_
     rotate_left
     ·intro w'
      go_simp
      with_reducible rfl
     rotate_left
     ·simp only [Act.put, List.setIfInBounds_toArray, List.set_cons_zero, List.set_cons_succ, i64_w, i32_w]
      rfl
     refine pure_ (i := 3) (N := some 21) (v := ?_) (a' := ?_) #[false, true, true, true, false, false, false] rfl rfl (by kernel_rfl) (fun _ _ _ h => h) (Or.inl ⟨by rfl, ?_⟩) ?_ ?_
     rotate_left
     ·intro w'
      go_simp
      with_reducible rfl
     rotate_left
     ·simp only [Act.put, List.setIfInBounds_toArray, List.set_cons_zero, List.set_cons_succ, i64_w, i32_w]
      rfl
     refine take_ (i := 0) (N := some 18) (v := ?_) (a' := ?_) #[true, true, true, true, false, false, false] rfl rfl (by kernel_rfl) (fun _ _ _ h => h) (Or.inl ⟨by rfl, ?_⟩) hHeld ?_ ?_
     rotate_left
     ·rintro w' ⟨s0, s1⟩
      go_simp
      with_reducible rfl
     rotate_left
     ·simp only [Act.put, List.setIfInBounds_toArray, List.set_cons_zero, List.set_cons_succ, i64_w, i32_w]
      rfl
     refine take_ (i := 4) (N := some 22) (v := ?_) (a' := ?_) #[true, true, true, true, true, false, false] rfl rfl (by kernel_rfl) (fun _ _ _ h => h) (Or.inl ⟨by rfl, ?_⟩) hHeld ?_ ?_
     rotate_left
     ·rintro w' ⟨s0, s1⟩
      go_simp
      with_reducible rfl
     rotate_left
     ·simp only [Act.put, List.setIfInBounds_toArray, List.set_cons_zero, List.set_cons_succ, i64_w, i32_w]
      rfl
     refine one_ (i := 5) (N := some 23) #[true, true, true, true, true, true, false] rfl rfl (by kernel_rfl) (by decide) (fun K hK => ?_)
     refine goes_ Try.func13 (by kernel_rfl) rfl #[.agg #[.slice A0_0 l0_0.length c0_0], .int .i64 (rd x5_1 x6_1)] (by rfl) rfl rfl (by (try simp only [List.map_toArray, List.map_cons, List.map_nil]); first | done | rfl | (simp only [List.length_drop, List.length_take]; rfl)) ?_
     with_reducible refine (davitref11_Of.calls k1 _ _ l0_0 (rd x5_1 x6_1) t164 _ ?side1 ?side2 A9.out).mono ?_
     (case side1 => repeat (first | exact (Kd.C_below HR0_0.out HB.out) | (with_reducible refine Kd.C_alloc ?_ _) | (with_reducible refine Kd.C_drewN ?_ _) | (with_reducible refine Kd.C_drew ?_)))
     (case side2 => exact HC0_0.out)
     rintro e w12 ⟨v165, rfl, ho0, hb⟩
     have HS1_ := (hb.cell (World.block_lt_of_cell? _ _ (hHeld.2))).trans (hHeld.2)
     refine ⟨_, rfl, ?_⟩
     have n0_ := Aside0.mk (Kd.R_elder' (by (with_reducible repeat (first | apply Kd.R_alloc | apply Kd.R_drewN | apply Kd.R_drew)); exact HO_5.out) (Kd.R_base ho0) hb)
     have n1_ := Aside0.mk (Kd.R_lower (Kd.R_new' ho0 (Kd.R_lt (by (with_reducible repeat (first | apply Kd.R_alloc | apply Kd.R_drewN | apply Kd.R_drew)); exact HO_5.out))) (below_size (by repeat (first | (with_reducible first | exact HB.out | apply below_alloc | apply pw_below_drewN | apply below_drew1 | refine below_set ?_ GE159.out) | exact HB.out))))
     have n2_ := Aside0.mk (blk_below (g := gb159) (o := .cells #[.slice A0_0 l0_0.length c0_0] 24 (0, 0)) (by (with_reducible repeat (first | refine blk_drewN ?_ _ | refine blk_drew ?_ | refine blk_alloc ?_ _)); exact BK159.out) hb)
     have n3_ := Aside0.mk (below_step (by repeat (first | (with_reducible first | exact HB.out | apply below_alloc | apply pw_below_drewN | apply below_drew1 | refine below_set ?_ GE159.out) | exact HB.out)) hb)
     clear HO_5
     clear BK159
     clear HB
     have HO_5 := n0_
     have HO166 := n1_
     have BK159 := n2_
     have HB := n3_
     clear n0_ n1_ n2_ n3_
     (try clear hb)
     (try clear hb2)
     (try clear hk)
     (try clear hi)
     (try clear ho0)
     refine hK.out _ _ ⟨(blk_cell BK159.out 0).trans rfl, HS1_⟩ (fun hHeld => ?_)
     clear hK K
     refine norm_ (a' := ?_) ?_ ?_
     rotate_left
     ·show Act.put _ (some 23) _ = _
      simp only [Act.put, List.setIfInBounds_toArray, List.set_cons_zero, List.set_cons_succ, i64_w, i32_w]
      rfl
     refine pure_ (i := 6) (N := some 7) (v := ?_) (a' := ?_) #[true, true, true, true, true, true, true] rfl rfl (by kernel_rfl) (fun _ _ _ h => h) (Or.inl ⟨by rfl, ?_⟩) ?_ ?_
     rotate_left
     ·intro w'
      go_simp
      with_reducible rfl
     rotate_left
     ·simp only [Act.put, List.setIfInBounds_toArray, List.set_cons_zero, List.set_cons_succ, i64_w, i32_w]
      rfl
     refine done_ (by kernel_rfl) ?_
     try go_wp2
     go_loopg [5, 8] k1 (fun kq v5 v8 w' => ∃ (x5_2 : List Int) (x8_2 : Int), v8 = .int .i64 x8_2 ∧ Aside0 (davitref11_To.l1 kq x5_2 x6_1 t164 x8_2 l0_0 = some r) ∧ Aside0 (kq ≤ k1) ∧ Aside0 (Kd.R (Kd.int .i64) 3 w' w.heap.size (fun k_ => some k_ ≠ (v165 : Value).ownBlock) v5 x5_2) ∧ Aside0 (Kd.R (Kd.int .i64) 3 w' w.heap.size (fun k_ => some k_ ≠ (v5 : Value).ownBlock) v165 t164) ∧ Aside0 (w'.heap[gb159]? = some (.cells #[(.slice A0_0 l0_0.length c0_0)] 24 (0, 0))) ∧ Aside0 (Below w.heap.size w w'))
     case atStart => exact ⟨(x5_1), (0), (by first | rfl | (simp; done) | (simp [*]; done)), H', ⟨Nat.le_refl _⟩, ⟨by (with_reducible repeat (first | apply Kd.R_alloc | apply Kd.R_drewN | apply Kd.R_drew)); exact Kd.R_mono HO_5.out (fun _ hk => hk.2)⟩, ⟨by (with_reducible repeat (first | apply Kd.R_alloc | apply Kd.R_drewN | apply Kd.R_drew)); exact Kd.R_mono HO166.out (fun _ hk => hk.2)⟩, ⟨by (with_reducible repeat (first | refine blk_drewN ?_ _ | refine blk_drew ?_ | refine blk_alloc ?_ _)); exact BK159.out⟩, ⟨by repeat (first | (with_reducible first | exact HB.out | apply below_alloc | apply pw_below_drewN | apply below_drew1 | refine below_set ?_ GE159.out) | exact HB.out)⟩⟩
     case round =>
      clear H'
      try clear c1
      try clear p1
      try clear q1
      try clear hx1
      try clear p2
      try clear c7
      try clear c7b0
      try clear c8
      try clear c8b0
      try clear hcz5_0
      try clear hfz5_0
      try clear hx163_0
      try clear p163
      try clear p2
      try clear q163
      obtain ⟨x5_2, x8_2, rfl, HA, HK2, HO_5, HO_7, BK159, HB⟩ := hrel
      cases gk with
      | zero => exact absurd HA.out (by simp [davitref11_To.l1])
      | succ k2 =>
       have H := HA.out
       clear HA
       simp only [davitref11_To.l1] at H
       by_cases c13 : x8_2 < (t164.length : Int)
       ·rw [if_pos c13] at H
        have c13b0 : decide (x8_2 < (t164.length : Int)) = true := decide_eq_true c13
        clear c13
        by_cases c14 : 0 ≤ x8_2
        ·rw [if_pos c14] at H
         have c14b0 : decide (0 ≤ x8_2) = true := decide_eq_true c14
         clear c14
         replace H := Option.bind_eq_some_iff.mp H
         obtain ⟨t168, A150, H⟩ := H
         replace H : (if t168 = true then (davitref11_To.l1 k2 x5_2 x6_1 t164 (wrap64 (x8_2 + 1)) l0_0) else (if x5_2.length < 17592186044416 then (davitref11_To.l1 k2 (x5_2 ++ [rd t164 x8_2]) x6_1 t164 (wrap64 (x8_2 + 1)) l0_0) else (none))) = some r := H
         have A15 := Aside0.mk A150
         clear A150
         by_cases c16 : t168 = true
         ·subst c16
          have H1 : (davitref11_To.l1 k2 x5_2 x6_1 t164 (wrap64 (x8_2 + 1)) l0_0) = some r := by rw [if_pos rfl] at H; exact H
          clear H
          have H := H1
          clear H1
          have H' := Aside0.mk H
          clear H
          obtain ⟨Ao17, co17, eo17⟩ := Kd.R_slice HO_7.out
          subst eo17
          have p167 : 0 ≤ (x8_2 : Int) := of_decide_eq_true (by first | (with_reducible assumption) | assumption)
          have q167 : x8_2 < (t164.length : Int) := of_decide_eq_true (by first | (with_reducible assumption) | assumption)
          obtain ⟨ad167, e167, hx167_0⟩ := Kd.at_int (Kd.R_reads' HO_7.out).2.2 x8_2 p167 q167
          cases e167
          replace p167 := eq_true p167
          replace q167 := eq_true q167
          obtain ⟨Ao18, co18, eo18⟩ := Kd.R_slice HO_5.out
          subst eo18
          go_wp2_with (first | ((with_reducible refine gate_callee (f := 10) rfl ?_); refine goesL_ (some 35) rfl rfl Try.func10 (by kernel_rfl) rfl #[.slice Ao18 x5_2.length co18, .int .i64 (rd t164 x8_2)] rfl (by (try simp only [List.map_toArray, List.map_cons, List.map_nil]); first | done | rfl | (simp only [List.length_drop, List.length_take]; rfl)) ?_; (with_reducible refine (davitref07_Has.calls k2 _ _ x5_2 (rd t164 x8_2) true _ ?side1 ?side2 A15.out).mono ?_); (case side1 => repeat (first | exact (Kd.R_reads' HO_5.out).2.2 | (with_reducible refine Kd.C_alloc ?_ _) | (with_reducible refine Kd.C_drewN ?_ _) | (with_reducible refine Kd.C_drew ?_))); (case side2 => exact (Kd.R_reads' HO_5.out).2.1); rintro e w' ⟨rfl, ⟨nd, rfl⟩⟩; refine ⟨_, rfl, ?_⟩))
          go_roundg k2
          case measure => have := HK1.out; have := HK2.out; omega
          case rel => exact ⟨(x5_2), (wrap64 (x8_2 + 1)), (by first | rfl | (simp; done) | (simp [*]; done)), H', ⟨by have := HK1.out; have := HK2.out; omega⟩, ⟨by (with_reducible repeat (first | apply Kd.R_alloc | apply Kd.R_drewN | apply Kd.R_drew)); exact HO_5.out⟩, ⟨by (with_reducible repeat (first | apply Kd.R_alloc | apply Kd.R_drewN | apply Kd.R_drew)); exact HO_7.out⟩, ⟨by (with_reducible repeat (first | refine blk_drewN ?_ _ | refine blk_drew ?_ | refine blk_alloc ?_ _)); exact BK159.out⟩, ⟨by repeat (first | (with_reducible first | exact HB.out | apply below_alloc | apply pw_below_drewN | apply below_drew1 | refine below_set ?_ GE159.out) | exact HB.out)⟩⟩
         ·replace c16 := Bool.eq_false_iff.mpr c16
          subst c16
          have H1 : (if x5_2.length < 17592186044416 then (davitref11_To.l1 k2 (x5_2 ++ [rd t164 x8_2]) x6_1 t164 (wrap64 (x8_2 + 1)) l0_0) else (none)) = some r := by rw [if_neg (show ¬ (false = true) by decide)] at H; exact H
          clear H
          have H := H1
          clear H1
          by_cases c19 : x5_2.length < 17592186044416
          ·rw [if_pos c19] at H
           have LMc19 := Aside0.mk c19
           clear c19
           obtain ⟨y170, hy170⟩ : ∃ y_ : List Int, y_ = (x5_2 ++ [rd t164 x8_2]) := ⟨_, rfl⟩
           replace H : (davitref11_To.l1 k2 y170 x6_1 t164 (wrap64 (x8_2 + 1)) l0_0) = some r := by first | (rw [hy170]; with_reducible exact H) | (have H2_ := (Option.bind_some _ _).symm.trans H; rw [hy170]; with_reducible exact H2_) | (have H2_ := (Option.bind_some _ _).symm.trans H; with_reducible exact H2_) | with_reducible exact H | (rw [hy170]; exact H) | exact H
           have Ny170 := Aside0.mk hy170
           clear hy170
           have H' := Aside0.mk H
           clear H
           obtain ⟨Ao20, co20, eo20⟩ := Kd.R_slice HO_7.out
           subst eo20
           have p167 : 0 ≤ (x8_2 : Int) := of_decide_eq_true (by first | (with_reducible assumption) | assumption)
           have q167 : x8_2 < (t164.length : Int) := of_decide_eq_true (by first | (with_reducible assumption) | assumption)
           obtain ⟨ad167, e167, hx167_0⟩ := Kd.at_int (Kd.R_reads' HO_7.out).2.2 x8_2 p167 q167
           cases e167
           replace p167 := eq_true p167
           replace q167 := eq_true q167
           obtain ⟨Ao21, co21, eo21⟩ := Kd.R_slice HO_5.out
           subst eo21
           go_wp2_with (first | ((with_reducible refine gate_callee (f := 10) rfl ?_); refine goesL_ (some 35) rfl rfl Try.func10 (by kernel_rfl) rfl #[.slice Ao21 x5_2.length co21, .int .i64 (rd t164 x8_2)] rfl (by (try simp only [List.map_toArray, List.map_cons, List.map_nil]); first | done | rfl | (simp only [List.length_drop, List.length_take]; rfl)) ?_; (with_reducible refine (davitref07_Has.calls k2 _ _ x5_2 (rd t164 x8_2) false _ ?side1 ?side2 A15.out).mono ?_); (case side1 => repeat (first | exact (Kd.R_reads' HO_5.out).2.2 | (with_reducible refine Kd.C_alloc ?_ _) | (with_reducible refine Kd.C_drewN ?_ _) | (with_reducible refine Kd.C_drew ?_))); (case side2 => exact (Kd.R_reads' HO_5.out).2.1); rintro e w' ⟨rfl, ⟨nd, rfl⟩⟩; refine ⟨_, rfl, ?_⟩; have p169 : 0 ≤ (x8_2 : Int) := of_decide_eq_true (by first | (with_reducible assumption) | assumption); have q169 : x8_2 < (t164.length : Int) := of_decide_eq_true (by first | (with_reducible assumption) | assumption); obtain ⟨ad169, e169, hx169_0⟩ := Kd.at_int (Kd.R_reads' HO_7.out).2.2 x8_2 p169 q169; obtain rfl : ad167 = ad169 := (by injection e169); replace p169 := eq_true p169; replace q169 := eq_true q169) | ((with_reducible refine gate_builtin (b := .append) (xs := #[.tmp 37, .tmp 42]) rfl ?_); at_builtin; refine Kd.R_append (Kd.int .i64) (w0 := w) w.heap.size rfl (.tmp 37) (.tmp 42) 29 3 (.int .i64 0) 8 rfl Try.underlying29 info3 rfl (by decide) (by omega) (.slice Ao21 x5_2.length co21) x5_2 (rd t164 x8_2) [.int .i64 (rd t164 x8_2)] (fun k_ => some k_ ≠ (.slice (some ad167) t164.length co20 : Value).ownBlock) (fun _ => False) rfl rfl ?aP (fun _ hk => hk.elim) ?aF ?aO ?aB ?aS ?aL ?_; (case aP => exact rfl); (case aB => exact (by repeat (first | (with_reducible first | exact HB.out | apply below_alloc | apply pw_below_drewN | apply below_drew1 | refine below_set ?_ GE159.out) | exact HB.out))); (case aF => exact (fun k_ hk => Kd.fresh' (Kd.R_lt (by (with_reducible repeat (first | apply Kd.R_alloc | apply Kd.R_drewN | apply Kd.R_drew)); exact HO_7.out)) k_ hk)); (case aO => exact (by (with_reducible repeat (first | apply Kd.R_alloc | apply Kd.R_drewN | apply Kd.R_drew)); exact HO_5.out)); (case aS => exact (below_size (by repeat (first | (with_reducible first | exact HB.out | apply below_alloc | apply pw_below_drewN | apply below_drew1 | refine below_set ?_ GE159.out) | exact HB.out)))); (case aL => have := LMc19.out; omega); intro v171 w22 ho hb hg hat; rw [← Ny170.out] at ho; have n0_ := Aside0.mk (Kd.R_after (ok := (fun _ => True)) (by (with_reducible repeat (first | apply Kd.R_alloc | apply Kd.R_drewN | apply Kd.R_drew)); exact Kd.R_mono HO_7.out (fun _ hk => ⟨trivial, hk⟩)) hg hat); have n1_ := Aside0.mk (blk_grown (g := gb159) (o := .cells #[.slice A0_0 l0_0.length c0_0] 24 (0, 0)) (by (with_reducible repeat (first | refine blk_drewN ?_ _ | refine blk_drew ?_ | refine blk_alloc ?_ _)); exact BK159.out) hg (Kd.R_ne HO_5.out BK159.out (by decide))); have n2_ := Aside0.mk (hb); have n3_ := Aside0.mk (ho); clear HO_7; clear BK159; clear HB; clear HO_5; have HO_7 := n0_; have BK159 := n1_; have HB := n2_; have HO172 := n3_; clear n0_ n1_ n2_ n3_; clear ho hb hg hat))
           go_roundg k2
           case measure => have := HK1.out; have := HK2.out; omega
           case rel => exact ⟨(y170), (wrap64 (x8_2 + 1)), (by first | rfl | (simp; done) | (simp [*]; done)), H', ⟨by have := HK1.out; have := HK2.out; omega⟩, ⟨by (with_reducible repeat (first | apply Kd.R_alloc | apply Kd.R_drewN | apply Kd.R_drew)); exact HO172.out⟩, ⟨by (with_reducible repeat (first | apply Kd.R_alloc | apply Kd.R_drewN | apply Kd.R_drew)); exact Kd.R_mono HO_7.out (fun _ hk => hk.2)⟩, ⟨by (with_reducible repeat (first | refine blk_drewN ?_ _ | refine blk_drew ?_ | refine blk_alloc ?_ _)); exact BK159.out⟩, ⟨by repeat (first | (with_reducible first | exact HB.out | apply below_alloc | apply pw_below_drewN | apply below_drew1 | refine below_set ?_ GE159.out) | exact HB.out)⟩⟩
          ·rw [if_neg c19] at H
           exact absurd H (by simp)
        ·rw [if_neg c14] at H
         exact absurd H (by simp)
       ·rw [if_neg c13] at H
        have c13b0 : decide (x8_2 < (t164.length : Int)) = false := decide_eq_false c13
        clear c13
        have H' := Aside0.mk H
        clear H
        obtain ⟨Ao23, co23, eo23⟩ := Kd.R_slice HO_7.out
        subst eo23
        go_wp2
        go_roundg k2
        case measure => have := HK1.out; have := HK2.out; omega
        case rel => exact ⟨(x5_2), (wrap64 (x6_1 + 1)), (by first | rfl | (simp; done) | (simp [*]; done)), H', ⟨by have := HK1.out; have := HK2.out; omega⟩, ⟨by (with_reducible repeat (first | apply Kd.R_alloc | apply Kd.R_drewN | apply Kd.R_drew)); exact Kd.R_mono HO_5.out (fun _ hk => trivial)⟩, ⟨by (with_reducible repeat (first | refine blk_drewN ?_ _ | refine blk_drew ?_ | refine blk_alloc ?_ _)); exact BK159.out⟩, ⟨by repeat (first | (with_reducible first | exact HB.out | apply below_alloc | apply pw_below_drewN | apply below_drew1 | refine below_set ?_ GE159.out) | exact HB.out)⟩⟩
    ·rw [if_neg c8] at H
     exact absurd H (by simp)
   ·rw [if_neg c7] at H
    have c7b0 : decide (x6_1 < (x5_1.length : Int)) = false := decide_eq_false c7
    clear c7
    obtain rfl := Option.some.inj H
    obtain ⟨Ao24, co24, eo24⟩ := Kd.R_slice HO_5.out
    subst eo24
    go_wp2
    go_ret
    exact ⟨_, by first | rfl | (simp [errW_none, errW_some] <;> rfl) | (simp [*, errW_none, errW_some] <;> rfl), by (with_reducible repeat (first | apply Kd.R_alloc | apply Kd.R_drewN | apply Kd.R_drew)); exact HO_5.out, by repeat (first | (with_reducible first | exact HB.out | apply below_alloc | apply pw_below_drewN | apply below_drew1 | refine below_set ?_ GE159.out) | exact HB.out)⟩
end
end Go.Proofs.Ytjjcnbfmmhokeaa.X
namespace Go.Proofs.Ytjjcnbfmmhokeaa.X
open Go.Shelf Go.RowKit Go.Proofs.YtjjcnbfmmhokeaaW.PrintWords Go.Proofs.YtjjcnbfmmhokeaaW.PrintLast Go.Proofs.YtjjcnbfmmhokeaaW.PrintMore
set_option linter.all false
theorem sl_Clone_bool (A0 : Option Addr) (c0 : Nat) (l0 : List Bool) (w : World) (hr0 : Kd.C Kd.bool w A0 l0.length l0) (hc0 : l0.length ≤ c0) (hl : l0.length < 1000000) :
  Calls Try.prog 26 #[.slice A0 l0.length c0] w fun e w' => ∃ v0_ : Value, e = .returned (v0_) ∧ Kd.R Kd.bool 4 w' w.heap.size (fun _ => True) v0_ l0 ∧ Below w.heap.size w w' := by
 have HR0 := Aside0.mk hr0
 have HL := Aside0.mk hl
 clear hr0 hl
 cases A0 with
 | none =>
  obtain rfl : l0 = [] := by
   rcases Nat.eq_zero_or_pos l0.length with h | h
   ·exact List.eq_nil_of_length_eq_zero h
   ·obtain ⟨ad, e, _⟩ := HR0.out.2.2 h
    cases e
  have he : ∀ w : World, (binOp .eql 49 (.slice none 0 c0) (.slice none 0 0)).run Try.prog w = .ok (.bool true) w := fun w => Lib.run_eql_slice_nil (P := Try.prog) w 49 4 none 0 c0 0 0 Try.underlying49
  go_enter Try.func26, Try.ntmps26
  go_wp2
  go_ret
  exact ⟨_, rfl, Kd.R_nil _ _ _ _ _, Below.refl _ _⟩
 | some ad =>
  have he : ∀ w : World, (binOp .eql 49 (.slice (some ad) l0.length c0) (.slice none 0 0)).run Try.prog w = .ok (.bool false) w := fun w => Lib.run_eql_slice_nil (P := Try.prog) w 49 4 (some ad) l0.length c0 0 0 Try.underlying49
  go_enter Try.func26, Try.ntmps26
  go_wp2_with (first | ((with_reducible refine gate_dst (N := 5) rfl ?_); refine Kd.R_lit Kd.bool _ 4 ?hg (N := 5) ?hd (xs := ([] : List Bool)) (inner := []) (ok := fun _ => True) (okp := fun _ => True) ?hr ?hp (fun _ hk => hk) trivial (Below.refl _ _) (Nat.le_refl _) (by simp) ?_; (case hd => rfl); (case hg => rfl); (case hr => first | (go_simp; done) | (go_simp; rfl)); (case hp => exact (Reps.none _ _)); intro v5 w5 ho5 hb5 hg_ hnew_; clear hg_ hnew_; have HO5 := Aside0.mk ho5; have HB5 := Aside0.mk hb5; clear ho5 hb5) | ((with_reducible refine gate_builtin (b := .append) (xs := #[.tmp 5, .tmp 6]) rfl ?_); at_builtin; refine Kd.R_append_rows Kd.bool (w0 := w) w.heap.size rfl (.tmp 5) (.tmp 6) 49 4 (.bool false) 1 rfl Try.underlying49 info4 rfl (by decide) (by omega) v5 ([] : List Bool) l0 _ _ _ (fun _ => True) (fun _ => False) rfl rfl ?aO ?aR (fun _ _ h => h) (fun _ h => h.elim) ?aF ?aB ?aS ?aL ?_; (case aR => exact Kd.C_below HR0.out HB5.out); (case aB => exact HB5.out); (case aF => exact (fun _ _ => trivial)); (case aO => exact HO5.out); (case aS => exact (below_size HB5.out)); (case aL => have := HL.out; simp; omega); intro v7 w7 ho hb hg hat; rw [List.nil_append] at ho; have HO7 := Aside0.mk ho; have HB7 := Aside0.mk hb; clear ho hb hg hat))
  go_ret
  exact ⟨_, rfl, HO7.out, HB7.out⟩
def slices_Clone_bool_bool.f (l0 : List Bool) : Option (List Bool) := if l0.length < 1000000 then some l0 else none
theorem slices_Clone_bool_bool.calls (A0 : Option Addr) (c0 : Nat) (l0 : List Bool) (r : List Bool) (w : World) (hr0 : Kd.C Kd.bool w A0 l0.length l0) (hc0 : l0.length ≤ c0) (h : slices_Clone_bool_bool.f l0 = some r) :
  Calls Try.prog 26 #[.slice A0 l0.length c0] w fun e w' => ∃ v0_ : Value, e = .returned (v0_) ∧ Kd.R Kd.bool 4 w' w.heap.size (fun _ => True) v0_ r ∧ Below w.heap.size w w' := by
 unfold slices_Clone_bool_bool.f at h
 by_cases hl : l0.length < 1000000
 ·rw [if_pos hl] at h
  obtain rfl := Option.some.inj h
  exact sl_Clone_bool A0 c0 l0 w hr0 hc0 hl
 ·rw [if_neg hl] at h; cases h
end Go.Proofs.Ytjjcnbfmmhokeaa.X
namespace Go.Proofs.Ytjjcnbfmmhokeaa.X
open Go.RowKit Go.Proofs.YtjjcnbfmmhokeaaW.PrintWords Go.Proofs.YtjjcnbfmmhokeaaW.PrintLast Go.Proofs.YtjjcnbfmmhokeaaW.PrintMore
attribute [local go_sem] max2_int min2_int max_two min_two max_three min_three max_four min_four
set_option linter.all false
noncomputable section
def calls_Used.f (k : Nat) (l0_0 : List (S33)) : Option (List Bool) := if (l0_0.length : Int) = 0 then (some ([] : List Bool)) else ((calls_table.f k l0_0).bind fun t174 => (if 0 < (t174.length : Int) then ((slices_Clone_bool_bool.f (rd_L15 t174 0)).bind fun t178 => (if 0 < (t178.length : Int) then (some (t178.set (0 : Int).toNat true)) else (none))) else (none)))
theorem calls_Used.mono : ∀ a0 k, LeO (calls_Used.f k a0) (calls_Used.f (k + 1) a0) := by
 intro a0 k
 unfold calls_Used.f
 repeat' first
   | (with_reducible exact calls_table.mono _ _)
   | (with_reducible exact LeO.refl _)
   | (with_reducible exact LeO.none _)
   | (with_reducible refine LeO.ite ?_ ?_)
   | (with_reducible refine LeO.bind ?_ (fun _ => ?_))
   | exact calls_table.mono _ _
   | exact LeO.none _
   | refine LeO.ite ?_ ?_
   | refine LeO.bind ?_ (fun _ => ?_)
set_option maxHeartbeats 8000000 in
set_option maxRecDepth 100000 in
theorem calls_Used.calls (k : Nat) (A0_0 : Option Addr) (c0_0 : Nat) (l0_0 : List (S33)) (r : List Bool) (w : World) (hr0_0 : Kd.C k33 w A0_0 l0_0.length l0_0) (hc0_0 : l0_0.length ≤ c0_0) (h : calls_Used.f k l0_0 = some r) :
  Calls Try.prog 15 #[.agg #[.slice A0_0 l0_0.length c0_0]] w fun e w' => ∃ v0_ : Value, e = .returned (v0_) ∧ Kd.R Kd.bool 4 w' w.heap.size (fun _ => True) v0_ r ∧ Below w.heap.size w w' := by
 have hu24 := Try.underlying24
 have HR0_0 := Aside0.mk hr0_0
 have HC0_0 := Aside0.mk hc0_0
 clear hr0_0 hc0_0
 have HB := Aside0.mk (Below.refl w.heap.size w)
 have H : (if (l0_0.length : Int) = 0 then (some ([] : List Bool)) else ((calls_table.f k l0_0).bind fun t174 => (if 0 < (t174.length : Int) then ((slices_Clone_bool_bool.f (rd_L15 t174 0)).bind fun t178 => (if 0 < (t178.length : Int) then (some (t178.set (0 : Int).toNat true)) else (none))) else (none)))) = some r := h
 clear h
 by_cases c2 : (l0_0.length : Int) = 0
 ·rw [if_pos c2] at H
  have c2b0 : ((l0_0.length : Int) == 0) = true := beq_iff_eq.mpr c2
  have c2b1 : ((l0_0.length : Int) != 0) = false := bne_eq_false_iff_eq.mpr c2
  clear c2
  obtain rfl := Option.some.inj H
  go_enter Try.func15, Try.ntmps15
  go_wp2_with (first | ((with_reducible refine gate_dst (N := 1) rfl ?_); refine box_event ?hg (N := 1) ?hd (cs := #[.slice A0_0 l0_0.length c0_0]) (t := 24) ?hr ?_; (case hd => rfl); (case hg => rfl); (case hr => first | (go_simp; done) | (go_simp; rfl)); intro gb173 hg w3 hbox hb; have n0_ := Aside0.mk (below_step (by repeat (first | (with_reducible first | exact HB.out | apply below_alloc | apply pw_below_drewN | apply below_drew1) | exact HB.out)) hb); have n1_ := Aside0.mk (hbox); have n2_ := Aside0.mk ((by rw [hg]; exact (below_size (by repeat (first | (with_reducible first | exact HB.out | apply below_alloc | apply pw_below_drewN | apply below_drew1) | exact HB.out))) : w.heap.size ≤ gb173)); have n3_ := Aside0.mk ((by rw [hg]; exact (below_size (by repeat (first | (with_reducible first | exact HB.out | apply below_alloc | apply pw_below_drewN | apply below_drew1) | exact HB.out))) : w.heap.size ≤ gb173)); clear HB; have HB := n0_; have BK173 := n1_; have GW173 := n2_; have GE173 := n3_; clear n0_ n1_ n2_ n3_; clear hb hbox hg; have hcz4_0 : w3.cell? ⟨gb173, 0, none⟩ = some (.slice A0_0 l0_0.length c0_0) := (blk_cell BK173.out 0).trans rfl; have hfz4_0 := blk_frozen BK173.out 0))
  go_ret
  exact ⟨_, by first | rfl | (simp [errW_none, errW_some] <;> rfl) | (simp [*, errW_none, errW_some] <;> rfl), by first | exact Kd.R_nil _ _ _ _ _ | exact Kd.N_nil _ _ _ _ _ | exact Kd.V_nil _ _ _ _ _ | exact Kd.Q_nil _ _ _ _ _ | exact Kd.S_nil _ _ _ _ _, by repeat (first | (with_reducible first | exact HB.out | apply below_alloc | apply pw_below_drewN | apply below_drew1 | refine below_set ?_ GE173.out) | exact HB.out)⟩
 ·rw [if_neg c2] at H
  have c2b0 : ((l0_0.length : Int) == 0) = false := beq_eq_false_iff_ne.mpr c2
  have c2b1 : ((l0_0.length : Int) != 0) = true := bne_iff_ne.mpr c2
  have c2b2 : ¬ (l0_0 = []) := fun h_ => c2 (by rw [h_]; rfl)
  replace H := Option.bind_eq_some_iff.mp H
  obtain ⟨t174, A50, H⟩ := H
  replace H : (if 0 < (t174.length : Int) then ((slices_Clone_bool_bool.f (rd_L15 t174 0)).bind fun t178 => (if 0 < (t178.length : Int) then (some (t178.set (0 : Int).toNat true)) else (none))) else (none)) = some r := H
  have A5 := Aside0.mk A50
  clear A50
  by_cases c6 : 0 < (t174.length : Int)
  ·rw [if_pos c6] at H
   have c6b0 : decide (0 < (t174.length : Int)) = true := decide_eq_true c6
   have c6b1 : decide (0 < t174.length) = true := decide_eq_true (by omega)
   clear c6
   replace H := Option.bind_eq_some_iff.mp H
   obtain ⟨t178, A70, H⟩ := H
   replace H : (if 0 < (t178.length : Int) then (some (t178.set (0 : Int).toNat true)) else (none)) = some r := H
   have A7 := Aside0.mk A70
   clear A70
   by_cases c8 : 0 < (t178.length : Int)
   ·rw [if_pos c8] at H
    have c8b0 : decide (0 < (t178.length : Int)) = true := decide_eq_true c8
    have c8b1 : decide (0 < t178.length) = true := decide_eq_true (by omega)
    clear c8
    obtain ⟨y181, hy181⟩ : ∃ y_ : List Bool, y_ = (t178.set (0 : Int).toNat true) := ⟨_, rfl⟩
    replace H : (some y181) = some r := by first | (rw [hy181]; with_reducible exact H) | (have H2_ := (Option.bind_some _ _).symm.trans H; rw [hy181]; with_reducible exact H2_) | (have H2_ := (Option.bind_some _ _).symm.trans H; with_reducible exact H2_) | with_reducible exact H | (rw [hy181]; exact H) | exact H
    have Ny181 := Aside0.mk hy181
    clear hy181
    obtain rfl := Option.some.inj H
    go_enter Try.func15, Try.ntmps15
    go_wp2_with (first | ((with_reducible refine gate_dst (N := 1) rfl ?_); refine box_event ?hg (N := 1) ?hd (cs := #[.slice A0_0 l0_0.length c0_0]) (t := 24) ?hr ?_; (case hd => rfl); (case hg => rfl); (case hr => first | (go_simp; done) | (go_simp; rfl)); intro gb173 hg w10 hbox hb; have n0_ := Aside0.mk (below_step (by repeat (first | (with_reducible first | exact HB.out | apply below_alloc | apply pw_below_drewN | apply below_drew1) | exact HB.out)) hb); have n1_ := Aside0.mk (hbox); have n2_ := Aside0.mk ((by rw [hg]; exact (below_size (by repeat (first | (with_reducible first | exact HB.out | apply below_alloc | apply pw_below_drewN | apply below_drew1) | exact HB.out))) : w.heap.size ≤ gb173)); have n3_ := Aside0.mk ((by rw [hg]; exact (below_size (by repeat (first | (with_reducible first | exact HB.out | apply below_alloc | apply pw_below_drewN | apply below_drew1) | exact HB.out))) : w.heap.size ≤ gb173)); clear HB; have HB := n0_; have BK173 := n1_; have GW173 := n2_; have GE173 := n3_; clear n0_ n1_ n2_ n3_; clear hb hbox hg; have hcz11_0 : w10.cell? ⟨gb173, 0, none⟩ = some (.slice A0_0 l0_0.length c0_0) := (blk_cell BK173.out 0).trans rfl; have hfz11_0 := blk_frozen BK173.out 0) | ((with_reducible refine gate_callee (f := 18) rfl ?_); refine goesL_ (some 9) rfl rfl Try.func18 (by kernel_rfl) rfl #[.agg #[.slice A0_0 l0_0.length c0_0]] rfl (by (try simp only [List.map_toArray, List.map_cons, List.map_nil]); first | done | rfl | (simp only [List.length_drop, List.length_take]; rfl)) ?_; (with_reducible refine (calls_table.calls k _ _ l0_0 t174 _ ?side1 ?side2 A5.out).mono ?_); (case side1 => repeat (first | exact (Kd.C_below HR0_0.out HB.out) | (with_reducible refine Kd.C_alloc ?_ _) | (with_reducible refine Kd.C_drewN ?_ _) | (with_reducible refine Kd.C_drew ?_))); (case side2 => exact HC0_0.out); rintro e w12 ⟨v175, rfl, ho0, hb⟩; refine ⟨_, rfl, ?_⟩; have n0_ := Aside0.mk (Kd.S_lower ho0 (below_size (by repeat (first | (with_reducible first | exact HB.out | apply below_alloc | apply pw_below_drewN | apply below_drew1 | refine below_set ?_ GE173.out) | exact HB.out)))); have n1_ := Aside0.mk (blk_below (g := gb173) (o := .cells #[.slice A0_0 l0_0.length c0_0] 24 (0, 0)) (by (with_reducible repeat (first | refine blk_drewN ?_ _ | refine blk_drew ?_ | refine blk_alloc ?_ _)); exact BK173.out) hb); have n2_ := Aside0.mk (below_step (by repeat (first | (with_reducible first | exact HB.out | apply below_alloc | apply pw_below_drewN | apply below_drew1 | refine below_set ?_ GE173.out) | exact HB.out)) hb); clear BK173; clear HB; have HO176 := n0_; have BK173 := n1_; have HB := n2_; clear n0_ n1_ n2_; (try clear hb); (try clear hb2); (try clear hk); (try clear hi); (try clear ho0); obtain ⟨Ao13, co13, eo13⟩ := Kd.S_slice HO176.out; subst eo13; have p177 : 0 ≤ (0 : Int) := (by omega); have q177 : 0 < (t174.length : Int) := of_decide_eq_true (by first | (with_reducible assumption) | assumption); obtain ⟨ad177, A177_0, c177_0, e177, hx177_0, hl177_0, hi177_0⟩ := at_L15 (Kd.S_reads' HO176.out).2.2 0 p177 q177; cases e177; obtain ⟨ce177, hce177, hMe177, hcc177⟩ := Kd.S_get HO176.out [] 0 p177 (by first | exact q177 | exact of_decide_eq_true (by first | (with_reducible assumption) | assumption) | (have e_ := (Kd.S_reads' HO176.out).1; omega)); obtain ⟨ve177_0, rfl, ge177_0⟩ := hMe177; have hv177_0 := hcc177 0 _ rfl; rw [Nat.add_zero, show ((Kd.slice 4 Kd.bool)).sz = 1 from rfl, Nat.mul_one] at hv177_0; replace hv177_0 := Option.some.inj (hv177_0.symm.trans hx177_0); rw [hv177_0] at ge177_0; have HL177_0 := Aside0.mk (show Kd.R Kd.bool 4 _ _ _ _ (rd_L15 t174 0) from ge177_0); clear hv177_0 ge177_0; clear hcc177 hce177; have qi177 : (0 < t174.length) = True := eq_true (by omega); (try rw [show ((0 : Int)).toNat = 0 from rfl] at hx177_0); (try rw [Addr.add_zero'] at hx177_0); have HR177_0 := Aside0.mk hi177_0; have HC177_0 := Aside0.mk hl177_0; clear hi177_0 hl177_0; replace p177 := eq_true p177; replace q177 := eq_true q177) | ((with_reducible refine gate_callee (f := 26) rfl ?_); refine goesL_ (some 12) rfl rfl Try.func26 (by kernel_rfl) rfl #[.slice A177_0 (rd_L15 t174 0).length c177_0] rfl (by (try simp only [List.map_toArray, List.map_cons, List.map_nil]); first | done | rfl | (simp only [List.length_drop, List.length_take]; rfl)) ?_; (with_reducible refine (slices_Clone_bool_bool.calls _ _ (rd_L15 t174 0) t178 _ ?side1 ?side2 A7.out).mono ?_); (case side1 => repeat (first | exact (by repeat (first | (with_reducible exact HR177_0.out) | (with_reducible refine Kd.C_alloc ?_ _) | (with_reducible refine Kd.C_drewN ?_ _) | (with_reducible refine Kd.C_drew ?_) | exact HR177_0.out)) | (with_reducible refine Kd.C_alloc ?_ _) | (with_reducible refine Kd.C_drewN ?_ _) | (with_reducible refine Kd.C_drew ?_))); (case side2 => exact HC177_0.out); rintro e w14 ⟨v179, rfl, ho0, hb⟩; refine ⟨_, rfl, ?_⟩; have n0_ := Aside0.mk (Kd.S_elder' (by (with_reducible repeat (first | apply Kd.S_alloc | apply Kd.S_drewN | apply Kd.S_drew)); exact HO176.out) (Kd.R_base ho0) hb); have n1_ := Aside0.mk (Kd.R_elder' (by (with_reducible repeat (first | apply Kd.R_alloc | apply Kd.R_drewN | apply Kd.R_drew)); exact HL177_0.out) (Kd.R_base ho0) hb); have n2_ := Aside0.mk (Kd.R_lower (Kd.R_new' ho0 (Kd.R_lt (by (with_reducible repeat (first | apply Kd.R_alloc | apply Kd.R_drewN | apply Kd.R_drew)); exact HL177_0.out))) (below_size (by repeat (first | (with_reducible first | exact HB.out | apply below_alloc | apply pw_below_drewN | apply below_drew1 | refine below_set ?_ GE173.out) | exact HB.out)))); have n3_ := Aside0.mk (blk_below (g := gb173) (o := .cells #[.slice A0_0 l0_0.length c0_0] 24 (0, 0)) (by (with_reducible repeat (first | refine blk_drewN ?_ _ | refine blk_drew ?_ | refine blk_alloc ?_ _)); exact BK173.out) hb); have n4_ := Aside0.mk (Kd.C_below (by repeat (first | (with_reducible exact HR177_0.out) | (with_reducible refine Kd.C_alloc ?_ _) | (with_reducible refine Kd.C_drewN ?_ _) | (with_reducible refine Kd.C_drew ?_) | exact HR177_0.out)) hb); have n5_ := Aside0.mk (below_step (by repeat (first | (with_reducible first | exact HB.out | apply below_alloc | apply pw_below_drewN | apply below_drew1 | refine below_set ?_ GE173.out) | exact HB.out)) hb); clear HO176; clear HL177_0; clear BK173; clear HR177_0; clear HB; have HO176 := n0_; have HL177_0 := n1_; have HO180 := n2_; have BK173 := n3_; have HR177_0 := n4_; have HB := n5_; clear n0_ n1_ n2_ n3_ n4_ n5_; (try clear hb); (try clear hb2); (try clear hk); (try clear hi); (try clear ho0); have p9 : 0 ≤ (0 : Int) := (by omega); have q9 : (0 : Int) < ((t178.length : Int) : Int) := of_decide_eq_true (by first | (with_reducible assumption) | assumption); have qi9 : (0 < t178.length) = True := eq_true (by omega); obtain ⟨go9, co9, eo9, gb9, gl9, cl9, HG9⟩ := Kd.R_form HO180.out (by omega); (first | cases eo9 | (injection eo9 with ea_ en_ ec_; (first | subst ea_ | (injection ea_ with ea_; subst ea_)); subst ec_; clear en_)); have GB9 := Aside0.mk gb9; have GG9 := Aside0.mk HG9; clear gb9 gl9 HG9; obtain ⟨hx9_0, hf9_0⟩ := Kd.R_celln false HO180.out (0 : Int) p9 q9; (try rw [show ((0 : Int)).toNat = 0 from rfl] at hx9_0); (try simp only [Nat.reduceMul, Nat.zero_mul, Nat.zero_add, Nat.reduceAdd] at hx9_0); (try rw [show ((0 : Int)).toNat = 0 from rfl] at hf9_0); (try simp only [Nat.reduceMul, Nat.zero_mul, Nat.zero_add, Nat.reduceAdd] at hf9_0); replace p9 := eq_true p9; replace q9 := eq_true q9; have n_ := Aside0.mk (Kd.R_mono (ok' := (fun k_ => some k_ ≠ (.slice A177_0 (rd_L15 t174 0).length c177_0 : Value).ownBlock)) HO180.out (fun k_ hk => hk.2)); clear HO180; have HO180 := n_; clear n_; obtain ⟨hy15_, hz15_⟩ := Kd.R_celln false HO180.out (0 : Int) (by omega) (of_decide_eq_true (by first | (with_reducible assumption) | assumption)); (try simp only [Int.reduceToNat, Int.toNat_zero, Int.toNat_ofNat, Nat.reduceMul, Nat.zero_mul, Nat.zero_add] at hy15_ hz15_); (try rw [show ((0 : Int)).toNat = 0 from rfl] at hy15_); (try rw [show ((0 : Int)).toNat = 0 from rfl] at hz15_); have HP15 := Kd.R_putg HO180.out (0 : Int) true) | ((with_reducible refine gate_store (t := 4) (p := 14) rfl ?_); refine store_event (t := 4) (p := 14) (v := ?vo_w16) (w1 := (w14.setCell ⟨go9, (0 : Int).toNat, none⟩ (.bool true))) ?hg ?ho ?hn ?hr ?_; (case ho => rfl); (case hg => rfl); (case hn => rfl); (case hr => first | (go_simp; done) | (go_simp; rfl)); intro w16 hw; have hg : w14.grownBy w16 (some go9) := (by rw [hw]; exact HP15.2); have hp_ : Kd.R Kd.bool 4 w16 w.heap.size (fun k_ => some k_ ≠ (.slice A177_0 (rd_L15 t174 0).length c177_0 : Value).ownBlock) (.slice (some ⟨go9, 0, none⟩) t178.length co9) y181 := (by rw [hw, Ny181.out]; exact HP15.1); clear HP15; have n0_ := Aside0.mk (blk_grown (g := gb173) (o := .cells #[.slice A0_0 l0_0.length c0_0] 24 (0, 0)) (by (with_reducible repeat (first | refine blk_drewN ?_ _ | refine blk_drew ?_ | refine blk_alloc ?_ _)); exact BK173.out) hg (Kd.R_ne HO180.out BK173.out (by decide))); have n1_ := Aside0.mk (Kd.S_after (v := (.slice (some ⟨go9, 0, none⟩) t178.length co9)) (v1 := (.slice (some ⟨go9, 0, none⟩) t178.length co9)) (ok := (fun _ => True)) (by (with_reducible repeat (first | apply Kd.S_alloc | apply Kd.S_drewN | apply Kd.S_drew)); exact HO176.out) hg (.inl rfl)); have n2_ := Aside0.mk (Kd.R_after (v := (.slice (some ⟨go9, 0, none⟩) t178.length co9)) (v1 := (.slice (some ⟨go9, 0, none⟩) t178.length co9)) (ok := (fun k_ => some k_ ≠ (.slice (some ad177) t174.length co13 : Value).ownBlock)) (by (with_reducible repeat (first | apply Kd.R_alloc | apply Kd.R_drewN | apply Kd.R_drew)); exact Kd.R_mono HL177_0.out (fun _ hk => ⟨hk.1.2, hk.2⟩)) hg (.inl rfl)); have n3_ := Aside0.mk (hp_); have n4_ := Aside0.mk ((by rw [hw]; exact below_set (HB.out) GB9.out : Below w.heap.size w w16)); clear BK173; clear HO176; clear HL177_0; clear HO180; clear HB; have BK173 := n0_; have HO176 := n1_; have HL177_0 := n2_; have HO180 := n3_; have HB := n4_; clear n0_ n1_ n2_ n3_ n4_; clear hg hw hp_))
    go_ret
    exact ⟨_, by first | rfl | (simp [errW_none, errW_some] <;> rfl) | (simp [*, errW_none, errW_some] <;> rfl), by (with_reducible repeat (first | apply Kd.R_alloc | apply Kd.R_drewN | apply Kd.R_drew)); exact Kd.R_mono HO180.out (fun _ hk => trivial), by repeat (first | (with_reducible first | exact HB.out | apply below_alloc | apply pw_below_drewN | apply below_drew1 | refine below_set ?_ GE173.out) | exact HB.out)⟩
   ·rw [if_neg c8] at H
    exact absurd H (by simp)
  ·rw [if_neg c6] at H
   exact absurd H (by simp)
end
end Go.Proofs.Ytjjcnbfmmhokeaa.X
namespace Go.Proofs.Ytjjcnbfmmhokeaa.X
open Go.RowKit Go.Proofs.YtjjcnbfmmhokeaaW.PrintWords Go.Proofs.YtjjcnbfmmhokeaaW.PrintLast Go.Proofs.YtjjcnbfmmhokeaaW.PrintMore
attribute [local go_sem] max2_int min2_int max_two min_two max_three min_three max_four min_four
set_option linter.all false
noncomputable section
mutual
def davitref11_Groups.l0 : Nat → List (List Int) → Int → List (S33) → Option ((List (List Int)))
 | 0, _, _, _ => none
 | k + 1, x3, x4, x183000 => if x4 < (x183000.length : Int) then ((davitref11_To.f k x183000 x4).bind fun t183 => (if x3.length < 5864062014805 then (davitref11_Groups.l0 k (x3 ++ [t183]) (wrap64 (x4 + 1)) x183000) else (none))) else (davitref11_Groups.l1 k x3 ([] : List (List Int)) ([] : List Int))
def davitref11_Groups.l1 : Nat → List (List Int) → List (List Int) → List Int → Option ((List (List Int)))
 | 0, _, _, _ => none
 | k + 1, x3, x5, x6 => if (x6.length : Int) < (x3.length : Int) then (davitref11_Groups.l2 k x3 x5 x6 0) else (some x5)
def davitref11_Groups.l2 : Nat → List (List Int) → List (List Int) → List Int → Int → Option ((List (List Int)))
 | 0, _, _, _, _ => none
 | k + 1, x3, x5, x6, x7 => if x7 < (x3.length : Int) then ((davitref07_Has.f k x6 x7).bind fun t189 => (if t189 = true then (davitref11_Groups.l2 k x3 x5 x6 (wrap64 (x7 + 1))) else (davitref11_Groups.l3 k x3 x5 x6 x7 ([] : List Int) true 0))) else (davitref11_Groups.l1 k x3 x5 x6)
def davitref11_Groups.l3 : Nat → List (List Int) → List (List Int) → List Int → Int → List Int → Bool → Int → Option ((List (List Int)))
 | 0, _, _, _, _, _, _, _ => none
 | k + 1, x3, x5, x6, x7, x8, x9, x10 => if x10 < (x3.length : Int) then (if 0 ≤ x10 then ((davitref07_Has.f k (rd_L5 x3 x10) x7).bind fun t197 => (if x10 = x7 then (davitref11_Groups.j4 k x3 x5 x6 x7 x8 x9 x10 true) else (if 0 ≤ x7 then (if x7 < (x3.length : Int) then ((davitref07_Has.f k (rd_L5 x3 x7) x10).bind fun t199 => (if t199 = true then (davitref11_Groups.j4 k x3 x5 x6 x7 x8 x9 x10 t197) else (davitref11_Groups.j4 k x3 x5 x6 x7 x8 x9 x10 false))) else (none)) else (none)))) else (none)) else (if x9 = true then (if x5.length < 5864062014805 then (if x6.length + x8.length < 17592186044416 then (davitref11_Groups.l1 k x3 (x5 ++ [x8]) (x6 ++ x8)) else (none)) else (none)) else (davitref11_Groups.l2 k x3 x5 x6 (wrap64 (x7 + 1))))
def davitref11_Groups.j4 : Nat → List (List Int) → List (List Int) → List Int → Int → List Int → Bool → Int → Bool → Option ((List (List Int)))
 | 0, _, _, _, _, _, _, _, _ => none
 | k + 1, x3, x5, x6, x7, x8, x9, x10, x64 => if x64 = true then (if x8.length < 17592186044416 then (davitref11_Groups.l3 k x3 x5 x6 x7 (x8 ++ [x10]) x9 (wrap64 (x10 + 1))) else (none)) else (if 0 ≤ x7 then (if x7 < (x3.length : Int) then ((davitref07_Has.f k (rd_L5 x3 x7) x10).bind fun t204 => (if t204 = true then ((davitref07_Has.f k x6 x10).bind fun t205 => (if t205 = true then (davitref11_Groups.l3 k x3 x5 x6 x7 x8 x9 (wrap64 (x10 + 1))) else (davitref11_Groups.l3 k x3 x5 x6 x7 x8 false (wrap64 (x10 + 1))))) else (davitref11_Groups.l3 k x3 x5 x6 x7 x8 x9 (wrap64 (x10 + 1))))) else (none)) else (none))
end
def davitref11_Groups.f (k : Nat) (l0_0 : List (S33)) : Option ((List (List Int))) := davitref11_Groups.l0 k ([] : List (List Int)) 0 l0_0
theorem davitref11_Groups.mono_l : ∀ k, (∀ y0 y1 y2, LeO (davitref11_Groups.l0 k y0 y1 y2) (davitref11_Groups.l0 (k + 1) y0 y1 y2)) ∧ (∀ y0 y1 y2, LeO (davitref11_Groups.l1 k y0 y1 y2) (davitref11_Groups.l1 (k + 1) y0 y1 y2)) ∧ (∀ y0 y1 y2 y3, LeO (davitref11_Groups.l2 k y0 y1 y2 y3) (davitref11_Groups.l2 (k + 1) y0 y1 y2 y3)) ∧ (∀ y0 y1 y2 y3 y4 y5 y6, LeO (davitref11_Groups.l3 k y0 y1 y2 y3 y4 y5 y6) (davitref11_Groups.l3 (k + 1) y0 y1 y2 y3 y4 y5 y6)) ∧ (∀ y0 y1 y2 y3 y4 y5 y6 y7, LeO (davitref11_Groups.j4 k y0 y1 y2 y3 y4 y5 y6 y7) (davitref11_Groups.j4 (k + 1) y0 y1 y2 y3 y4 y5 y6 y7))
 | 0 => ⟨fun _ _ _ r h => by simp [davitref11_Groups.l0] at h, fun _ _ _ r h => by simp [davitref11_Groups.l1] at h, fun _ _ _ _ r h => by simp [davitref11_Groups.l2] at h, fun _ _ _ _ _ _ _ r h => by simp [davitref11_Groups.l3] at h, fun _ _ _ _ _ _ _ _ r h => by simp [davitref11_Groups.j4] at h⟩
 | k + 1 => by
  obtain ⟨ih0, ih1, ih2, ih3, ih4⟩ := davitref11_Groups.mono_l k
  refine ⟨?_, ?_, ?_, ?_, ?_⟩
  ·intro y0 y1 y2
   unfold davitref11_Groups.l0
   repeat' first
   | (with_reducible exact ih0 _ _ _)
   | (with_reducible exact ih1 _ _ _)
   | (with_reducible exact ih2 _ _ _ _)
   | (with_reducible exact ih3 _ _ _ _ _ _ _)
   | (with_reducible exact ih4 _ _ _ _ _ _ _ _)
   | (with_reducible exact davitref07_Has.mono _ _ _)
   | (with_reducible exact davitref11_To.mono _ _ _)
   | (with_reducible exact LeO.refl _)
   | (with_reducible exact LeO.none _)
   | (with_reducible refine LeO.ite ?_ ?_)
   | (with_reducible refine LeO.bind ?_ (fun _ => ?_))
   | exact ih0 _ _ _
   | exact ih1 _ _ _
   | exact ih2 _ _ _ _
   | exact ih3 _ _ _ _ _ _ _
   | exact ih4 _ _ _ _ _ _ _ _
   | exact davitref07_Has.mono _ _ _
   | exact davitref11_To.mono _ _ _
   | exact LeO.none _
   | refine LeO.ite ?_ ?_
   | refine LeO.bind ?_ (fun _ => ?_)
  ·intro y0 y1 y2
   unfold davitref11_Groups.l1
   repeat' first
   | (with_reducible exact ih0 _ _ _)
   | (with_reducible exact ih1 _ _ _)
   | (with_reducible exact ih2 _ _ _ _)
   | (with_reducible exact ih3 _ _ _ _ _ _ _)
   | (with_reducible exact ih4 _ _ _ _ _ _ _ _)
   | (with_reducible exact davitref07_Has.mono _ _ _)
   | (with_reducible exact davitref11_To.mono _ _ _)
   | (with_reducible exact LeO.refl _)
   | (with_reducible exact LeO.none _)
   | (with_reducible refine LeO.ite ?_ ?_)
   | (with_reducible refine LeO.bind ?_ (fun _ => ?_))
   | exact ih0 _ _ _
   | exact ih1 _ _ _
   | exact ih2 _ _ _ _
   | exact ih3 _ _ _ _ _ _ _
   | exact ih4 _ _ _ _ _ _ _ _
   | exact davitref07_Has.mono _ _ _
   | exact davitref11_To.mono _ _ _
   | exact LeO.none _
   | refine LeO.ite ?_ ?_
   | refine LeO.bind ?_ (fun _ => ?_)
  ·intro y0 y1 y2 y3
   unfold davitref11_Groups.l2
   repeat' first
   | (with_reducible exact ih0 _ _ _)
   | (with_reducible exact ih1 _ _ _)
   | (with_reducible exact ih2 _ _ _ _)
   | (with_reducible exact ih3 _ _ _ _ _ _ _)
   | (with_reducible exact ih4 _ _ _ _ _ _ _ _)
   | (with_reducible exact davitref07_Has.mono _ _ _)
   | (with_reducible exact davitref11_To.mono _ _ _)
   | (with_reducible exact LeO.refl _)
   | (with_reducible exact LeO.none _)
   | (with_reducible refine LeO.ite ?_ ?_)
   | (with_reducible refine LeO.bind ?_ (fun _ => ?_))
   | exact ih0 _ _ _
   | exact ih1 _ _ _
   | exact ih2 _ _ _ _
   | exact ih3 _ _ _ _ _ _ _
   | exact ih4 _ _ _ _ _ _ _ _
   | exact davitref07_Has.mono _ _ _
   | exact davitref11_To.mono _ _ _
   | exact LeO.none _
   | refine LeO.ite ?_ ?_
   | refine LeO.bind ?_ (fun _ => ?_)
  ·intro y0 y1 y2 y3 y4 y5 y6
   unfold davitref11_Groups.l3
   repeat' first
   | (with_reducible exact ih0 _ _ _)
   | (with_reducible exact ih1 _ _ _)
   | (with_reducible exact ih2 _ _ _ _)
   | (with_reducible exact ih3 _ _ _ _ _ _ _)
   | (with_reducible exact ih4 _ _ _ _ _ _ _ _)
   | (with_reducible exact davitref07_Has.mono _ _ _)
   | (with_reducible exact davitref11_To.mono _ _ _)
   | (with_reducible exact LeO.refl _)
   | (with_reducible exact LeO.none _)
   | (with_reducible refine LeO.ite ?_ ?_)
   | (with_reducible refine LeO.bind ?_ (fun _ => ?_))
   | exact ih0 _ _ _
   | exact ih1 _ _ _
   | exact ih2 _ _ _ _
   | exact ih3 _ _ _ _ _ _ _
   | exact ih4 _ _ _ _ _ _ _ _
   | exact davitref07_Has.mono _ _ _
   | exact davitref11_To.mono _ _ _
   | exact LeO.none _
   | refine LeO.ite ?_ ?_
   | refine LeO.bind ?_ (fun _ => ?_)
  ·intro y0 y1 y2 y3 y4 y5 y6 y7
   unfold davitref11_Groups.j4
   repeat' first
   | (with_reducible exact ih0 _ _ _)
   | (with_reducible exact ih1 _ _ _)
   | (with_reducible exact ih2 _ _ _ _)
   | (with_reducible exact ih3 _ _ _ _ _ _ _)
   | (with_reducible exact ih4 _ _ _ _ _ _ _ _)
   | (with_reducible exact davitref07_Has.mono _ _ _)
   | (with_reducible exact davitref11_To.mono _ _ _)
   | (with_reducible exact LeO.refl _)
   | (with_reducible exact LeO.none _)
   | (with_reducible refine LeO.ite ?_ ?_)
   | (with_reducible refine LeO.bind ?_ (fun _ => ?_))
   | exact ih0 _ _ _
   | exact ih1 _ _ _
   | exact ih2 _ _ _ _
   | exact ih3 _ _ _ _ _ _ _
   | exact ih4 _ _ _ _ _ _ _ _
   | exact davitref07_Has.mono _ _ _
   | exact davitref11_To.mono _ _ _
   | exact LeO.none _
   | refine LeO.ite ?_ ?_
   | refine LeO.bind ?_ (fun _ => ?_)
theorem davitref11_Groups.mono : ∀ a0 k, LeO (davitref11_Groups.f k a0) (davitref11_Groups.f (k + 1) a0) := by
 intro a0 k
 obtain ⟨ih0, ih1, ih2, ih3, ih4⟩ := davitref11_Groups.mono_l k
 unfold davitref11_Groups.f
 repeat' first
   | (with_reducible exact ih0 _ _ _)
   | (with_reducible exact ih1 _ _ _)
   | (with_reducible exact ih2 _ _ _ _)
   | (with_reducible exact ih3 _ _ _ _ _ _ _)
   | (with_reducible exact ih4 _ _ _ _ _ _ _ _)
   | (with_reducible exact davitref07_Has.mono _ _ _)
   | (with_reducible exact davitref11_To.mono _ _ _)
   | (with_reducible exact LeO.refl _)
   | (with_reducible exact LeO.none _)
   | (with_reducible refine LeO.ite ?_ ?_)
   | (with_reducible refine LeO.bind ?_ (fun _ => ?_))
   | exact ih0 _ _ _
   | exact ih1 _ _ _
   | exact ih2 _ _ _ _
   | exact ih3 _ _ _ _ _ _ _
   | exact ih4 _ _ _ _ _ _ _ _
   | exact davitref07_Has.mono _ _ _
   | exact davitref11_To.mono _ _ _
   | exact LeO.none _
   | refine LeO.ite ?_ ?_
   | refine LeO.bind ?_ (fun _ => ?_)
set_option maxHeartbeats 8000000 in
set_option maxRecDepth 100000 in
theorem davitref11_Groups.calls (k : Nat) (A0_0 : Option Addr) (c0_0 : Nat) (l0_0 : List (S33)) (r : List (List Int)) (w : World) (hr0_0 : Kd.C k33 w A0_0 l0_0.length l0_0) (hc0_0 : l0_0.length ≤ c0_0) (h : davitref11_Groups.f k l0_0 = some r) :
  Calls Try.prog 16 #[.agg #[.slice A0_0 l0_0.length c0_0]] w fun e w' => ∃ v0_ : Value, e = .returned (v0_) ∧ Kd.S (Kd.slice 3 (Kd.int .i64)) 29 w' w.heap.size (fun _ => True) v0_ r ∧ Below w.heap.size w w' := by
 have hu24 := Try.underlying24
 have HR0_0 := Aside0.mk hr0_0
 have HC0_0 := Aside0.mk hc0_0
 clear hr0_0 hc0_0
 have HB := Aside0.mk (Below.refl w.heap.size w)
 have H : (davitref11_Groups.l0 k ([] : List (List Int)) 0 l0_0) = some r := h
 clear h
 have H' := Aside0.mk H
 clear H
 go_enter Try.func16, Try.ntmps16
 go_wp2_with (first | ((with_reducible refine gate_dst (N := 1) rfl ?_); refine box_event ?hg (N := 1) ?hd (cs := #[.slice A0_0 l0_0.length c0_0]) (t := 24) ?hr ?_; (case hd => rfl); (case hg => rfl); (case hr => first | (go_simp; done) | (go_simp; rfl)); intro gb182 hg w2 hbox hb; have n0_ := Aside0.mk (below_step (by repeat (first | (with_reducible first | exact HB.out | apply below_alloc | apply pw_below_drewN | apply below_drew1) | exact HB.out)) hb); have n1_ := Aside0.mk (hbox); have n2_ := Aside0.mk ((by rw [hg]; exact (below_size (by repeat (first | (with_reducible first | exact HB.out | apply below_alloc | apply pw_below_drewN | apply below_drew1) | exact HB.out))) : w.heap.size ≤ gb182)); have n3_ := Aside0.mk ((by rw [hg]; exact (below_size (by repeat (first | (with_reducible first | exact HB.out | apply below_alloc | apply pw_below_drewN | apply below_drew1) | exact HB.out))) : w.heap.size ≤ gb182)); clear HB; have HB := n0_; have BK182 := n1_; have GW182 := n2_; have GE182 := n3_; clear n0_ n1_ n2_ n3_; clear hb hbox hg))
 go_loopg [3, 4] k (fun kq v3 v4 w' => ∃ (x3_1 : List (List Int)) (x4_1 : Int), v4 = .int .i64 x4_1 ∧ Aside0 (davitref11_Groups.l0 kq x3_1 x4_1 l0_0 = some r) ∧ Aside0 (kq ≤ k) ∧ Aside0 (Kd.S (Kd.slice 3 (Kd.int .i64)) 29 w' w.heap.size (fun _ => True) v3 x3_1) ∧ Aside0 (w'.heap[gb182]? = some (.cells #[(.slice A0_0 l0_0.length c0_0)] 24 (0, 0))) ∧ Aside0 (Below w.heap.size w w'))
 case atStart => exact ⟨(([] : List (List Int))), (0), (by first | rfl | (simp; done) | (simp [*]; done)), H', ⟨Nat.le_refl _⟩, ⟨by first | exact Kd.S_nil _ _ _ _ _ | exact Kd.N_nil _ _ _ _ _ | exact Kd.V_nil _ _ _ _ _ | exact Kd.Q_nil _ _ _ _ _ | exact Kd.R_nil _ _ _ _ _⟩, ⟨by (with_reducible repeat (first | refine blk_drewN ?_ _ | refine blk_drew ?_ | refine blk_alloc ?_ _)); exact BK182.out⟩, ⟨by repeat (first | (with_reducible first | exact HB.out | apply below_alloc | apply pw_below_drewN | apply below_drew1 | refine below_set ?_ GE182.out) | exact HB.out)⟩⟩
 case round =>
  clear H'
  try clear c1
  try clear p2
  obtain ⟨x3_1, x4_1, rfl, HA, HK1, HO_3, BK182, HB⟩ := hrel
  cases gk with
  | zero => exact absurd HA.out (by simp [davitref11_Groups.l0])
  | succ k1 =>
   have H := HA.out
   clear HA
   simp only [davitref11_Groups.l0] at H
   by_cases c3 : x4_1 < (l0_0.length : Int)
   ·rw [if_pos c3] at H
    have c3b0 : decide (x4_1 < (l0_0.length : Int)) = true := decide_eq_true c3
    clear c3
    replace H := Option.bind_eq_some_iff.mp H
    obtain ⟨t183, A40, H⟩ := H
    replace H : (if x3_1.length < 5864062014805 then (davitref11_Groups.l0 k1 (x3_1 ++ [t183]) (wrap64 (x4_1 + 1)) l0_0) else (none)) = some r := H
    have A4 := Aside0.mk A40
    clear A40
    by_cases c5 : x3_1.length < 5864062014805
    ·rw [if_pos c5] at H
     have LMc5 := Aside0.mk c5
     clear c5
     obtain ⟨y186, hy186⟩ : ∃ y_ : List (List Int), y_ = (x3_1 ++ [t183]) := ⟨_, rfl⟩
     replace H : (davitref11_Groups.l0 k1 y186 (wrap64 (x4_1 + 1)) l0_0) = some r := by first | (rw [hy186]; with_reducible exact H) | (have H2_ := (Option.bind_some _ _).symm.trans H; rw [hy186]; with_reducible exact H2_) | (have H2_ := (Option.bind_some _ _).symm.trans H; with_reducible exact H2_) | with_reducible exact H | (rw [hy186]; exact H) | exact H
     have Ny186 := Aside0.mk hy186
     clear hy186
     have H' := Aside0.mk H
     clear H
     have hcz6_0 : wr.cell? ⟨gb182, 0, none⟩ = some (.slice A0_0 l0_0.length c0_0) := (blk_cell BK182.out 0).trans rfl
     have hfz6_0 := blk_frozen BK182.out 0
     go_wp2_with (first | ((with_reducible refine gate_callee (f := 14) rfl ?_); refine goesL_ (some 22) rfl rfl Try.func14 (by kernel_rfl) rfl #[.agg #[.slice A0_0 l0_0.length c0_0], .int .i64 x4_1] rfl (by (try simp only [List.map_toArray, List.map_cons, List.map_nil]); first | done | rfl | (simp only [List.length_drop, List.length_take]; rfl)) ?_; (with_reducible refine (davitref11_To.calls k1 _ _ l0_0 x4_1 t183 _ ?side1 ?side2 A4.out).mono ?_); (case side1 => repeat (first | exact (Kd.C_below HR0_0.out HB.out) | (with_reducible refine Kd.C_alloc ?_ _) | (with_reducible refine Kd.C_drewN ?_ _) | (with_reducible refine Kd.C_drew ?_))); (case side2 => exact HC0_0.out); rintro e w7 ⟨v184, rfl, ho0, hb⟩; refine ⟨_, rfl, ?_⟩; have n0_ := Aside0.mk (Kd.S_elder' (by (with_reducible repeat (first | apply Kd.S_alloc | apply Kd.S_drewN | apply Kd.S_drew)); exact HO_3.out) (Kd.R_base ho0) hb); have n1_ := Aside0.mk (Kd.R_lower ho0 (below_size (by repeat (first | (with_reducible first | exact HB.out | apply below_alloc | apply pw_below_drewN | apply below_drew1 | refine below_set ?_ GE182.out) | exact HB.out)))); have n2_ := Aside0.mk (blk_below (g := gb182) (o := .cells #[.slice A0_0 l0_0.length c0_0] 24 (0, 0)) (by (with_reducible repeat (first | refine blk_drewN ?_ _ | refine blk_drew ?_ | refine blk_alloc ?_ _)); exact BK182.out) hb); have n3_ := Aside0.mk (below_step (by repeat (first | (with_reducible first | exact HB.out | apply below_alloc | apply pw_below_drewN | apply below_drew1 | refine below_set ?_ GE182.out) | exact HB.out)) hb); clear HO_3; clear BK182; clear HB; have HO_3 := n0_; have HO185 := n1_; have BK182 := n2_; have HB := n3_; clear n0_ n1_ n2_ n3_; (try clear hb); (try clear hb2); (try clear hk); (try clear hi); (try clear ho0); obtain ⟨Ao9, co9, eo9⟩ := Kd.R_slice HO185.out; subst eo9) | ((with_reducible refine gate_builtin (b := .append) (xs := #[.tmp 19, .tmp 23]) rfl ?_); at_builtin; refine Kd.S_append (Kd.slice 3 (Kd.int .i64)) (w0 := w) w.heap.size rfl (.tmp 19) (.tmp 23) 27 29 (.slice none 0 0) 24 rfl Try.underlying27 info29 rfl (by decide) (by omega) u3 x3_1 t183 [.slice Ao9 t183.length co9] (fun _ => True) (fun k_ => some k_ = (.slice Ao9 t183.length co9 : Value).ownBlock) rfl rfl ?aP (fun k_ hk_ => ((Kd.R_mono (ok' := fun k_ => ((fun _ => True)) k_ ∧ some k_ ≠ (u3 : Value).ownBlock) (Kd.R_apart' (HO185.out) (Kd.S_typed HO_3.out) (by decide)) (fun k_ hk => ⟨trivial, hk.2⟩))).1 k_ hk_.symm) ?aF ?aO ?aB ?aS ?aL ?_; (case aP => exact Kd.M_row (Kd.R_mono (Kd.R_tight rfl (Kd.R_mono (ok' := fun k_ => ((fun _ => True)) k_ ∧ some k_ ≠ (u3 : Value).ownBlock) (Kd.R_apart' (HO185.out) (Kd.S_typed HO_3.out) (by decide)) (fun k_ hk => ⟨trivial, hk.2⟩))) (fun _ h_ => h_))); (case aB => exact (by repeat (first | (with_reducible first | exact HB.out | apply below_alloc | apply pw_below_drewN | apply below_drew1 | refine below_set ?_ GE182.out) | exact HB.out))); (case aF => exact (fun _ _ => trivial)); (case aO => exact (by (with_reducible repeat (first | apply Kd.S_alloc | apply Kd.S_drewN | apply Kd.S_drew)); exact Kd.S_mono HO_3.out (fun k_ hk => ⟨trivial, fun e_ => hk.2 e_⟩))); (case aS => exact (below_size (by repeat (first | (with_reducible first | exact HB.out | apply below_alloc | apply pw_below_drewN | apply below_drew1 | refine below_set ?_ GE182.out) | exact HB.out)))); (case aL => have := LMc5.out; omega); intro v187 w8 ho hb hg hat; rw [← Ny186.out] at ho; have n0_ := Aside0.mk (blk_grown (g := gb182) (o := .cells #[.slice A0_0 l0_0.length c0_0] 24 (0, 0)) (by (with_reducible repeat (first | refine blk_drewN ?_ _ | refine blk_drew ?_ | refine blk_alloc ?_ _)); exact BK182.out) hg (Kd.S_ne HO_3.out BK182.out (by decide))); have n1_ := Aside0.mk (hb); have n2_ := Aside0.mk (ho); clear BK182; clear HB; clear HO_3; clear HO185; have BK182 := n0_; have HB := n1_; have HO188 := n2_; clear n0_ n1_ n2_; clear ho hb hg hat))
     go_roundg k1
     case measure => have := HK1.out; omega
     case rel => exact ⟨(y186), (wrap64 (x4_1 + 1)), (by first | rfl | (simp; done) | (simp [*]; done)), H', ⟨by have := HK1.out; omega⟩, ⟨by (with_reducible repeat (first | apply Kd.S_alloc | apply Kd.S_drewN | apply Kd.S_drew)); exact HO188.out⟩, ⟨by (with_reducible repeat (first | refine blk_drewN ?_ _ | refine blk_drew ?_ | refine blk_alloc ?_ _)); exact BK182.out⟩, ⟨by repeat (first | (with_reducible first | exact HB.out | apply below_alloc | apply pw_below_drewN | apply below_drew1 | refine below_set ?_ GE182.out) | exact HB.out)⟩⟩
    ·rw [if_neg c5] at H
     exact absurd H (by simp)
   ·rw [if_neg c3] at H
    have c3b0 : decide (x4_1 < (l0_0.length : Int)) = false := decide_eq_false c3
    clear c3
    have H' := Aside0.mk H
    clear H
    have hcz10_0 : wr.cell? ⟨gb182, 0, none⟩ = some (.slice A0_0 l0_0.length c0_0) := (blk_cell BK182.out 0).trans rfl
    have hfz10_0 := blk_frozen BK182.out 0
    go_wp2
    go_loopg [5, 6] k1 (fun kq v5 v6 w' => ∃ (x5_2 : List (List Int)) (x6_2 : List Int), Aside0 (davitref11_Groups.l1 kq x3_1 x5_2 x6_2 = some r) ∧ Aside0 (kq ≤ k1) ∧ Aside0 (Kd.S (Kd.slice 3 (Kd.int .i64)) 29 w' w.heap.size (fun k_ => some k_ ≠ (v5 : Value).ownBlock ∧ some k_ ≠ (v6 : Value).ownBlock) u3 x3_1) ∧ Aside0 (Kd.S (Kd.slice 3 (Kd.int .i64)) 29 w' w.heap.size (fun k_ => some k_ ≠ (u3 : Value).ownBlock ∧ some k_ ≠ (v6 : Value).ownBlock) v5 x5_2) ∧ Aside0 (Kd.R (Kd.int .i64) 3 w' w.heap.size (fun _ => True) v6 x6_2) ∧ Aside0 (w'.heap[gb182]? = some (.cells #[(.slice A0_0 l0_0.length c0_0)] 24 (0, 0))) ∧ Aside0 (Below w.heap.size w w'))
    case atStart => exact ⟨(([] : List (List Int))), (([] : List Int)), H', ⟨Nat.le_refl _⟩, ⟨by (with_reducible repeat (first | apply Kd.S_alloc | apply Kd.S_drewN | apply Kd.S_drew)); exact Kd.S_mono HO_3.out (fun _ hk => ⟨(by simp [Value.ownBlock]), (by simp [Value.ownBlock])⟩)⟩, ⟨by first | exact Kd.S_nil _ _ _ _ _ | exact Kd.N_nil _ _ _ _ _ | exact Kd.V_nil _ _ _ _ _ | exact Kd.Q_nil _ _ _ _ _ | exact Kd.R_nil _ _ _ _ _⟩, ⟨by first | exact Kd.R_nil _ _ _ _ _ | exact Kd.N_nil _ _ _ _ _ | exact Kd.V_nil _ _ _ _ _ | exact Kd.Q_nil _ _ _ _ _ | exact Kd.S_nil _ _ _ _ _⟩, ⟨by (with_reducible repeat (first | refine blk_drewN ?_ _ | refine blk_drew ?_ | refine blk_alloc ?_ _)); exact BK182.out⟩, ⟨by repeat (first | (with_reducible first | exact HB.out | apply below_alloc | apply pw_below_drewN | apply below_drew1 | refine below_set ?_ GE182.out) | exact HB.out)⟩⟩
    case round =>
     clear H'
     try clear c1
     try clear p2
     try clear c3
     try clear c3b0
     try clear c5
     try clear p6
     try clear hcz10_0
     try clear hcz6_0
     try clear hfz10_0
     try clear hfz6_0
     try clear p2
     obtain ⟨x5_2, x6_2, HA, HK2, HO_3, HO_5, HO_6, BK182, HB⟩ := hrel
     cases gk with
     | zero => exact absurd HA.out (by simp [davitref11_Groups.l1])
     | succ k2 =>
      have H := HA.out
      clear HA
      simp only [davitref11_Groups.l1] at H
      by_cases c11 : (x6_2.length : Int) < (x3_1.length : Int)
      ·rw [if_pos c11] at H
       have c11b0 : decide ((x6_2.length : Int) < (x3_1.length : Int)) = true := decide_eq_true c11
       have c11b1 : decide (x6_2.length < x3_1.length) = true := decide_eq_true (Int.ofNat_lt.mp c11)
       clear c11
       have H' := Aside0.mk H
       clear H
       obtain ⟨Ao12, co12, eo12⟩ := Kd.R_slice HO_6.out
       subst eo12
       obtain ⟨Ao13, co13, eo13⟩ := Kd.S_slice HO_3.out
       subst eo13
       go_wp2
       go_loopg [5, 6, 7] k2 (fun kq v5 v6 v7 w' => ∃ (x5_3 : List (List Int)) (x6_3 : List Int) (x7_3 : Int), v7 = .int .i64 x7_3 ∧ Aside0 (davitref11_Groups.l2 kq x3_1 x5_3 x6_3 x7_3 = some r) ∧ Aside0 (kq ≤ k2) ∧ Aside0 (Kd.S (Kd.slice 3 (Kd.int .i64)) 29 w' w.heap.size (fun k_ => some k_ ≠ (v5 : Value).ownBlock ∧ some k_ ≠ (v6 : Value).ownBlock) (.slice Ao13 x3_1.length co13) x3_1) ∧ Aside0 (Kd.S (Kd.slice 3 (Kd.int .i64)) 29 w' w.heap.size (fun k_ => some k_ ≠ ((.slice Ao13 x3_1.length co13) : Value).ownBlock ∧ some k_ ≠ (v6 : Value).ownBlock) v5 x5_3) ∧ Aside0 (Kd.R (Kd.int .i64) 3 w' w.heap.size (fun _ => True) v6 x6_3) ∧ Aside0 (w'.heap[gb182]? = some (.cells #[(.slice A0_0 l0_0.length c0_0)] 24 (0, 0))) ∧ Aside0 (Below w.heap.size w w'))
       case atStart => exact ⟨(x5_2), (x6_2), (0), (by first | rfl | (simp; done) | (simp [*]; done)), H', ⟨Nat.le_refl _⟩, ⟨by (with_reducible repeat (first | apply Kd.S_alloc | apply Kd.S_drewN | apply Kd.S_drew)); exact HO_3.out⟩, ⟨by (with_reducible repeat (first | apply Kd.S_alloc | apply Kd.S_drewN | apply Kd.S_drew)); exact HO_5.out⟩, ⟨by (with_reducible repeat (first | apply Kd.R_alloc | apply Kd.R_drewN | apply Kd.R_drew)); exact HO_6.out⟩, ⟨by (with_reducible repeat (first | refine blk_drewN ?_ _ | refine blk_drew ?_ | refine blk_alloc ?_ _)); exact BK182.out⟩, ⟨by repeat (first | (with_reducible first | exact HB.out | apply below_alloc | apply pw_below_drewN | apply below_drew1 | refine below_set ?_ GE182.out) | exact HB.out)⟩⟩
       case round =>
        clear H'
        try clear c1
        try clear p2
        try clear c3
        try clear c3b0
        try clear c5
        try clear p6
        try clear c11
        try clear c11b0
        try clear c11b1
        try clear hcz10_0
        try clear hcz6_0
        try clear hfz10_0
        try clear hfz6_0
        try clear p2
        try clear p6
        obtain ⟨x5_3, x6_3, x7_3, rfl, HA, HK3, HO_3, HO_5, HO_6, BK182, HB⟩ := hrel
        cases gk with
        | zero => exact absurd HA.out (by simp [davitref11_Groups.l2])
        | succ k3 =>
         have H := HA.out
         clear HA
         simp only [davitref11_Groups.l2] at H
         by_cases c14 : x7_3 < (x3_1.length : Int)
         ·rw [if_pos c14] at H
          have c14b0 : decide (x7_3 < (x3_1.length : Int)) = true := decide_eq_true c14
          clear c14
          replace H := Option.bind_eq_some_iff.mp H
          obtain ⟨t189, A150, H⟩ := H
          replace H : (if t189 = true then (davitref11_Groups.l2 k3 x3_1 x5_3 x6_3 (wrap64 (x7_3 + 1))) else (davitref11_Groups.l3 k3 x3_1 x5_3 x6_3 x7_3 ([] : List Int) true 0)) = some r := H
          have A15 := Aside0.mk A150
          clear A150
          by_cases c16 : t189 = true
          ·subst c16
           have H1 : (davitref11_Groups.l2 k3 x3_1 x5_3 x6_3 (wrap64 (x7_3 + 1))) = some r := by rw [if_pos rfl] at H; exact H
           clear H
           have H := H1
           clear H1
           have H' := Aside0.mk H
           clear H
           obtain ⟨Ao17, co17, eo17⟩ := Kd.R_slice HO_6.out
           subst eo17
           go_wp2_with (first | ((with_reducible refine gate_callee (f := 10) rfl ?_); refine goesL_ (some 38) rfl rfl Try.func10 (by kernel_rfl) rfl #[.slice Ao17 x6_3.length co17, .int .i64 x7_3] rfl (by (try simp only [List.map_toArray, List.map_cons, List.map_nil]); first | done | rfl | (simp only [List.length_drop, List.length_take]; rfl)) ?_; (with_reducible refine (davitref07_Has.calls k3 _ _ x6_3 x7_3 true _ ?side1 ?side2 A15.out).mono ?_); (case side1 => repeat (first | exact (Kd.R_reads' HO_6.out).2.2 | (with_reducible refine Kd.C_alloc ?_ _) | (with_reducible refine Kd.C_drewN ?_ _) | (with_reducible refine Kd.C_drew ?_))); (case side2 => exact (Kd.R_reads' HO_6.out).2.1); rintro e w' ⟨rfl, ⟨nd, rfl⟩⟩; refine ⟨_, rfl, ?_⟩))
           go_roundg k3
           case measure => have := HK1.out; have := HK2.out; have := HK3.out; omega
           case rel => exact ⟨(x5_3), (x6_3), (wrap64 (x7_3 + 1)), (by first | rfl | (simp; done) | (simp [*]; done)), H', ⟨by have := HK1.out; have := HK2.out; have := HK3.out; omega⟩, ⟨by (with_reducible repeat (first | apply Kd.S_alloc | apply Kd.S_drewN | apply Kd.S_drew)); exact HO_3.out⟩, ⟨by (with_reducible repeat (first | apply Kd.S_alloc | apply Kd.S_drewN | apply Kd.S_drew)); exact HO_5.out⟩, ⟨by (with_reducible repeat (first | apply Kd.R_alloc | apply Kd.R_drewN | apply Kd.R_drew)); exact HO_6.out⟩, ⟨by (with_reducible repeat (first | refine blk_drewN ?_ _ | refine blk_drew ?_ | refine blk_alloc ?_ _)); exact BK182.out⟩, ⟨by repeat (first | (with_reducible first | exact HB.out | apply below_alloc | apply pw_below_drewN | apply below_drew1 | refine below_set ?_ GE182.out) | exact HB.out)⟩⟩
          ·replace c16 := Bool.eq_false_iff.mpr c16
           subst c16
           have H1 : (davitref11_Groups.l3 k3 x3_1 x5_3 x6_3 x7_3 ([] : List Int) true 0) = some r := by rw [if_neg (show ¬ (false = true) by decide)] at H; exact H
           clear H
           have H := H1
           clear H1
           have H' := Aside0.mk H
           clear H
           obtain ⟨Ao18, co18, eo18⟩ := Kd.R_slice HO_6.out
           subst eo18
           go_wp2_with (first | ((with_reducible refine gate_callee (f := 10) rfl ?_); refine goesL_ (some 38) rfl rfl Try.func10 (by kernel_rfl) rfl #[.slice Ao18 x6_3.length co18, .int .i64 x7_3] rfl (by (try simp only [List.map_toArray, List.map_cons, List.map_nil]); first | done | rfl | (simp only [List.length_drop, List.length_take]; rfl)) ?_; (with_reducible refine (davitref07_Has.calls k3 _ _ x6_3 x7_3 false _ ?side1 ?side2 A15.out).mono ?_); (case side1 => repeat (first | exact (Kd.R_reads' HO_6.out).2.2 | (with_reducible refine Kd.C_alloc ?_ _) | (with_reducible refine Kd.C_drewN ?_ _) | (with_reducible refine Kd.C_drew ?_))); (case side2 => exact (Kd.R_reads' HO_6.out).2.1); rintro e w' ⟨rfl, ⟨nd, rfl⟩⟩; refine ⟨_, rfl, ?_⟩))
           go_loopg [8, 9, 10] k3 (fun kq v8 v9 v10 w' => ∃ (x8_4 : List Int) (x9_4 : Bool) (x10_4 : Int), v9 = .bool x9_4 ∧ v10 = .int .i64 x10_4 ∧ Aside0 (davitref11_Groups.l3 kq x3_1 x5_3 x6_3 x7_3 x8_4 x9_4 x10_4 = some r) ∧ Aside0 (kq ≤ k3) ∧ Aside0 (Kd.S (Kd.slice 3 (Kd.int .i64)) 29 w' w.heap.size (fun k_ => some k_ ≠ (u5 : Value).ownBlock ∧ some k_ ≠ ((.slice Ao18 x6_3.length co18) : Value).ownBlock ∧ some k_ ≠ (v8 : Value).ownBlock) (.slice Ao13 x3_1.length co13) x3_1) ∧ Aside0 (Kd.S (Kd.slice 3 (Kd.int .i64)) 29 w' w.heap.size (fun k_ => some k_ ≠ ((.slice Ao13 x3_1.length co13) : Value).ownBlock ∧ some k_ ≠ ((.slice Ao18 x6_3.length co18) : Value).ownBlock ∧ some k_ ≠ (v8 : Value).ownBlock) u5 x5_3) ∧ Aside0 (Kd.R (Kd.int .i64) 3 w' w.heap.size (fun k_ => some k_ ≠ (v8 : Value).ownBlock) (.slice Ao18 x6_3.length co18) x6_3) ∧ Aside0 (Kd.R (Kd.int .i64) 3 w' w.heap.size (fun k_ => some k_ ≠ ((.slice Ao18 x6_3.length co18) : Value).ownBlock) v8 x8_4) ∧ Aside0 (w'.heap[gb182]? = some (.cells #[(.slice A0_0 l0_0.length c0_0)] 24 (0, 0))) ∧ Aside0 (Below w.heap.size w w'))
           case atStart => exact ⟨(([] : List Int)), (true), (0), (by first | rfl | (simp; done) | (simp [*]; done)), (by first | rfl | (simp; done) | (simp [*]; done)), H', ⟨Nat.le_refl _⟩, ⟨by (with_reducible repeat (first | apply Kd.S_alloc | apply Kd.S_drewN | apply Kd.S_drew)); exact Kd.S_mono HO_3.out (fun _ hk => ⟨hk.1, ⟨hk.2, (by simp [Value.ownBlock])⟩⟩)⟩, ⟨by (with_reducible repeat (first | apply Kd.S_alloc | apply Kd.S_drewN | apply Kd.S_drew)); exact Kd.S_mono HO_5.out (fun _ hk => ⟨hk.1, ⟨hk.2, (by simp [Value.ownBlock])⟩⟩)⟩, ⟨by (with_reducible repeat (first | apply Kd.R_alloc | apply Kd.R_drewN | apply Kd.R_drew)); exact Kd.R_mono HO_6.out (fun _ hk => (by simp [Value.ownBlock]))⟩, ⟨by first | exact Kd.R_nil _ _ _ _ _ | exact Kd.N_nil _ _ _ _ _ | exact Kd.V_nil _ _ _ _ _ | exact Kd.Q_nil _ _ _ _ _ | exact Kd.S_nil _ _ _ _ _⟩, ⟨by (with_reducible repeat (first | refine blk_drewN ?_ _ | refine blk_drew ?_ | refine blk_alloc ?_ _)); exact BK182.out⟩, ⟨by repeat (first | (with_reducible first | exact HB.out | apply below_alloc | apply pw_below_drewN | apply below_drew1 | refine below_set ?_ GE182.out) | exact HB.out)⟩⟩
           case round =>
            clear H'
            try clear c1
            try clear p2
            try clear c3
            try clear c3b0
            try clear c5
            try clear p6
            try clear c10
            try clear c11
            try clear c11b0
            try clear c11b1
            try clear c14
            try clear c14b0
            try clear c16
            try clear hcz10_0
            try clear hcz6_0
            try clear hfz10_0
            try clear hfz6_0
            try clear p2
            try clear p6
            obtain ⟨x8_4, x9_4, x10_4, rfl, rfl, HA, HK4, HO_3, HO_5, HO_6, HO_8, BK182, HB⟩ := hrel
            cases gk with
            | zero => exact absurd HA.out (by simp [davitref11_Groups.l3])
            | succ k4 =>
             have H := HA.out
             clear HA
             simp only [davitref11_Groups.l3] at H
             by_cases c19 : x10_4 < (x3_1.length : Int)
             ·rw [if_pos c19] at H
              have c19b0 : decide (x10_4 < (x3_1.length : Int)) = true := decide_eq_true c19
              clear c19
              by_cases c20 : 0 ≤ x10_4
              ·rw [if_pos c20] at H
               have c20b0 : decide (0 ≤ x10_4) = true := decide_eq_true c20
               clear c20
               replace H := Option.bind_eq_some_iff.mp H
               obtain ⟨t197, A210, H⟩ := H
               replace H : (if x10_4 = x7_3 then (davitref11_Groups.j4 k4 x3_1 x5_3 x6_3 x7_3 x8_4 x9_4 x10_4 true) else (if 0 ≤ x7_3 then (if x7_3 < (x3_1.length : Int) then ((davitref07_Has.f k4 (rd_L5 x3_1 x7_3) x10_4).bind fun t199 => (if t199 = true then (davitref11_Groups.j4 k4 x3_1 x5_3 x6_3 x7_3 x8_4 x9_4 x10_4 t197) else (davitref11_Groups.j4 k4 x3_1 x5_3 x6_3 x7_3 x8_4 x9_4 x10_4 false))) else (none)) else (none))) = some r := H
               have A21 := Aside0.mk A210
               clear A210
               have HC22 := Aside0.mk H
               clear H
               have p196 : 0 ≤ (x10_4 : Int) := of_decide_eq_true (by first | (with_reducible assumption) | assumption)
               have q196 : x10_4 < (x3_1.length : Int) := of_decide_eq_true (by first | (with_reducible assumption) | assumption)
               obtain ⟨ad196, A196_0, c196_0, e196, hx196_0, hl196_0, hi196_0⟩ := at_L5 (Kd.S_reads' HO_3.out).2.2 x10_4 p196 q196
               cases e196
               obtain ⟨ce196, hce196, hMe196, hcc196⟩ := Kd.S_get HO_3.out [] x10_4 p196 (by first | exact q196 | exact of_decide_eq_true (by first | (with_reducible assumption) | assumption) | (have e_ := (Kd.S_reads' HO_3.out).1; omega))
               obtain ⟨ve196_0, rfl, ge196_0⟩ := hMe196
               have hv196_0 := hcc196 0 _ rfl
               rw [Nat.add_zero, show ((Kd.slice 3 (Kd.int .i64))).sz = 1 from rfl, Nat.mul_one] at hv196_0
               replace hv196_0 := Option.some.inj (hv196_0.symm.trans hx196_0)
               rw [hv196_0] at ge196_0
               have HL196_0 := Aside0.mk (show Kd.R (Kd.int .i64) 3 _ _ _ _ (rd_L5 x3_1 x10_4) from ge196_0)
               clear hv196_0 ge196_0
               clear hcc196 hce196
               have HR196_0 := Aside0.mk hi196_0
               have HC196_0 := Aside0.mk hl196_0
               clear hi196_0 hl196_0
               replace p196 := eq_true p196
               replace q196 := eq_true q196
               go_upto_region 19 with (first | ((with_reducible refine gate_callee (f := 10) rfl ?_); refine goesL_ (some 50) rfl rfl Try.func10 (by kernel_rfl) rfl #[.slice A196_0 (rd_L5 x3_1 x10_4).length c196_0, .int .i64 x7_3] rfl (by (try simp only [List.map_toArray, List.map_cons, List.map_nil]); first | done | rfl | (simp only [List.length_drop, List.length_take]; rfl)) ?_; (with_reducible refine (davitref07_Has.calls k4 _ _ (rd_L5 x3_1 x10_4) x7_3 t197 _ ?side1 ?side2 A21.out).mono ?_); (case side1 => repeat (first | exact (by repeat (first | (with_reducible exact HR196_0.out) | (with_reducible refine Kd.C_alloc ?_ _) | (with_reducible refine Kd.C_drewN ?_ _) | (with_reducible refine Kd.C_drew ?_) | exact HR196_0.out)) | (with_reducible refine Kd.C_alloc ?_ _) | (with_reducible refine Kd.C_drewN ?_ _) | (with_reducible refine Kd.C_drew ?_))); (case side2 => exact HC196_0.out); rintro e w' ⟨rfl, ⟨nd, rfl⟩⟩; refine ⟨_, rfl, ?_⟩))
               (try simp only [Act.put, List.setIfInBounds_toArray, List.set_cons_zero, List.set_cons_succ])
               go_cut [64] (fun v64 wc => ∃ (kq : Nat) (x64_21 : Bool), v64 = .bool x64_21 ∧ Aside0 (davitref11_Groups.j4 kq x3_1 x5_3 x6_3 x7_3 x8_4 x9_4 x10_4 x64_21 = some r) ∧ Aside0 (kq ≤ k4) ∧ Aside0 (Kd.S (Kd.slice 3 (Kd.int .i64)) 29 wc w.heap.size (fun k_ => some k_ ≠ (u5 : Value).ownBlock ∧ some k_ ≠ ((.slice Ao18 x6_3.length co18) : Value).ownBlock ∧ some k_ ≠ (u8 : Value).ownBlock) (.slice (some ad196) x3_1.length co13) x3_1) ∧ Aside0 (Kd.S (Kd.slice 3 (Kd.int .i64)) 29 wc w.heap.size (fun k_ => some k_ ≠ ((.slice (some ad196) x3_1.length co13) : Value).ownBlock ∧ some k_ ≠ ((.slice Ao18 x6_3.length co18) : Value).ownBlock ∧ some k_ ≠ (u8 : Value).ownBlock) u5 x5_3) ∧ Aside0 (Kd.R (Kd.int .i64) 3 wc w.heap.size (fun k_ => some k_ ≠ (u8 : Value).ownBlock) (.slice Ao18 x6_3.length co18) x6_3) ∧ Aside0 (Kd.R (Kd.int .i64) 3 wc w.heap.size (fun k_ => some k_ ≠ ((.slice Ao18 x6_3.length co18) : Value).ownBlock) u8 x8_4) ∧ Aside0 (wc.heap[gb182]? = some (.cells #[(.slice A0_0 l0_0.length c0_0)] 24 (0, 0))) ∧ Aside0 (Kd.C (Kd.int .i64) wc A196_0 (rd_L5 x3_1 x10_4).length (rd_L5 x3_1 x10_4)) ∧ Aside0 (Below w.heap.size w wc))
               case first =>
                have H := HC22.out
                clear HC22
                by_cases c23 : x10_4 = x7_3
                ·rw [if_pos c23] at H
                 have c23b0 : (x10_4 == x7_3) = true := beq_iff_eq.mpr c23
                 have c23b1 : (x10_4 != x7_3) = false := bne_eq_false_iff_eq.mpr c23
                 clear c23
                 (first | rw [c23b0] | (simp only [i64_w, i32_w]; rw [c23b0]) | skip)
                 have H' := Aside0.mk H
                 clear H
                 go_wp2
                 go_meet
                 case rel => exact ⟨_, (true), (by first | rfl | (simp; done) | (simp [*]; done)), H', ⟨by have := HK1.out; have := HK2.out; have := HK3.out; have := HK4.out; first | omega | exact Nat.le_refl _⟩, ⟨by (with_reducible repeat (first | apply Kd.S_alloc | apply Kd.S_drewN | apply Kd.S_drew)); exact HO_3.out⟩, ⟨by (with_reducible repeat (first | apply Kd.S_alloc | apply Kd.S_drewN | apply Kd.S_drew)); exact HO_5.out⟩, ⟨by (with_reducible repeat (first | apply Kd.R_alloc | apply Kd.R_drewN | apply Kd.R_drew)); exact HO_6.out⟩, ⟨by (with_reducible repeat (first | apply Kd.R_alloc | apply Kd.R_drewN | apply Kd.R_drew)); exact HO_8.out⟩, ⟨by (with_reducible repeat (first | refine blk_drewN ?_ _ | refine blk_drew ?_ | refine blk_alloc ?_ _)); exact BK182.out⟩, ⟨by repeat (first | (with_reducible exact HR196_0.out) | (with_reducible refine Kd.C_alloc ?_ _) | (with_reducible refine Kd.C_drewN ?_ _) | (with_reducible refine Kd.C_drew ?_) | exact HR196_0.out)⟩, ⟨by repeat (first | (with_reducible first | exact HB.out | apply below_alloc | apply pw_below_drewN | apply below_drew1 | refine below_set ?_ GE182.out) | exact HB.out)⟩⟩
                ·rw [if_neg c23] at H
                 have c23b0 : (x10_4 == x7_3) = false := beq_eq_false_iff_ne.mpr c23
                 have c23b1 : (x10_4 != x7_3) = true := bne_iff_ne.mpr c23
                 (first | rw [c23b0] | (simp only [i64_w, i32_w]; rw [c23b0]) | skip)
                 by_cases c24 : 0 ≤ x7_3
                 ·rw [if_pos c24] at H
                  have c24b0 : decide (0 ≤ x7_3) = true := decide_eq_true c24
                  clear c24
                  by_cases c25 : x7_3 < (x3_1.length : Int)
                  ·rw [if_pos c25] at H
                   have c25b0 : decide (x7_3 < (x3_1.length : Int)) = true := decide_eq_true c25
                   clear c25
                   replace H := Option.bind_eq_some_iff.mp H
                   obtain ⟨t199, A260, H⟩ := H
                   replace H : (if t199 = true then (davitref11_Groups.j4 k4 x3_1 x5_3 x6_3 x7_3 x8_4 x9_4 x10_4 t197) else (davitref11_Groups.j4 k4 x3_1 x5_3 x6_3 x7_3 x8_4 x9_4 x10_4 false)) = some r := H
                   have A26 := Aside0.mk A260
                   clear A260
                   by_cases c27 : t199 = true
                   ·subst c27
                    have H1 : (davitref11_Groups.j4 k4 x3_1 x5_3 x6_3 x7_3 x8_4 x9_4 x10_4 t197) = some r := by rw [if_pos rfl] at H; exact H
                    clear H
                    have H := H1
                    clear H1
                    have H' := Aside0.mk H
                    clear H
                    have p198 : 0 ≤ (x7_3 : Int) := of_decide_eq_true (by first | (with_reducible assumption) | assumption)
                    have q198 : x7_3 < (x3_1.length : Int) := of_decide_eq_true (by first | (with_reducible assumption) | assumption)
                    obtain ⟨ad198, A198_0, c198_0, e198, hx198_0, hl198_0, hi198_0⟩ := at_L5 (Kd.S_reads' HO_3.out).2.2 x7_3 p198 q198
                    obtain rfl : ad196 = ad198 := (by injection e198)
                    obtain ⟨ce198, hce198, hMe198, hcc198⟩ := Kd.S_get HO_3.out [] x7_3 p198 (by first | exact q198 | exact of_decide_eq_true (by first | (with_reducible assumption) | assumption) | (have e_ := (Kd.S_reads' HO_3.out).1; omega))
                    obtain ⟨ve198_0, rfl, ge198_0⟩ := hMe198
                    have hv198_0 := hcc198 0 _ rfl
                    rw [Nat.add_zero, show ((Kd.slice 3 (Kd.int .i64))).sz = 1 from rfl, Nat.mul_one] at hv198_0
                    replace hv198_0 := Option.some.inj (hv198_0.symm.trans hx198_0)
                    rw [hv198_0] at ge198_0
                    have HL198_0 := Aside0.mk (show Kd.R (Kd.int .i64) 3 _ _ _ _ (rd_L5 x3_1 x7_3) from ge198_0)
                    clear hv198_0 ge198_0
                    clear hcc198 hce198
                    have HR198_0 := Aside0.mk hi198_0
                    have HC198_0 := Aside0.mk hl198_0
                    clear hi198_0 hl198_0
                    replace p198 := eq_true p198
                    replace q198 := eq_true q198
                    go_wp2_with (first | (go_at_call 10; (with_reducible refine (davitref07_Has.calls k4 _ _ (rd_L5 x3_1 x7_3) x10_4 true _ ?side1 ?side2 A26.out).mono ?_); (case side1 => repeat (first | exact (by repeat (first | (with_reducible exact HR198_0.out) | (with_reducible refine Kd.C_alloc ?_ _) | (with_reducible refine Kd.C_drewN ?_ _) | (with_reducible refine Kd.C_drew ?_) | exact HR198_0.out)) | (with_reducible refine Kd.C_alloc ?_ _) | (with_reducible refine Kd.C_drewN ?_ _) | (with_reducible refine Kd.C_drew ?_))); (case side2 => exact HC198_0.out); rintro e w' ⟨rfl, ⟨nd, rfl⟩⟩))
                    go_meet
                    case rel => exact ⟨_, (t197), (by first | rfl | (simp; done) | (simp [*]; done)), H', ⟨by have := HK1.out; have := HK2.out; have := HK3.out; have := HK4.out; first | omega | exact Nat.le_refl _⟩, ⟨by (with_reducible repeat (first | apply Kd.S_alloc | apply Kd.S_drewN | apply Kd.S_drew)); exact HO_3.out⟩, ⟨by (with_reducible repeat (first | apply Kd.S_alloc | apply Kd.S_drewN | apply Kd.S_drew)); exact HO_5.out⟩, ⟨by (with_reducible repeat (first | apply Kd.R_alloc | apply Kd.R_drewN | apply Kd.R_drew)); exact HO_6.out⟩, ⟨by (with_reducible repeat (first | apply Kd.R_alloc | apply Kd.R_drewN | apply Kd.R_drew)); exact HO_8.out⟩, ⟨by (with_reducible repeat (first | refine blk_drewN ?_ _ | refine blk_drew ?_ | refine blk_alloc ?_ _)); exact BK182.out⟩, ⟨by repeat (first | (with_reducible exact HR196_0.out) | (with_reducible refine Kd.C_alloc ?_ _) | (with_reducible refine Kd.C_drewN ?_ _) | (with_reducible refine Kd.C_drew ?_) | exact HR196_0.out)⟩, ⟨by repeat (first | (with_reducible first | exact HB.out | apply below_alloc | apply pw_below_drewN | apply below_drew1 | refine below_set ?_ GE182.out) | exact HB.out)⟩⟩
                   ·replace c27 := Bool.eq_false_iff.mpr c27
                    subst c27
                    have H1 : (davitref11_Groups.j4 k4 x3_1 x5_3 x6_3 x7_3 x8_4 x9_4 x10_4 false) = some r := by rw [if_neg (show ¬ (false = true) by decide)] at H; exact H
                    clear H
                    have H := H1
                    clear H1
                    have H' := Aside0.mk H
                    clear H
                    have p198 : 0 ≤ (x7_3 : Int) := of_decide_eq_true (by first | (with_reducible assumption) | assumption)
                    have q198 : x7_3 < (x3_1.length : Int) := of_decide_eq_true (by first | (with_reducible assumption) | assumption)
                    obtain ⟨ad198, A198_0, c198_0, e198, hx198_0, hl198_0, hi198_0⟩ := at_L5 (Kd.S_reads' HO_3.out).2.2 x7_3 p198 q198
                    obtain rfl : ad196 = ad198 := (by injection e198)
                    obtain ⟨ce198, hce198, hMe198, hcc198⟩ := Kd.S_get HO_3.out [] x7_3 p198 (by first | exact q198 | exact of_decide_eq_true (by first | (with_reducible assumption) | assumption) | (have e_ := (Kd.S_reads' HO_3.out).1; omega))
                    obtain ⟨ve198_0, rfl, ge198_0⟩ := hMe198
                    have hv198_0 := hcc198 0 _ rfl
                    rw [Nat.add_zero, show ((Kd.slice 3 (Kd.int .i64))).sz = 1 from rfl, Nat.mul_one] at hv198_0
                    replace hv198_0 := Option.some.inj (hv198_0.symm.trans hx198_0)
                    rw [hv198_0] at ge198_0
                    have HL198_0 := Aside0.mk (show Kd.R (Kd.int .i64) 3 _ _ _ _ (rd_L5 x3_1 x7_3) from ge198_0)
                    clear hv198_0 ge198_0
                    clear hcc198 hce198
                    have HR198_0 := Aside0.mk hi198_0
                    have HC198_0 := Aside0.mk hl198_0
                    clear hi198_0 hl198_0
                    replace p198 := eq_true p198
                    replace q198 := eq_true q198
                    go_wp2_with (first | (go_at_call 10; (with_reducible refine (davitref07_Has.calls k4 _ _ (rd_L5 x3_1 x7_3) x10_4 false _ ?side1 ?side2 A26.out).mono ?_); (case side1 => repeat (first | exact (by repeat (first | (with_reducible exact HR198_0.out) | (with_reducible refine Kd.C_alloc ?_ _) | (with_reducible refine Kd.C_drewN ?_ _) | (with_reducible refine Kd.C_drew ?_) | exact HR198_0.out)) | (with_reducible refine Kd.C_alloc ?_ _) | (with_reducible refine Kd.C_drewN ?_ _) | (with_reducible refine Kd.C_drew ?_))); (case side2 => exact HC198_0.out); rintro e w' ⟨rfl, ⟨nd, rfl⟩⟩))
                    go_meet
                    case rel => exact ⟨_, (false), (by first | rfl | (simp; done) | (simp [*]; done)), H', ⟨by have := HK1.out; have := HK2.out; have := HK3.out; have := HK4.out; first | omega | exact Nat.le_refl _⟩, ⟨by (with_reducible repeat (first | apply Kd.S_alloc | apply Kd.S_drewN | apply Kd.S_drew)); exact HO_3.out⟩, ⟨by (with_reducible repeat (first | apply Kd.S_alloc | apply Kd.S_drewN | apply Kd.S_drew)); exact HO_5.out⟩, ⟨by (with_reducible repeat (first | apply Kd.R_alloc | apply Kd.R_drewN | apply Kd.R_drew)); exact HO_6.out⟩, ⟨by (with_reducible repeat (first | apply Kd.R_alloc | apply Kd.R_drewN | apply Kd.R_drew)); exact HO_8.out⟩, ⟨by (with_reducible repeat (first | refine blk_drewN ?_ _ | refine blk_drew ?_ | refine blk_alloc ?_ _)); exact BK182.out⟩, ⟨by repeat (first | (with_reducible exact HR196_0.out) | (with_reducible refine Kd.C_alloc ?_ _) | (with_reducible refine Kd.C_drewN ?_ _) | (with_reducible refine Kd.C_drew ?_) | exact HR196_0.out)⟩, ⟨by repeat (first | (with_reducible first | exact HB.out | apply below_alloc | apply pw_below_drewN | apply below_drew1 | refine below_set ?_ GE182.out) | exact HB.out)⟩⟩
                  ·rw [if_neg c25] at H
                   exact absurd H (by simp)
                 ·rw [if_neg c24] at H
                  exact absurd H (by simp)
               case rest =>
                clear HC22
                try clear c1
                try clear p1
                try clear q1
                try clear hx1
                try clear c2
                try clear p2
                try clear c3
                try clear c3b0
                try clear c5
                try clear p6
                try clear c10
                try clear c11
                try clear c11b0
                try clear c11b1
                try clear c14
                try clear c14b0
                try clear c16
                try clear c19
                try clear c19b0
                try clear p19
                try clear q19
                try clear hx19
                try clear c20
                try clear c20b0
                try clear c23
                try clear c23b0
                try clear c23b1
                try clear c24
                try clear c24b0
                try clear c25
                try clear c25b0
                try clear c27
                try clear hcz10_0
                try clear hcz6_0
                try clear hfz10_0
                try clear hfz6_0
                try clear hx196_0
                try clear hx198_0
                try clear p196
                try clear p198
                try clear p2
                try clear p6
                try clear q196
                try clear q198
                obtain ⟨kq, x64_21, rfl, HA, HJ21, HO_3, HO_5, HO_6, HO_8, BK182, HR196_0, HB⟩ := hcut
                cases kq with
                | zero => exact absurd HA.out (by simp [davitref11_Groups.j4])
                | succ kj21 =>
                 have H := HA.out
                 clear HA
                 simp only [davitref11_Groups.j4] at H
                 by_cases c28 : x64_21 = true
                 ·subst c28
                  have H1 : (if x8_4.length < 17592186044416 then (davitref11_Groups.l3 kj21 x3_1 x5_3 x6_3 x7_3 (x8_4 ++ [x10_4]) x9_4 (wrap64 (x10_4 + 1))) else (none)) = some r := by rw [if_pos rfl] at H; exact H
                  clear H
                  have H := H1
                  clear H1
                  by_cases c29 : x8_4.length < 17592186044416
                  ·rw [if_pos c29] at H
                   have LMc29 := Aside0.mk c29
                   clear c29
                   obtain ⟨y200, hy200⟩ : ∃ y_ : List Int, y_ = (x8_4 ++ [x10_4]) := ⟨_, rfl⟩
                   replace H : (davitref11_Groups.l3 kj21 x3_1 x5_3 x6_3 x7_3 y200 x9_4 (wrap64 (x10_4 + 1))) = some r := by first | (rw [hy200]; with_reducible exact H) | (have H2_ := (Option.bind_some _ _).symm.trans H; rw [hy200]; with_reducible exact H2_) | (have H2_ := (Option.bind_some _ _).symm.trans H; with_reducible exact H2_) | with_reducible exact H | (rw [hy200]; exact H) | exact H
                   have Ny200 := Aside0.mk hy200
                   clear hy200
                   have H' := Aside0.mk H
                   clear H
                   go_wp2_with (first | ((with_reducible refine gate_builtin (b := .append) (xs := #[.tmp 65, .tmp 67]) rfl ?_); at_builtin; refine Kd.R_append (Kd.int .i64) (w0 := w) w.heap.size rfl (.tmp 65) (.tmp 67) 29 3 (.int .i64 0) 8 rfl Try.underlying29 info3 rfl (by decide) (by omega) u8 x8_4 x10_4 [.int .i64 x10_4] (fun k_ => some k_ ≠ (.slice Ao18 x6_3.length co18 : Value).ownBlock) (fun _ => False) rfl rfl ?aP (fun _ hk => hk.elim) ?aF ?aO ?aB ?aS ?aL ?_; (case aP => exact rfl); (case aB => exact (by repeat (first | (with_reducible first | exact HB.out | apply below_alloc | apply pw_below_drewN | apply below_drew1 | refine below_set ?_ GE182.out) | exact HB.out))); (case aF => exact (fun k_ hk => Kd.fresh' (Kd.R_lt (by (with_reducible repeat (first | apply Kd.R_alloc | apply Kd.R_drewN | apply Kd.R_drew)); exact HO_6.out)) k_ hk)); (case aO => exact (by (with_reducible repeat (first | apply Kd.R_alloc | apply Kd.R_drewN | apply Kd.R_drew)); exact HO_8.out)); (case aS => exact (below_size (by repeat (first | (with_reducible first | exact HB.out | apply below_alloc | apply pw_below_drewN | apply below_drew1 | refine below_set ?_ GE182.out) | exact HB.out)))); (case aL => have := LMc29.out; omega); intro v201 w30 ho hb hg hat; rw [← Ny200.out] at ho; have n0_ := Aside0.mk (Kd.S_after (ok := (fun k_ => some k_ ≠ (u5 : Value).ownBlock ∧ some k_ ≠ (.slice Ao18 x6_3.length co18 : Value).ownBlock)) (by (with_reducible repeat (first | apply Kd.S_alloc | apply Kd.S_drewN | apply Kd.S_drew)); exact Kd.S_mono HO_3.out (fun _ hk => ⟨⟨hk.1, hk.2.1⟩, hk.2.2⟩)) hg hat); have n1_ := Aside0.mk (Kd.S_after (ok := (fun k_ => some k_ ≠ (.slice (some ad196) x3_1.length co13 : Value).ownBlock ∧ some k_ ≠ (.slice Ao18 x6_3.length co18 : Value).ownBlock)) (by (with_reducible repeat (first | apply Kd.S_alloc | apply Kd.S_drewN | apply Kd.S_drew)); exact Kd.S_mono HO_5.out (fun _ hk => ⟨⟨hk.1, hk.2.1⟩, hk.2.2⟩)) hg hat); have n2_ := Aside0.mk (Kd.R_after (ok := (fun _ => True)) (by (with_reducible repeat (first | apply Kd.R_alloc | apply Kd.R_drewN | apply Kd.R_drew)); exact Kd.R_mono HO_6.out (fun _ hk => ⟨trivial, hk⟩)) hg hat); have n3_ := Aside0.mk (blk_grown (g := gb182) (o := .cells #[.slice A0_0 l0_0.length c0_0] 24 (0, 0)) (by (with_reducible repeat (first | refine blk_drewN ?_ _ | refine blk_drew ?_ | refine blk_alloc ?_ _)); exact BK182.out) hg (Kd.R_ne HO_8.out BK182.out (by decide))); have n4_ := Aside0.mk (hb); have n5_ := Aside0.mk (ho); clear HO_3; clear HO_5; clear HO_6; clear BK182; clear HB; clear HO_8; have HO_3 := n0_; have HO_5 := n1_; have HO_6 := n2_; have BK182 := n3_; have HB := n4_; have HO202 := n5_; clear n0_ n1_ n2_ n3_ n4_ n5_; clear ho hb hg hat))
                   go_roundg kj21
                   case measure => have := HK1.out; have := HK2.out; have := HK3.out; have := HK4.out; have := HJ21.out; omega
                   case rel => exact ⟨(y200), (x9_4), (wrap64 (x10_4 + 1)), (by first | rfl | (simp; done) | (simp [*]; done)), (by first | rfl | (simp; done) | (simp [*]; done)), H', ⟨by have := HK1.out; have := HK2.out; have := HK3.out; have := HK4.out; have := HJ21.out; omega⟩, ⟨by (with_reducible repeat (first | apply Kd.S_alloc | apply Kd.S_drewN | apply Kd.S_drew)); exact Kd.S_mono HO_3.out (fun _ hk => ⟨hk.1.1, ⟨hk.1.2, hk.2⟩⟩)⟩, ⟨by (with_reducible repeat (first | apply Kd.S_alloc | apply Kd.S_drewN | apply Kd.S_drew)); exact Kd.S_mono HO_5.out (fun _ hk => ⟨hk.1.1, ⟨hk.1.2, hk.2⟩⟩)⟩, ⟨by (with_reducible repeat (first | apply Kd.R_alloc | apply Kd.R_drewN | apply Kd.R_drew)); exact Kd.R_mono HO_6.out (fun _ hk => hk.2)⟩, ⟨by (with_reducible repeat (first | apply Kd.R_alloc | apply Kd.R_drewN | apply Kd.R_drew)); exact HO202.out⟩, ⟨by (with_reducible repeat (first | refine blk_drewN ?_ _ | refine blk_drew ?_ | refine blk_alloc ?_ _)); exact BK182.out⟩, ⟨by repeat (first | (with_reducible first | exact HB.out | apply below_alloc | apply pw_below_drewN | apply below_drew1 | refine below_set ?_ GE182.out) | exact HB.out)⟩⟩
                  ·rw [if_neg c29] at H
                   exact absurd H (by simp)
                 ·replace c28 := Bool.eq_false_iff.mpr c28
                  subst c28
                  have H1 : (if 0 ≤ x7_3 then (if x7_3 < (x3_1.length : Int) then ((davitref07_Has.f kj21 (rd_L5 x3_1 x7_3) x10_4).bind fun t204 => (if t204 = true then ((davitref07_Has.f kj21 x6_3 x10_4).bind fun t205 => (if t205 = true then (davitref11_Groups.l3 kj21 x3_1 x5_3 x6_3 x7_3 x8_4 x9_4 (wrap64 (x10_4 + 1))) else (davitref11_Groups.l3 kj21 x3_1 x5_3 x6_3 x7_3 x8_4 false (wrap64 (x10_4 + 1))))) else (davitref11_Groups.l3 kj21 x3_1 x5_3 x6_3 x7_3 x8_4 x9_4 (wrap64 (x10_4 + 1))))) else (none)) else (none)) = some r := by rw [if_neg (show ¬ (false = true) by decide)] at H; exact H
                  clear H
                  have H := H1
                  clear H1
                  by_cases c31 : 0 ≤ x7_3
                  ·rw [if_pos c31] at H
                   have c31b0 : decide (0 ≤ x7_3) = true := decide_eq_true c31
                   clear c31
                   by_cases c32 : x7_3 < (x3_1.length : Int)
                   ·rw [if_pos c32] at H
                    have c32b0 : decide (x7_3 < (x3_1.length : Int)) = true := decide_eq_true c32
                    clear c32
                    replace H := Option.bind_eq_some_iff.mp H
                    obtain ⟨t204, A330, H⟩ := H
                    replace H : (if t204 = true then ((davitref07_Has.f kj21 x6_3 x10_4).bind fun t205 => (if t205 = true then (davitref11_Groups.l3 kj21 x3_1 x5_3 x6_3 x7_3 x8_4 x9_4 (wrap64 (x10_4 + 1))) else (davitref11_Groups.l3 kj21 x3_1 x5_3 x6_3 x7_3 x8_4 false (wrap64 (x10_4 + 1))))) else (davitref11_Groups.l3 kj21 x3_1 x5_3 x6_3 x7_3 x8_4 x9_4 (wrap64 (x10_4 + 1)))) = some r := H
                    have A33 := Aside0.mk A330
                    clear A330
                    by_cases c34 : t204 = true
                    ·subst c34
                     have H1 : ((davitref07_Has.f kj21 x6_3 x10_4).bind fun t205 => (if t205 = true then (davitref11_Groups.l3 kj21 x3_1 x5_3 x6_3 x7_3 x8_4 x9_4 (wrap64 (x10_4 + 1))) else (davitref11_Groups.l3 kj21 x3_1 x5_3 x6_3 x7_3 x8_4 false (wrap64 (x10_4 + 1))))) = some r := by rw [if_pos rfl] at H; exact H
                     clear H
                     have H := H1
                     clear H1
                     replace H := Option.bind_eq_some_iff.mp H
                     obtain ⟨t205, A350, H⟩ := H
                     replace H : (if t205 = true then (davitref11_Groups.l3 kj21 x3_1 x5_3 x6_3 x7_3 x8_4 x9_4 (wrap64 (x10_4 + 1))) else (davitref11_Groups.l3 kj21 x3_1 x5_3 x6_3 x7_3 x8_4 false (wrap64 (x10_4 + 1)))) = some r := H
                     have A35 := Aside0.mk A350
                     clear A350
                     by_cases c36 : t205 = true
                     ·subst c36
                      have H1 : (davitref11_Groups.l3 kj21 x3_1 x5_3 x6_3 x7_3 x8_4 x9_4 (wrap64 (x10_4 + 1))) = some r := by rw [if_pos rfl] at H; exact H
                      clear H
                      have H := H1
                      clear H1
                      have H' := Aside0.mk H
                      clear H
                      have p203 : 0 ≤ (x7_3 : Int) := of_decide_eq_true (by first | (with_reducible assumption) | assumption)
                      have q203 : x7_3 < (x3_1.length : Int) := of_decide_eq_true (by first | (with_reducible assumption) | assumption)
                      obtain ⟨ad203, A203_0, c203_0, e203, hx203_0, hl203_0, hi203_0⟩ := at_L5 (Kd.S_reads' HO_3.out).2.2 x7_3 p203 q203
                      obtain rfl : ad196 = ad203 := (by injection e203)
                      obtain ⟨ce203, hce203, hMe203, hcc203⟩ := Kd.S_get HO_3.out [] x7_3 p203 (by first | exact q203 | exact of_decide_eq_true (by first | (with_reducible assumption) | assumption) | (have e_ := (Kd.S_reads' HO_3.out).1; omega))
                      obtain ⟨ve203_0, rfl, ge203_0⟩ := hMe203
                      have hv203_0 := hcc203 0 _ rfl
                      rw [Nat.add_zero, show ((Kd.slice 3 (Kd.int .i64))).sz = 1 from rfl, Nat.mul_one] at hv203_0
                      replace hv203_0 := Option.some.inj (hv203_0.symm.trans hx203_0)
                      rw [hv203_0] at ge203_0
                      have HL203_0 := Aside0.mk (show Kd.R (Kd.int .i64) 3 _ _ _ _ (rd_L5 x3_1 x7_3) from ge203_0)
                      clear hv203_0 ge203_0
                      clear hcc203 hce203
                      have HR203_0 := Aside0.mk hi203_0
                      have HC203_0 := Aside0.mk hl203_0
                      clear hi203_0 hl203_0
                      replace p203 := eq_true p203
                      replace q203 := eq_true q203
                      go_wp2_with (first | ((with_reducible refine gate_callee (f := 10) rfl ?_); refine goesL_ (some 74) rfl rfl Try.func10 (by kernel_rfl) rfl #[.slice A203_0 (rd_L5 x3_1 x7_3).length c203_0, .int .i64 x10_4] rfl (by (try simp only [List.map_toArray, List.map_cons, List.map_nil]); first | done | rfl | (simp only [List.length_drop, List.length_take]; rfl)) ?_; (with_reducible refine (davitref07_Has.calls kj21 _ _ (rd_L5 x3_1 x7_3) x10_4 true _ ?side1 ?side2 A33.out).mono ?_); (case side1 => repeat (first | exact (by repeat (first | (with_reducible exact HR203_0.out) | (with_reducible refine Kd.C_alloc ?_ _) | (with_reducible refine Kd.C_drewN ?_ _) | (with_reducible refine Kd.C_drew ?_) | exact HR203_0.out)) | (with_reducible refine Kd.C_alloc ?_ _) | (with_reducible refine Kd.C_drewN ?_ _) | (with_reducible refine Kd.C_drew ?_))); (case side2 => exact HC203_0.out); rintro e w' ⟨rfl, ⟨nd, rfl⟩⟩; refine ⟨_, rfl, ?_⟩) | (go_at_call 10; (with_reducible refine (davitref07_Has.calls kj21 _ _ x6_3 x10_4 true _ ?side1 ?side2 A35.out).mono ?_); (case side1 => repeat (first | exact (Kd.R_reads' HO_6.out).2.2 | (with_reducible refine Kd.C_alloc ?_ _) | (with_reducible refine Kd.C_drewN ?_ _) | (with_reducible refine Kd.C_drew ?_))); (case side2 => exact (Kd.R_reads' HO_6.out).2.1); rintro e w' ⟨rfl, ⟨nd, rfl⟩⟩))
                      go_roundg kj21
                      case measure => have := HK1.out; have := HK2.out; have := HK3.out; have := HK4.out; have := HJ21.out; omega
                      case rel => exact ⟨(x8_4), (x9_4), (wrap64 (x10_4 + 1)), (by first | rfl | (simp; done) | (simp [*]; done)), (by first | rfl | (simp; done) | (simp [*]; done)), H', ⟨by have := HK1.out; have := HK2.out; have := HK3.out; have := HK4.out; have := HJ21.out; omega⟩, ⟨by (with_reducible repeat (first | apply Kd.S_alloc | apply Kd.S_drewN | apply Kd.S_drew)); exact HO_3.out⟩, ⟨by (with_reducible repeat (first | apply Kd.S_alloc | apply Kd.S_drewN | apply Kd.S_drew)); exact HO_5.out⟩, ⟨by (with_reducible repeat (first | apply Kd.R_alloc | apply Kd.R_drewN | apply Kd.R_drew)); exact HO_6.out⟩, ⟨by (with_reducible repeat (first | apply Kd.R_alloc | apply Kd.R_drewN | apply Kd.R_drew)); exact HO_8.out⟩, ⟨by (with_reducible repeat (first | refine blk_drewN ?_ _ | refine blk_drew ?_ | refine blk_alloc ?_ _)); exact BK182.out⟩, ⟨by repeat (first | (with_reducible first | exact HB.out | apply below_alloc | apply pw_below_drewN | apply below_drew1 | refine below_set ?_ GE182.out) | exact HB.out)⟩⟩
                     ·replace c36 := Bool.eq_false_iff.mpr c36
                      subst c36
                      have H1 : (davitref11_Groups.l3 kj21 x3_1 x5_3 x6_3 x7_3 x8_4 false (wrap64 (x10_4 + 1))) = some r := by rw [if_neg (show ¬ (false = true) by decide)] at H; exact H
                      clear H
                      have H := H1
                      clear H1
                      have H' := Aside0.mk H
                      clear H
                      have p203 : 0 ≤ (x7_3 : Int) := of_decide_eq_true (by first | (with_reducible assumption) | assumption)
                      have q203 : x7_3 < (x3_1.length : Int) := of_decide_eq_true (by first | (with_reducible assumption) | assumption)
                      obtain ⟨ad203, A203_0, c203_0, e203, hx203_0, hl203_0, hi203_0⟩ := at_L5 (Kd.S_reads' HO_3.out).2.2 x7_3 p203 q203
                      obtain rfl : ad196 = ad203 := (by injection e203)
                      obtain ⟨ce203, hce203, hMe203, hcc203⟩ := Kd.S_get HO_3.out [] x7_3 p203 (by first | exact q203 | exact of_decide_eq_true (by first | (with_reducible assumption) | assumption) | (have e_ := (Kd.S_reads' HO_3.out).1; omega))
                      obtain ⟨ve203_0, rfl, ge203_0⟩ := hMe203
                      have hv203_0 := hcc203 0 _ rfl
                      rw [Nat.add_zero, show ((Kd.slice 3 (Kd.int .i64))).sz = 1 from rfl, Nat.mul_one] at hv203_0
                      replace hv203_0 := Option.some.inj (hv203_0.symm.trans hx203_0)
                      rw [hv203_0] at ge203_0
                      have HL203_0 := Aside0.mk (show Kd.R (Kd.int .i64) 3 _ _ _ _ (rd_L5 x3_1 x7_3) from ge203_0)
                      clear hv203_0 ge203_0
                      clear hcc203 hce203
                      have HR203_0 := Aside0.mk hi203_0
                      have HC203_0 := Aside0.mk hl203_0
                      clear hi203_0 hl203_0
                      replace p203 := eq_true p203
                      replace q203 := eq_true q203
                      go_wp2_with (first | ((with_reducible refine gate_callee (f := 10) rfl ?_); refine goesL_ (some 74) rfl rfl Try.func10 (by kernel_rfl) rfl #[.slice A203_0 (rd_L5 x3_1 x7_3).length c203_0, .int .i64 x10_4] rfl (by (try simp only [List.map_toArray, List.map_cons, List.map_nil]); first | done | rfl | (simp only [List.length_drop, List.length_take]; rfl)) ?_; (with_reducible refine (davitref07_Has.calls kj21 _ _ (rd_L5 x3_1 x7_3) x10_4 true _ ?side1 ?side2 A33.out).mono ?_); (case side1 => repeat (first | exact (by repeat (first | (with_reducible exact HR203_0.out) | (with_reducible refine Kd.C_alloc ?_ _) | (with_reducible refine Kd.C_drewN ?_ _) | (with_reducible refine Kd.C_drew ?_) | exact HR203_0.out)) | (with_reducible refine Kd.C_alloc ?_ _) | (with_reducible refine Kd.C_drewN ?_ _) | (with_reducible refine Kd.C_drew ?_))); (case side2 => exact HC203_0.out); rintro e w' ⟨rfl, ⟨nd, rfl⟩⟩; refine ⟨_, rfl, ?_⟩) | (go_at_call 10; (with_reducible refine (davitref07_Has.calls kj21 _ _ x6_3 x10_4 false _ ?side1 ?side2 A35.out).mono ?_); (case side1 => repeat (first | exact (Kd.R_reads' HO_6.out).2.2 | (with_reducible refine Kd.C_alloc ?_ _) | (with_reducible refine Kd.C_drewN ?_ _) | (with_reducible refine Kd.C_drew ?_))); (case side2 => exact (Kd.R_reads' HO_6.out).2.1); rintro e w' ⟨rfl, ⟨nd, rfl⟩⟩))
                      go_roundg kj21
                      case measure => have := HK1.out; have := HK2.out; have := HK3.out; have := HK4.out; have := HJ21.out; omega
                      case rel => exact ⟨(x8_4), (false), (wrap64 (x10_4 + 1)), (by first | rfl | (simp; done) | (simp [*]; done)), (by first | rfl | (simp; done) | (simp [*]; done)), H', ⟨by have := HK1.out; have := HK2.out; have := HK3.out; have := HK4.out; have := HJ21.out; omega⟩, ⟨by (with_reducible repeat (first | apply Kd.S_alloc | apply Kd.S_drewN | apply Kd.S_drew)); exact HO_3.out⟩, ⟨by (with_reducible repeat (first | apply Kd.S_alloc | apply Kd.S_drewN | apply Kd.S_drew)); exact HO_5.out⟩, ⟨by (with_reducible repeat (first | apply Kd.R_alloc | apply Kd.R_drewN | apply Kd.R_drew)); exact HO_6.out⟩, ⟨by (with_reducible repeat (first | apply Kd.R_alloc | apply Kd.R_drewN | apply Kd.R_drew)); exact HO_8.out⟩, ⟨by (with_reducible repeat (first | refine blk_drewN ?_ _ | refine blk_drew ?_ | refine blk_alloc ?_ _)); exact BK182.out⟩, ⟨by repeat (first | (with_reducible first | exact HB.out | apply below_alloc | apply pw_below_drewN | apply below_drew1 | refine below_set ?_ GE182.out) | exact HB.out)⟩⟩
                    ·replace c34 := Bool.eq_false_iff.mpr c34
                     subst c34
                     have H1 : (davitref11_Groups.l3 kj21 x3_1 x5_3 x6_3 x7_3 x8_4 x9_4 (wrap64 (x10_4 + 1))) = some r := by rw [if_neg (show ¬ (false = true) by decide)] at H; exact H
                     clear H
                     have H := H1
                     clear H1
                     have H' := Aside0.mk H
                     clear H
                     have p203 : 0 ≤ (x7_3 : Int) := of_decide_eq_true (by first | (with_reducible assumption) | assumption)
                     have q203 : x7_3 < (x3_1.length : Int) := of_decide_eq_true (by first | (with_reducible assumption) | assumption)
                     obtain ⟨ad203, A203_0, c203_0, e203, hx203_0, hl203_0, hi203_0⟩ := at_L5 (Kd.S_reads' HO_3.out).2.2 x7_3 p203 q203
                     obtain rfl : ad196 = ad203 := (by injection e203)
                     obtain ⟨ce203, hce203, hMe203, hcc203⟩ := Kd.S_get HO_3.out [] x7_3 p203 (by first | exact q203 | exact of_decide_eq_true (by first | (with_reducible assumption) | assumption) | (have e_ := (Kd.S_reads' HO_3.out).1; omega))
                     obtain ⟨ve203_0, rfl, ge203_0⟩ := hMe203
                     have hv203_0 := hcc203 0 _ rfl
                     rw [Nat.add_zero, show ((Kd.slice 3 (Kd.int .i64))).sz = 1 from rfl, Nat.mul_one] at hv203_0
                     replace hv203_0 := Option.some.inj (hv203_0.symm.trans hx203_0)
                     rw [hv203_0] at ge203_0
                     have HL203_0 := Aside0.mk (show Kd.R (Kd.int .i64) 3 _ _ _ _ (rd_L5 x3_1 x7_3) from ge203_0)
                     clear hv203_0 ge203_0
                     clear hcc203 hce203
                     have HR203_0 := Aside0.mk hi203_0
                     have HC203_0 := Aside0.mk hl203_0
                     clear hi203_0 hl203_0
                     replace p203 := eq_true p203
                     replace q203 := eq_true q203
                     go_wp2_with (first | ((with_reducible refine gate_callee (f := 10) rfl ?_); refine goesL_ (some 74) rfl rfl Try.func10 (by kernel_rfl) rfl #[.slice A203_0 (rd_L5 x3_1 x7_3).length c203_0, .int .i64 x10_4] rfl (by (try simp only [List.map_toArray, List.map_cons, List.map_nil]); first | done | rfl | (simp only [List.length_drop, List.length_take]; rfl)) ?_; (with_reducible refine (davitref07_Has.calls kj21 _ _ (rd_L5 x3_1 x7_3) x10_4 false _ ?side1 ?side2 A33.out).mono ?_); (case side1 => repeat (first | exact (by repeat (first | (with_reducible exact HR203_0.out) | (with_reducible refine Kd.C_alloc ?_ _) | (with_reducible refine Kd.C_drewN ?_ _) | (with_reducible refine Kd.C_drew ?_) | exact HR203_0.out)) | (with_reducible refine Kd.C_alloc ?_ _) | (with_reducible refine Kd.C_drewN ?_ _) | (with_reducible refine Kd.C_drew ?_))); (case side2 => exact HC203_0.out); rintro e w' ⟨rfl, ⟨nd, rfl⟩⟩; refine ⟨_, rfl, ?_⟩))
                     go_roundg kj21
                     case measure => have := HK1.out; have := HK2.out; have := HK3.out; have := HK4.out; have := HJ21.out; omega
                     case rel => exact ⟨(x8_4), (x9_4), (wrap64 (x10_4 + 1)), (by first | rfl | (simp; done) | (simp [*]; done)), (by first | rfl | (simp; done) | (simp [*]; done)), H', ⟨by have := HK1.out; have := HK2.out; have := HK3.out; have := HK4.out; have := HJ21.out; omega⟩, ⟨by (with_reducible repeat (first | apply Kd.S_alloc | apply Kd.S_drewN | apply Kd.S_drew)); exact HO_3.out⟩, ⟨by (with_reducible repeat (first | apply Kd.S_alloc | apply Kd.S_drewN | apply Kd.S_drew)); exact HO_5.out⟩, ⟨by (with_reducible repeat (first | apply Kd.R_alloc | apply Kd.R_drewN | apply Kd.R_drew)); exact HO_6.out⟩, ⟨by (with_reducible repeat (first | apply Kd.R_alloc | apply Kd.R_drewN | apply Kd.R_drew)); exact HO_8.out⟩, ⟨by (with_reducible repeat (first | refine blk_drewN ?_ _ | refine blk_drew ?_ | refine blk_alloc ?_ _)); exact BK182.out⟩, ⟨by repeat (first | (with_reducible first | exact HB.out | apply below_alloc | apply pw_below_drewN | apply below_drew1 | refine below_set ?_ GE182.out) | exact HB.out)⟩⟩
                   ·rw [if_neg c32] at H
                    exact absurd H (by simp)
                  ·rw [if_neg c31] at H
                   exact absurd H (by simp)
              ·rw [if_neg c20] at H
               exact absurd H (by simp)
             ·rw [if_neg c19] at H
              have c19b0 : decide (x10_4 < (x3_1.length : Int)) = false := decide_eq_false c19
              clear c19
              by_cases c37 : x9_4 = true
              ·subst c37
               have H1 : (if x5_3.length < 5864062014805 then (if x6_3.length + x8_4.length < 17592186044416 then (davitref11_Groups.l1 k4 x3_1 (x5_3 ++ [x8_4]) (x6_3 ++ x8_4)) else (none)) else (none)) = some r := by rw [if_pos rfl] at H; exact H
               clear H
               have H := H1
               clear H1
               by_cases c38 : x5_3.length < 5864062014805
               ·rw [if_pos c38] at H
                have LMc38 := Aside0.mk c38
                clear c38
                obtain ⟨y190, hy190⟩ : ∃ y_ : List (List Int), y_ = (x5_3 ++ [x8_4]) := ⟨_, rfl⟩
                replace H : (if x6_3.length + x8_4.length < 17592186044416 then (davitref11_Groups.l1 k4 x3_1 y190 (x6_3 ++ x8_4)) else (none)) = some r := by first | (rw [hy190]; with_reducible exact H) | (have H2_ := (Option.bind_some _ _).symm.trans H; rw [hy190]; with_reducible exact H2_) | (have H2_ := (Option.bind_some _ _).symm.trans H; with_reducible exact H2_) | with_reducible exact H | (rw [hy190]; exact H) | exact H
                have Ny190 := Aside0.mk hy190
                clear hy190
                by_cases c39 : x6_3.length + x8_4.length < 17592186044416
                ·rw [if_pos c39] at H
                 have LMc39 := Aside0.mk c39
                 clear c39
                 obtain ⟨y193, hy193⟩ : ∃ y_ : List Int, y_ = (x6_3 ++ x8_4) := ⟨_, rfl⟩
                 replace H : (davitref11_Groups.l1 k4 x3_1 y190 y193) = some r := by first | (rw [hy193]; with_reducible exact H) | (have H2_ := (Option.bind_some _ _).symm.trans H; rw [hy193]; with_reducible exact H2_) | (have H2_ := (Option.bind_some _ _).symm.trans H; with_reducible exact H2_) | with_reducible exact H | (rw [hy193]; exact H) | exact H
                 have Ny193 := Aside0.mk hy193
                 clear hy193
                 have H' := Aside0.mk H
                 clear H
                 obtain ⟨Ao41, co41, eo41⟩ := Kd.R_slice HO_8.out
                 subst eo41
                 go_wp2_with (first | ((with_reducible refine gate_builtin (b := .append) (xs := #[.tmp 82, .tmp 84]) rfl ?_); at_builtin; refine Kd.S_append (Kd.slice 3 (Kd.int .i64)) (w0 := w) w.heap.size rfl (.tmp 82) (.tmp 84) 27 29 (.slice none 0 0) 24 rfl Try.underlying27 info29 rfl (by decide) (by omega) u5 x5_3 x8_4 [.slice Ao41 x8_4.length co41] (fun k_ => some k_ ≠ (.slice Ao13 x3_1.length co13 : Value).ownBlock ∧ some k_ ≠ (.slice Ao18 x6_3.length co18 : Value).ownBlock) (fun k_ => some k_ = (.slice Ao41 x8_4.length co41 : Value).ownBlock) rfl rfl ?aP (fun k_ hk_ => ((Kd.R_mono (ok' := fun k_ => ((fun k_ => some k_ ≠ (.slice Ao13 x3_1.length co13 : Value).ownBlock ∧ some k_ ≠ (.slice Ao18 x6_3.length co18 : Value).ownBlock)) k_ ∧ some k_ ≠ (u5 : Value).ownBlock) (Kd.R_apart' (Kd.R_apart' (HO_8.out) (Kd.S_typed HO_3.out) (by decide)) (Kd.S_typed HO_5.out) (by decide)) (fun k_ hk => ⟨⟨hk.1.2, hk.1.1⟩, hk.2⟩))).1 k_ hk_.symm) ?aF ?aO ?aB ?aS ?aL ?_; (case aP => exact Kd.M_row (Kd.R_mono (Kd.R_tight rfl (Kd.R_mono (ok' := fun k_ => ((fun k_ => some k_ ≠ (.slice Ao13 x3_1.length co13 : Value).ownBlock ∧ some k_ ≠ (.slice Ao18 x6_3.length co18 : Value).ownBlock)) k_ ∧ some k_ ≠ (u5 : Value).ownBlock) (Kd.R_apart' (Kd.R_apart' (HO_8.out) (Kd.S_typed HO_3.out) (by decide)) (Kd.S_typed HO_5.out) (by decide)) (fun k_ hk => ⟨⟨hk.1.2, hk.1.1⟩, hk.2⟩))) (fun _ h_ => h_))); (case aB => exact (by repeat (first | (with_reducible first | exact HB.out | apply below_alloc | apply pw_below_drewN | apply below_drew1 | refine below_set ?_ GE182.out) | exact HB.out))); (case aF => exact (fun k_ hk => ⟨Kd.fresh' (Kd.S_lt (by (with_reducible repeat (first | apply Kd.S_alloc | apply Kd.S_drewN | apply Kd.S_drew)); exact HO_3.out)) k_ hk, Kd.fresh' (Kd.R_lt (by (with_reducible repeat (first | apply Kd.R_alloc | apply Kd.R_drewN | apply Kd.R_drew)); exact HO_6.out)) k_ hk⟩)); (case aO => exact (by (with_reducible repeat (first | apply Kd.S_alloc | apply Kd.S_drewN | apply Kd.S_drew)); exact Kd.S_mono HO_5.out (fun k_ hk => ⟨⟨hk.1, hk.2.1⟩, fun e_ => hk.2.2 e_⟩))); (case aS => exact (below_size (by repeat (first | (with_reducible first | exact HB.out | apply below_alloc | apply pw_below_drewN | apply below_drew1 | refine below_set ?_ GE182.out) | exact HB.out)))); (case aL => have := LMc38.out; omega); intro v191 w40 ho hb hg hat; rw [← Ny190.out] at ho; have n0_ := Aside0.mk (Kd.S_after (ok := (fun k_ => some k_ ≠ (.slice Ao18 x6_3.length co18 : Value).ownBlock ∧ some k_ ≠ (.slice Ao41 x8_4.length co41 : Value).ownBlock)) (by (with_reducible repeat (first | apply Kd.S_alloc | apply Kd.S_drewN | apply Kd.S_drew)); exact Kd.S_mono HO_3.out (fun _ hk => ⟨⟨hk.2.1, hk.2.2⟩, hk.1⟩)) hg hat); have n1_ := Aside0.mk (Kd.R_over' (by (with_reducible repeat (first | apply Kd.R_alloc | apply Kd.R_drewN | apply Kd.R_drew)); exact HO_6.out) (Kd.S_typed (by (with_reducible repeat (first | apply Kd.S_alloc | apply Kd.S_drewN | apply Kd.S_drew)); exact HO_5.out)) (by decide) hg); have n2_ := Aside0.mk (blk_grown (g := gb182) (o := .cells #[.slice A0_0 l0_0.length c0_0] 24 (0, 0)) (by (with_reducible repeat (first | refine blk_drewN ?_ _ | refine blk_drew ?_ | refine blk_alloc ?_ _)); exact BK182.out) hg (Kd.S_ne HO_5.out BK182.out (by decide))); have n3_ := Aside0.mk (hb); have n4_ := Aside0.mk (ho); have HC8_ := Aside0.mk (Kd.R_reads' (Kd.R_over' (by (with_reducible repeat (first | apply Kd.R_alloc | apply Kd.R_drewN | apply Kd.R_drew)); exact HO_8.out) (Kd.S_typed (by (with_reducible repeat (first | apply Kd.S_alloc | apply Kd.S_drewN | apply Kd.S_drew)); exact HO_5.out)) (by decide) hg)).2.2; clear HO_3; clear HO_6; clear BK182; clear HB; clear HO_5; clear HO_8; have HO_3 := n0_; have HO_6 := n1_; have BK182 := n2_; have HB := n3_; have HO192 := n4_; clear n0_ n1_ n2_ n3_ n4_; clear ho hb hg hat) | ((with_reducible refine gate_builtin (b := .append) (xs := #[.tmp 86, .tmp 87]) rfl ?_); at_builtin; refine Kd.R_append_rows (Kd.int .i64) (w0 := w) w.heap.size rfl (.tmp 86) (.tmp 87) 29 3 (.int .i64 0) 8 rfl Try.underlying29 info3 rfl (by decide) (by omega) (.slice Ao18 x6_3.length co18) x6_3 x8_4 _ _ _ (fun _ => True) (fun _ => False) rfl rfl ?aO ?aR (fun _ _ h => h) (fun _ h => h.elim) ?aF ?aB ?aS ?aL ?_; (case aR => repeat (first | exact HC8_.out | (with_reducible refine Kd.C_alloc ?_ _) | (with_reducible refine Kd.C_drewN ?_ _) | (with_reducible refine Kd.C_drew ?_))); (case aB => exact (by repeat (first | (with_reducible first | exact HB.out | apply below_alloc | apply pw_below_drewN | apply below_drew1 | refine below_set ?_ GE182.out) | exact HB.out))); (case aF => exact (fun _ _ => trivial)); (case aO => exact (by (with_reducible repeat (first | apply Kd.R_alloc | apply Kd.R_drewN | apply Kd.R_drew)); exact Kd.R_mono HO_6.out (fun _ hk => trivial))); (case aS => exact (below_size (by repeat (first | (with_reducible first | exact HB.out | apply below_alloc | apply pw_below_drewN | apply below_drew1 | refine below_set ?_ GE182.out) | exact HB.out)))); (case aL => have := LMc39.out; omega); intro v194 w42 ho hb hg hat; rw [← Ny193.out] at ho; have n0_ := Aside0.mk (Kd.S_after (ok := (fun k_ => some k_ ≠ (v191 : Value).ownBlock)) (by (with_reducible repeat (first | apply Kd.S_alloc | apply Kd.S_drewN | apply Kd.S_drew)); exact Kd.S_mono HO_3.out (fun _ hk => ⟨hk.2, hk.1.1⟩)) hg hat); have n1_ := Aside0.mk (blk_grown (g := gb182) (o := .cells #[.slice A0_0 l0_0.length c0_0] 24 (0, 0)) (by (with_reducible repeat (first | refine blk_drewN ?_ _ | refine blk_drew ?_ | refine blk_alloc ?_ _)); exact BK182.out) hg (Kd.R_ne HO_6.out BK182.out (by decide))); have n2_ := Aside0.mk (Kd.S_after (ok := (fun k_ => some k_ ≠ (.slice Ao13 x3_1.length co13 : Value).ownBlock)) (by (with_reducible repeat (first | apply Kd.S_alloc | apply Kd.S_drewN | apply Kd.S_drew)); exact HO192.out) hg hat); have n3_ := Aside0.mk (hb); have n4_ := Aside0.mk (ho); clear HO_3; clear BK182; clear HO192; clear HB; clear HO_6; have HO_3 := n0_; have BK182 := n1_; have HO192 := n2_; have HB := n3_; have HO195 := n4_; clear n0_ n1_ n2_ n3_ n4_; clear ho hb hg hat))
                 go_roundg k4
                 case measure => have := HK1.out; have := HK2.out; have := HK3.out; have := HK4.out; omega
                 case rel => exact ⟨(y190), (y193), H', ⟨by have := HK1.out; have := HK2.out; have := HK3.out; have := HK4.out; omega⟩, ⟨by (with_reducible repeat (first | apply Kd.S_alloc | apply Kd.S_drewN | apply Kd.S_drew)); exact HO_3.out⟩, ⟨by (with_reducible repeat (first | apply Kd.S_alloc | apply Kd.S_drewN | apply Kd.S_drew)); exact HO192.out⟩, ⟨by (with_reducible repeat (first | apply Kd.R_alloc | apply Kd.R_drewN | apply Kd.R_drew)); exact HO195.out⟩, ⟨by (with_reducible repeat (first | refine blk_drewN ?_ _ | refine blk_drew ?_ | refine blk_alloc ?_ _)); exact BK182.out⟩, ⟨by repeat (first | (with_reducible first | exact HB.out | apply below_alloc | apply pw_below_drewN | apply below_drew1 | refine below_set ?_ GE182.out) | exact HB.out)⟩⟩
                ·rw [if_neg c39] at H
                 exact absurd H (by simp)
               ·rw [if_neg c38] at H
                exact absurd H (by simp)
              ·replace c37 := Bool.eq_false_iff.mpr c37
               subst c37
               have H1 : (davitref11_Groups.l2 k4 x3_1 x5_3 x6_3 (wrap64 (x7_3 + 1))) = some r := by rw [if_neg (show ¬ (false = true) by decide)] at H; exact H
               clear H
               have H := H1
               clear H1
               have H' := Aside0.mk H
               clear H
               go_wp2
               go_roundg k4
               case measure => have := HK1.out; have := HK2.out; have := HK3.out; have := HK4.out; omega
               case rel => exact ⟨(x5_3), (x6_3), (wrap64 (x7_3 + 1)), (by first | rfl | (simp; done) | (simp [*]; done)), H', ⟨by have := HK1.out; have := HK2.out; have := HK3.out; have := HK4.out; omega⟩, ⟨by (with_reducible repeat (first | apply Kd.S_alloc | apply Kd.S_drewN | apply Kd.S_drew)); exact Kd.S_mono HO_3.out (fun _ hk => ⟨hk.1, hk.2.1⟩)⟩, ⟨by (with_reducible repeat (first | apply Kd.S_alloc | apply Kd.S_drewN | apply Kd.S_drew)); exact Kd.S_mono HO_5.out (fun _ hk => ⟨hk.1, hk.2.1⟩)⟩, ⟨by (with_reducible repeat (first | apply Kd.R_alloc | apply Kd.R_drewN | apply Kd.R_drew)); exact Kd.R_mono HO_6.out (fun _ hk => trivial)⟩, ⟨by (with_reducible repeat (first | refine blk_drewN ?_ _ | refine blk_drew ?_ | refine blk_alloc ?_ _)); exact BK182.out⟩, ⟨by repeat (first | (with_reducible first | exact HB.out | apply below_alloc | apply pw_below_drewN | apply below_drew1 | refine below_set ?_ GE182.out) | exact HB.out)⟩⟩
         ·rw [if_neg c14] at H
          have c14b0 : decide (x7_3 < (x3_1.length : Int)) = false := decide_eq_false c14
          clear c14
          have H' := Aside0.mk H
          clear H
          go_wp2
          go_roundg k3
          case measure => have := HK1.out; have := HK2.out; have := HK3.out; omega
          case rel => exact ⟨(x5_3), (x6_3), H', ⟨by have := HK1.out; have := HK2.out; have := HK3.out; omega⟩, ⟨by (with_reducible repeat (first | apply Kd.S_alloc | apply Kd.S_drewN | apply Kd.S_drew)); exact HO_3.out⟩, ⟨by (with_reducible repeat (first | apply Kd.S_alloc | apply Kd.S_drewN | apply Kd.S_drew)); exact HO_5.out⟩, ⟨by (with_reducible repeat (first | apply Kd.R_alloc | apply Kd.R_drewN | apply Kd.R_drew)); exact HO_6.out⟩, ⟨by (with_reducible repeat (first | refine blk_drewN ?_ _ | refine blk_drew ?_ | refine blk_alloc ?_ _)); exact BK182.out⟩, ⟨by repeat (first | (with_reducible first | exact HB.out | apply below_alloc | apply pw_below_drewN | apply below_drew1 | refine below_set ?_ GE182.out) | exact HB.out)⟩⟩
      ·rw [if_neg c11] at H
       have c11b0 : decide ((x6_2.length : Int) < (x3_1.length : Int)) = false := decide_eq_false c11
       have c11b1 : decide (x6_2.length < x3_1.length) = false := decide_eq_false (fun h => c11 (Int.ofNat_lt.mpr h))
       clear c11
       obtain rfl := Option.some.inj H
       obtain ⟨Ao43, co43, eo43⟩ := Kd.R_slice HO_6.out
       subst eo43
       obtain ⟨Ao44, co44, eo44⟩ := Kd.S_slice HO_3.out
       subst eo44
       go_wp2
       go_ret
       exact ⟨_, by first | rfl | (simp [errW_none, errW_some] <;> rfl) | (simp [*, errW_none, errW_some] <;> rfl), by (with_reducible repeat (first | apply Kd.S_alloc | apply Kd.S_drewN | apply Kd.S_drew)); exact Kd.S_mono HO_5.out (fun _ hk => trivial), by repeat (first | (with_reducible first | exact HB.out | apply below_alloc | apply pw_below_drewN | apply below_drew1 | refine below_set ?_ GE182.out) | exact HB.out)⟩
end
end Go.Proofs.Ytjjcnbfmmhokeaa.X
namespace Go.Proofs.Ytjjcnbfmmhokeaa.X
open Go.Shelf Go.RowKit Go.Proofs.YtjjcnbfmmhokeaaW.PrintWords Go.Proofs.YtjjcnbfmmhokeaaW.PrintLast Go.Proofs.YtjjcnbfmmhokeaaW.PrintMore
set_option linter.all false
def tv (t : List (List Bool)) (a b : Nat) : Bool := (t.getD a []).getD b false
def Sq (t : List (List Bool)) : Prop := t.length ≤ 1000 ∧ ∀ r ∈ t, r.length = t.length
instance (t : List (List Bool)) : Decidable (Sq t) := inferInstanceAs (Decidable (_ ∧ _))
theorem Sq.row {t : List (List Bool)} (h : Sq t) {a : Nat} (ha : a < t.length) : (t.getD a []).length = t.length := by
 rw [List.getD_eq_getElem?_getD, List.getElem?_eq_getElem ha]
 exact h.2 _ (List.getElem_mem ha)
def grpL (t : List (List Bool)) (n : Nat) (m : Nat) : List Int := ((List.range m).filter fun k => k == n || (tv t n k && tv t k n)).map fun (k : Nat) => (k : Int)
theorem grpL_step (t : List (List Bool)) (n m : Nat) : grpL t n (m + 1) = grpL t n m ++ (if m = n ∨ (tv t n m = true ∧ tv t m n = true) then [(m : Int)] else []) := by
 unfold grpL
 rw [List.range_succ, List.filter_append, List.map_append]
 congr 1
 by_cases h : m = n ∨ (tv t n m = true ∧ tv t m n = true)
 ·rw [if_pos h, List.filter_cons_of_pos (by simpa using h)]; rfl
 ·rw [if_neg h, List.filter_cons_of_neg (by simpa using h)]; rfl
theorem grpL_len (t : List (List Bool)) (n m : Nat) : (grpL t n m).length ≤ m := by
 unfold grpL
 rw [List.length_map]
 exact Nat.le_trans (List.length_filter_le _ _) (by simp)
def freeTo (t : List (List Bool)) (d : List Bool) (n : Nat) (m : Nat) : Bool := (List.range m).all fun k => !(tv t n k && !(d.getD k false) && !(tv t k n) && !(k == n))
def freeB (t : List (List Bool)) (d : List Bool) (n : Nat) : Bool := freeTo t d n t.length && !(d.getD n false)
theorem freeTo_step (t : List (List Bool)) (d : List Bool) (n m : Nat) : freeTo t d n (m + 1) = (freeTo t d n m && !(tv t n m && !(d.getD m false) && !(tv t m n) && !(m == n))) := by
 unfold freeTo
 rw [List.range_succ, List.all_append]
 simp
theorem freeTo_false {t : List (List Bool)} {d : List Bool} {n m : Nat} (h : freeTo t d n m = false) {N : Nat} (hN : m ≤ N) : freeTo t d n N = false := by
 obtain ⟨e, rfl⟩ := Nat.exists_eq_add_of_le hN
 clear hN
 induction e with
 | zero => exact h
 | succ e ih => rw [← Nat.add_assoc, freeTo_step, ih, Bool.false_and]
theorem tab_cell {W : World} {A : Option Addr} {t : List (List Bool)} (h : Kd.C (Kd.slice 4 Kd.bool) W A t.length t) (hs : Sq t) (a b : Nat) (ha : a < t.length) (hb : b < t.length) :
  ∃ ad A0 c0, A = some ad ∧ W.cell? (ad.add a) = some (.slice (some A0) t.length c0) ∧ W.cell? (A0.add b) = some (.bool (tv t a b)) := by
 obtain ⟨ad, A0, c0, e, h1, h2, h3⟩ := at_L15 h (a : Int) (by omega) (by omega)
 rw [show rd_L15 t (a : Int) = t.getD a [] by unfold rd_L15; rw [Int.toNat_natCast]] at h1 h2 h3
 rw [hs.row ha] at h1 h2 h3
 obtain ⟨ad0, e0, h4⟩ := Kd.at_bool h3 (b : Int) (by omega) (by omega)
 rw [Int.toNat_natCast] at h1 h4
 subst e0
 refine ⟨ad, ad0, c0, e, h1, ?_⟩
 rw [h4]
 unfold rdOf tv
 rw [Int.toNat_natCast]
set_option maxHeartbeats 8000000 in
set_option maxRecDepth 100000 in
theorem groups_group (A : Option Addr) (c : Nat) (t : List (List Bool)) (n : Nat) (g3 : Nat) (w : World) (hs : Sq t) (hn : n < t.length) (hC : Kd.C (Kd.slice 4 Kd.bool) w A t.length t) (hb3 : w.heap[g3]? = some (.cells #[.slice A t.length c] 52 (0, 0))) :
  Calls Try.prog 19 #[.int .i64 n, .pointer (some ⟨g3, 0, none⟩)] w fun e w' => ∃ v0_ : Value, e = .returned v0_ ∧ Kd.R (Kd.int .i64) 3 w' w.heap.size (fun _ => True) v0_ (grpL t n t.length) ∧ Below w.heap.size w w' := by
 have HC := Aside0.mk hC
 have B3 := Aside0.mk hb3
 have HS := Aside0.mk hs
 have HN := Aside0.mk hn
 have hcy := (blk_cell hb3 0).trans rfl
 clear hC hb3 hs hn
 go_enter Try.func19, Try.ntmps19
 go_wp2
 clear hcy
 go_loopg [4, 8] t.length (fun gg s4 s8 wr => ∃ (x : Nat), s8 = .int .i64 x ∧ t.length - x ≤ gg ∧ Aside0 (x ≤ t.length) ∧ Aside0 (Kd.R (Kd.int .i64) 3 wr w.heap.size (fun _ => True) s4 (grpL t n x)) ∧ Aside0 (Below w.heap.size w wr))
 case atStart => exact ⟨0, rfl, by omega, ⟨Nat.zero_le _⟩, ⟨Kd.R_nil _ _ _ _ _⟩, ⟨Below.refl _ _⟩⟩
 case round =>
  obtain ⟨x, rfl, hgg, HX, HO, HB⟩ := hrel
  by_cases hlt : x < t.length
  ·have hltz : (x : Int) < (t.length : Int) := by omega
   have HLT := Aside0.mk hlt
   have hcz := (blk_cell (blk_below B3.out HB.out) 0).trans rfl
   obtain ⟨ad, A1, c1, e1, hx1, hx2⟩ := tab_cell (Kd.C_below HC.out HB.out) HS.out n x HN.out hlt
   obtain ⟨ad', A2, c2, e2, hx3, hx4⟩ := tab_cell (Kd.C_below HC.out HB.out) HS.out x n hlt HN.out
   rw [e1] at e2
   cases e2
   cases e1
   have p1 : (0 ≤ (x : Int)) = True := eq_true (by omega)
   have p2 : (0 ≤ (n : Int)) = True := eq_true (by omega)
   have q2 : ((n : Int) < (t.length : Int)) = True := eq_true (by have := HN.out; omega)
   have HST := Aside0.mk (grpL_step t n x)
   by_cases hxn : x = n
   ·have hb1 : ((x : Int) == (n : Int)) = true := by rw [hxn]; simp
    have HY := Aside0.mk (show x = n ∨ (tv t n x = true ∧ tv t x n = true) from .inl hxn)
    clear hxn hlt
    go_wp2_with (first | ((with_reducible refine gate_builtin (b := .append) (xs := #[.tmp 32, .tmp 34]) rfl ?_); at_builtin; refine Kd.R_append (Kd.int .i64) (w0 := w) w.heap.size rfl (.tmp 32) (.tmp 34) 29 3 (.int .i64 0) 8 rfl Try.underlying29 info3 rfl (by decide) (by omega) _ (grpL t n x) (x : Int) [.int .i64 (x : Int)] (fun _ => True) (fun _ => False) rfl rfl ?aP (fun _ hk => hk.elim) ?aF ?aO ?aB ?aS ?aL ?_; (case aP => exact rfl); (case aB => exact HB.out); (case aF => exact (fun _ _ => trivial)); (case aO => exact HO.out); (case aS => exact (below_size HB.out)); (case aL => have := grpL_len t n x; have := HLT.out; have := HS.out.1; omega); intro vq wq ho hb hg hat; have HO3 := Aside0.mk ho; have HB3 := Aside0.mk hb; clear ho hb hg hat))
    go_roundg (t.length - (x + 1))
    case measure => have := HLT.out; omega
    case rel => exact ⟨x + 1, (by first | go_num | (rw [wrap64_small _ (by have := HS.out.1; have := HLT.out; omega) (by have := HS.out.1; have := HLT.out; omega)]; go_num)), Nat.le_refl _, ⟨by have := HLT.out; omega⟩, ⟨by rw [HST.out, if_pos HY.out]; exact HO3.out⟩, HB3⟩
   ·have hb1 : ((x : Int) == (n : Int)) = false := beq_eq_false_iff_ne.2 (by omega)
    cases h1 : tv t n x with
    | false =>
     have HY := Aside0.mk (show ¬ (x = n ∨ (tv t n x = true ∧ tv t x n = true)) by rw [h1]; simp [hxn])
     rw [h1] at hx2
     clear hxn hlt h1
     go_wp2
     go_roundg (t.length - (x + 1))
     case measure => have := HLT.out; omega
     case rel => exact ⟨x + 1, (by first | go_num | (rw [wrap64_small _ (by have := HS.out.1; have := HLT.out; omega) (by have := HS.out.1; have := HLT.out; omega)]; go_num)), Nat.le_refl _, ⟨by have := HLT.out; omega⟩, ⟨by rw [HST.out, if_neg HY.out, List.append_nil]; exact HO.out⟩, HB⟩
    | true =>
     rw [h1] at hx2
     cases h2 : tv t x n with
     | false =>
      have HY := Aside0.mk (show ¬ (x = n ∨ (tv t n x = true ∧ tv t x n = true)) by rw [h2]; simp [hxn])
      rw [h2] at hx4
      clear hxn hlt h1 h2
      go_wp2
      go_roundg (t.length - (x + 1))
      case measure => have := HLT.out; omega
      case rel => exact ⟨x + 1, (by first | go_num | (rw [wrap64_small _ (by have := HS.out.1; have := HLT.out; omega) (by have := HS.out.1; have := HLT.out; omega)]; go_num)), Nat.le_refl _, ⟨by have := HLT.out; omega⟩, ⟨by rw [HST.out, if_neg HY.out, List.append_nil]; exact HO.out⟩, HB⟩
     | true =>
      have HY := Aside0.mk (show x = n ∨ (tv t n x = true ∧ tv t x n = true) from .inr ⟨h1, h2⟩)
      rw [h2] at hx4
      clear hxn hlt h1 h2
      go_wp2_with (first | ((with_reducible refine gate_builtin (b := .append) (xs := #[.tmp 32, .tmp 34]) rfl ?_); at_builtin; refine Kd.R_append (Kd.int .i64) (w0 := w) w.heap.size rfl (.tmp 32) (.tmp 34) 29 3 (.int .i64 0) 8 rfl Try.underlying29 info3 rfl (by decide) (by omega) _ (grpL t n x) (x : Int) [.int .i64 (x : Int)] (fun _ => True) (fun _ => False) rfl rfl ?aP (fun _ hk => hk.elim) ?aF ?aO ?aB ?aS ?aL ?_; (case aP => exact rfl); (case aB => exact HB.out); (case aF => exact (fun _ _ => trivial)); (case aO => exact HO.out); (case aS => exact (below_size HB.out)); (case aL => have := grpL_len t n x; have := HLT.out; have := HS.out.1; omega); intro vq wq ho hb hg hat; have HO3 := Aside0.mk ho; have HB3 := Aside0.mk hb; clear ho hb hg hat))
      go_roundg (t.length - (x + 1))
      case measure => have := HLT.out; omega
      case rel => exact ⟨x + 1, (by first | go_num | (rw [wrap64_small _ (by have := HS.out.1; have := HLT.out; omega) (by have := HS.out.1; have := HLT.out; omega)]; go_num)), Nat.le_refl _, ⟨by have := HLT.out; omega⟩, ⟨by rw [HST.out, if_pos HY.out]; exact HO3.out⟩, HB3⟩
  ·have HXE := Aside0.mk (show x = t.length by have := HX.out; omega)
   have hltz : ¬ (x : Int) < (t.length : Int) := by omega
   have hd : decide ((x : Int) < (t.length : Int)) = false := decide_eq_false hltz
   rw [HXE.out] at HO
   clear hltz
   go_wp2
   go_ret
   exact ⟨_, rfl, HO.out, HB.out⟩
set_option maxHeartbeats 8000000 in
set_option maxRecDepth 100000 in
theorem groups_free (A : Option Addr) (c : Nat) (t : List (List Bool)) (n : Nat) (g3 g5 : Nat) (Ad : Option Addr) (cd : Nat) (d : List Bool) (w : World) (hs : Sq t) (hn : n < t.length) (hC : Kd.C (Kd.slice 4 Kd.bool) w A t.length t) (hb3 : w.heap[g3]? = some (.cells #[.slice A t.length c] 52 (0, 0)))
  (hdl : d.length = t.length) (hD : Kd.C Kd.bool w Ad d.length d) (hb5 : w.heap[g5]? = some (.cells #[.slice Ad d.length cd] 49 (0, 0))) :
  Calls Try.prog 20 #[.int .i64 n, .pointer (some ⟨g3, 0, none⟩), .pointer (some ⟨g5, 0, none⟩)] w fun e w' => e = .returned (.bool (freeB t d n)) ∧ Below w.heap.size w w' := by
 have HC := Aside0.mk hC
 have HD := Aside0.mk hD
 have B3 := Aside0.mk hb3
 have B5 := Aside0.mk hb5
 have HS := Aside0.mk hs
 have HN := Aside0.mk hn
 have HDL := Aside0.mk hdl
 have hcy := (blk_cell hb3 0).trans rfl
 clear hC hb3 hs hn hD hb5 hdl
 go_enter Try.func20, Try.ntmps20
 go_wp2
 clear hcy
 go_loopg [8] t.length (fun gg s8 wr => ∃ (x : Nat), s8 = .int .i64 x ∧ t.length - x ≤ gg ∧ Aside0 (x ≤ t.length) ∧ Aside0 (freeTo t d n x = true) ∧ Aside0 (Below w.heap.size w wr))
 case atStart => exact ⟨0, rfl, by omega, ⟨Nat.zero_le _⟩, ⟨rfl⟩, ⟨Below.refl _ _⟩⟩
 case round =>
  obtain ⟨x, rfl, hgg, HX, HF, HB⟩ := hrel
  have hcz := (blk_cell (blk_below B3.out HB.out) 0).trans rfl
  have hcw := (blk_cell (blk_below B5.out HB.out) 0).trans rfl
  have p2 : (0 ≤ (n : Int)) = True := eq_true (by omega)
  have q2 : ((n : Int) < (t.length : Int)) = True := eq_true (by have := HN.out; omega)
  have q3 : ((n : Int) < (d.length : Int)) = True := eq_true (by have := HN.out; have := HDL.out; omega)
  by_cases hlt : x < t.length
  ·have hltz : (x : Int) < (t.length : Int) := by omega
   have q1 : ((x : Int) < (d.length : Int)) = True := eq_true (by have := HDL.out; omega)
   have HLT := Aside0.mk hlt
   obtain ⟨ad, A1, c1, e1, hx1, hx2⟩ := tab_cell (Kd.C_below HC.out HB.out) HS.out n x HN.out hlt
   obtain ⟨ad', A2, c2, e2, hx3, hx4⟩ := tab_cell (Kd.C_below HC.out HB.out) HS.out x n hlt HN.out
   rw [e1] at e2
   cases e2
   cases e1
   obtain ⟨ad5, e5, hx5⟩ := Kd.at_bool (Kd.C_below HD.out HB.out) (x : Int) (by omega) (by have := HDL.out; omega)
   cases e5
   rw [Int.toNat_natCast, show rdOf false d (x : Int) = d.getD x false by unfold rdOf; rw [Int.toNat_natCast]] at hx5
   have p1 : (0 ≤ (x : Int)) = True := eq_true (by omega)
   have HST := Aside0.mk (freeTo_step t d n x)
   cases h1 : tv t n x with
   | false =>
    have HY := Aside0.mk (show freeTo t d n (x + 1) = true by rw [HST.out, HF.out, h1]; rfl)
    rw [h1] at hx2
    clear hlt h1
    go_wp2
    go_roundg (t.length - (x + 1))
    case measure => have := HLT.out; omega
    case rel => exact ⟨x + 1, (by first | go_num | (rw [wrap64_small _ (by have := HS.out.1; have := HLT.out; omega) (by have := HS.out.1; have := HLT.out; omega)]; go_num)), Nat.le_refl _, ⟨by have := HLT.out; omega⟩, HY, HB⟩
   | true =>
    rw [h1] at hx2
    cases h3 : d.getD x false with
    | true =>
     have HY := Aside0.mk (show freeTo t d n (x + 1) = true by rw [HST.out, HF.out, h1, h3]; rfl)
     rw [h3] at hx5
     clear hlt h1 h3
     go_wp2
     go_roundg (t.length - (x + 1))
     case measure => have := HLT.out; omega
     case rel => exact ⟨x + 1, (by first | go_num | (rw [wrap64_small _ (by have := HS.out.1; have := HLT.out; omega) (by have := HS.out.1; have := HLT.out; omega)]; go_num)), Nat.le_refl _, ⟨by have := HLT.out; omega⟩, HY, HB⟩
    | false =>
     rw [h3] at hx5
     cases h2 : tv t x n with
     | true =>
      have HY := Aside0.mk (show freeTo t d n (x + 1) = true by rw [HST.out, HF.out, h1, h3, h2]; rfl)
      rw [h2] at hx4
      clear hlt h1 h3 h2
      go_wp2
      go_roundg (t.length - (x + 1))
      case measure => have := HLT.out; omega
      case rel => exact ⟨x + 1, (by first | go_num | (rw [wrap64_small _ (by have := HS.out.1; have := HLT.out; omega) (by have := HS.out.1; have := HLT.out; omega)]; go_num)), Nat.le_refl _, ⟨by have := HLT.out; omega⟩, HY, HB⟩
     | false =>
      rw [h2] at hx4
      by_cases hxn : x = n
      ·have hb1 : ((x : Int) != (n : Int)) = false := by rw [hxn]; simp
       have HY := Aside0.mk (show freeTo t d n (x + 1) = true by rw [HST.out, HF.out, h1, h3, h2, hxn]; simp)
       clear hlt h1 h3 h2 hxn
       go_wp2
       go_roundg (t.length - (x + 1))
       case measure => have := HLT.out; omega
       case rel => exact ⟨x + 1, (by first | go_num | (rw [wrap64_small _ (by have := HS.out.1; have := HLT.out; omega) (by have := HS.out.1; have := HLT.out; omega)]; go_num)), Nat.le_refl _, ⟨by have := HLT.out; omega⟩, HY, HB⟩
      ·have hb1 : ((x : Int) != (n : Int)) = true := bne_iff_ne.2 (by omega)
       have HY := Aside0.mk (show freeB t d n = false by
        have : freeTo t d n (x + 1) = false := by rw [HST.out, HF.out, h1, h3, h2]; simp [hxn]
        unfold freeB
        rw [freeTo_false this hlt, Bool.false_and])
       clear hlt h1 h3 h2 hxn
       go_wp2
       go_ret
       exact ⟨by rw [HY.out]; rfl, HB.out⟩
  ·have HXE := Aside0.mk (show x = t.length by have := HX.out; omega)
   have hltz : ¬ (x : Int) < (t.length : Int) := by omega
   have hd : decide ((x : Int) < (t.length : Int)) = false := decide_eq_false hltz
   obtain ⟨ad5, e5, hx5⟩ := Kd.at_bool (Kd.C_below HD.out HB.out) (n : Int) (by omega) (by have := HDL.out; have := HN.out; omega)
   cases e5
   rw [Int.toNat_natCast, show rdOf false d (n : Int) = d.getD n false by unfold rdOf; rw [Int.toNat_natCast]] at hx5
   have HY := Aside0.mk (show freeB t d n = !(d.getD n false) by have := HF.out; rw [HXE.out] at this; unfold freeB; rw [this, Bool.true_and])
   clear hltz
   go_wp2
   go_ret
   exact ⟨by rw [HY.out]; rfl, HB.out⟩
end Go.Proofs.Ytjjcnbfmmhokeaa.X
namespace Go.Proofs.Ytjjcnbfmmhokeaa.X
open Go.Shelf Go.RowKit Go.Proofs.YtjjcnbfmmhokeaaW.PrintWords Go.Proofs.YtjjcnbfmmhokeaaW.PrintLast Go.Proofs.YtjjcnbfmmhokeaaW.PrintMore
set_option linter.all false
def markL (d : List Bool) (g : List Int) : List Bool := g.foldl (fun d k => d.set k.toNat true) d
def ffTo (t : List (List Bool)) (d : List Bool) (m : Nat) : Option Nat := (List.range m).find? (freeB t d)
def grpGo (t : List (List Bool)) : Nat → List Bool → List (List Int) → List (List Int)
 | 0, _, out => out
 | f + 1, d, out => match ffTo t d t.length with
  | none => out
  | some n => grpGo t f (markL d (grpL t n t.length)) (out ++ [grpL t n t.length])
def calls_Groups.f (k : Nat) (l0_0 : List S33) : Option (List (List Int)) := (calls_table.f k l0_0).bind fun t => if Sq t then some (grpGo t t.length (List.replicate t.length false) []) else none
theorem calls_Groups.mono : ∀ a0 k, LeO (calls_Groups.f k a0) (calls_Groups.f (k + 1) a0) := by
 intro a0 k
 unfold calls_Groups.f
 repeat' first
   | (with_reducible exact LeO.refl _)
   | (with_reducible exact calls_table.mono _ _)
   | (with_reducible refine LeO.ite ?_ ?_)
   | (with_reducible refine LeO.bind ?_ (fun _ => ?_))
def ffV : Option Nat → Int
 | none => -1
 | some k => (k : Int)
theorem ffTo_step (t : List (List Bool)) (d : List Bool) (m : Nat) : ffTo t d (m + 1) = match ffTo t d m with
  | some k => some k
  | none => if freeB t d m = true then some m else none := by
 unfold ffTo
 rw [List.range_succ, List.find?_append]
 cases (List.range m).find? (freeB t d) with
 | some k => rfl
 | none =>
  rw [List.find?_cons]
  cases freeB t d m <;> rfl
theorem ffTo_lt {t : List (List Bool)} {d : List Bool} {m k : Nat} (h : ffTo t d m = some k) : k < m := by
 unfold ffTo at h
 exact List.mem_range.1 (List.mem_of_find?_eq_some h)
theorem markL_len (g : List Int) : ∀ d : List Bool, (markL d g).length = d.length := by
 unfold markL
 induction g with
 | nil => intro d; rfl
 | cons k r ih => intro d; rw [List.foldl_cons, ih, List.length_set]
theorem grpL_in (t : List (List Bool)) (n m : Nat) : ∀ x ∈ grpL t n m, ∃ k : Nat, x = (k : Int) ∧ k < m := by
 intro x hx
 unfold grpL at hx
 obtain ⟨k, hk, rfl⟩ := List.mem_map.1 hx
 exact ⟨k, rfl, List.mem_range.1 (List.mem_filter.1 hk).1⟩
set_option maxHeartbeats 16000000 in
set_option maxRecDepth 100000 in
theorem calls_Groups.calls (k : Nat) (A0_0 : Option Addr) (c0_0 : Nat) (l0_0 : List S33) (r : List (List Int)) (w : World) (hr0_0 : Kd.C k33 w A0_0 l0_0.length l0_0) (hc0_0 : l0_0.length ≤ c0_0) (h : calls_Groups.f k l0_0 = some r) :
  Calls Try.prog 8 #[.agg #[.slice A0_0 l0_0.length c0_0]] w fun e w' => ∃ v0_ : Value, e = .returned v0_ ∧ Kd.S (Kd.slice 3 (Kd.int .i64)) 29 w' w.heap.size (fun _ => True) v0_ r ∧ Below w.heap.size w w' := by
 unfold calls_Groups.f at h
 obtain ⟨t, ht, h⟩ := Option.bind_eq_some_iff.1 h
 by_cases hsq : Sq t
 ·rw [if_pos hsq] at h
  have HN := Aside0.mk (Option.some.inj h)
  have HT := Aside0.mk ht
  have HSQ := Aside0.mk hsq
  have HR := Aside0.mk hr0_0
  have HCC := Aside0.mk hc0_0
  have hu24 := Try.underlying24
  clear h ht hsq hr0_0 hc0_0
  go_enter Try.func8, Try.ntmps8
  go_wp2_with (first | ((with_reducible refine gate_dst (N := 1) rfl ?_); refine box_event ?hg (N := 1) ?hd (cs := #[.slice A0_0 l0_0.length c0_0]) (t := 24) ?hr ?_; (case hd => rfl); (case hg => rfl); (case hr => first | (go_simp; done) | (go_simp; rfl)); intro gb hg w4 hbox hb; have HB := Aside0.mk hb; have hcy0 : w4.cell? ⟨gb, 0, none⟩ = some (.slice A0_0 l0_0.length c0_0) := (blk_cell hbox 0).trans rfl; clear hbox hb hg) | (go_at_call 18; refine (calls_table.calls k A0_0 c0_0 l0_0 t _ (Kd.C_below HR.out HB.out) HCC.out HT.out).mono ?_; rintro e wt ⟨vt, rfl, ho, hb⟩; obtain ⟨At, ct, rfl, hct, hCt⟩ := Kd.R_reads (Kd.S_R ho); have TC := Aside0.mk hCt; have HBt := Aside0.mk (below_step HB.out hb); have B3a := Aside0.mk (blk_new wt (.cells #[.slice At t.length ct] 52)); have TBa := Aside0.mk (below_alloc (Below.refl wt.heap.size wt) (.cells #[.slice At t.length ct] 52)); clear ho hb hct hCt hcy0 HB) | ((with_reducible refine gate_dst (N := 18) rfl ?_); refine Kd.R_make Kd.bool wt.heap.size 4 rfl (N := 18) rfl 49 _ _ rfl (t.length : Int) rfl rfl Try.underlying49 (.bool false) 1 info4 rfl (by decide) (by omega) false (ok := fun _ => True) (okp := fun _ => True) rfl (fun _ hk => hk) trivial (by omega) (by have := HSQ.out.1; simp; omega) TBa.out (below_size TBa.out) ?_; intro vd wd ho hb hg hnew; rw [Int.toNat_natCast] at ho; have HD := Aside0.mk ho; have TB := Aside0.mk hb; have B3 := Aside0.mk (blk_grown B3a.out hg (by simp)); obtain ⟨Ad, cd, hvd⟩ := Kd.R_slice ho; rw [List.length_replicate] at hvd; subst hvd; have hc3 : ∀ o, (wd.alloc o).cell? ⟨wt.heap.size, 0, none⟩ = some (.slice At t.length ct) := fun o => (blk_cell (blk_alloc B3.out o) 0).trans rfl; clear hg hnew ho hb B3a TBa))
  clear hc3
  obtain ⟨b3, hb3⟩ : ∃ b3, b3 = wt.heap.size := ⟨_, rfl⟩
  obtain ⟨b5, hb5⟩ : ∃ b5, b5 = wd.heap.size := ⟨_, rfl⟩
  have B5 := Aside0.mk (show (wd.alloc (.cells #[.slice Ad t.length cd] 49)).heap[b5]? = some (.cells #[.slice Ad t.length cd] 49 (0, 0)) by rw [hb5]; exact blk_new wd _)
  have n1_ := Aside0.mk (show (wd.alloc (.cells #[.slice Ad t.length cd] 49)).heap[b3]? = some (.cells #[.slice At t.length ct] 52 (0, 0)) by rw [hb3]; exact blk_alloc B3.out _)
  have n0_ := Aside0.mk (Kd.R_alloc HD.out (.cells #[.slice Ad t.length cd] 49))
  have n4_ := Aside0.mk (below_alloc TB.out (.cells #[.slice Ad t.length cd] 49))
  clear HD B3 TB
  have HD := n0_
  have B3 := n1_
  have TB := n4_
  clear n0_ n1_ n4_
  obtain ⟨wz, hwz⟩ : ∃ wz, wd.alloc (.cells #[.slice Ad t.length cd] 49) = wz := ⟨_, rfl⟩
  rw [hwz, ← hb3, ← hb5]
  rw [hwz] at HD B3 B5 TB
  clear hwz hb5
  have HB3 := Aside0.mk (show wt.heap.size ≤ b3 from Nat.le_of_eq hb3.symm)
  clear hb3
  go_loopg [7, 22] t.length (fun gg s7 s22 wr => ∃ (x : Nat) (d : List Bool) (out : List (List Int)), s22 = .int .i64 x ∧ t.length - x ≤ gg ∧ Aside0 (x ≤ t.length) ∧ Aside0 (grpGo t (t.length - x) d out = r) ∧ Aside0 (d.length = t.length) ∧ Aside0 (out.length ≤ x) ∧ Aside0 (Kd.R Kd.bool 4 wr wt.heap.size (fun _ => True) (.slice Ad t.length cd) d) ∧ Aside0 (wr.heap[b3]? = some (.cells #[.slice At t.length ct] 52 (0, 0))) ∧ Aside0 (wr.heap[b5]? = some (.cells #[.slice Ad t.length cd] 49 (0, 0))) ∧ Aside0 (Kd.S (Kd.slice 3 (Kd.int .i64)) 29 wr wt.heap.size (fun _ => True) s7 out) ∧ Aside0 (Below wt.heap.size wt wr))
  case atStart => exact ⟨0, _, [], rfl, by omega, ⟨Nat.zero_le _⟩, HN, ⟨List.length_replicate⟩, ⟨Nat.le_refl _⟩, HD, B3, B5, ⟨Kd.S_nil _ _ _ _ _⟩, TB⟩
  case round =>
   clear HN HD B3 B5 TB
   obtain ⟨x, d, out, rfl, hgg, HX, HGO, HDL, HOL, HD, B3, B5, HO, TB⟩ := hrel
   by_cases hlt : x < t.length
   ·have hltz : (x : Int) < (t.length : Int) := by omega
    have HLT := Aside0.mk hlt
    have hc3 := (blk_cell B3.out 0).trans rfl
    go_wp2
    clear hc3
    go_loopg [8, 26] t.length (fun gg s8 s26 wr => ∃ (y : Nat), s26 = .int .i64 y ∧ s8 = .int .i64 (ffV (ffTo t d y)) ∧ t.length - y ≤ gg ∧ Aside0 (y ≤ t.length) ∧ Aside0 (Kd.R Kd.bool 4 wr wt.heap.size (fun _ => True) (.slice Ad t.length cd) d) ∧ Aside0 (wr.heap[b3]? = some (.cells #[.slice At t.length ct] 52 (0, 0))) ∧ Aside0 (wr.heap[b5]? = some (.cells #[.slice Ad t.length cd] 49 (0, 0))) ∧ Aside0 (Kd.S (Kd.slice 3 (Kd.int .i64)) 29 wr wt.heap.size (fun _ => True) u7 out) ∧ Aside0 (Below wt.heap.size wt wr))
    case atStart => exact ⟨0, rfl, rfl, by omega, ⟨Nat.zero_le _⟩, HD, B3, B5, HO, TB⟩
    case round =>
     clear HD B3 B5 HO TB
     obtain ⟨y, rfl, rfl, hgg2, HY, HD, B3, B5, HO, TB⟩ := hrel
     by_cases hlt2 : y < t.length
     ·have hltz2 : (y : Int) < (t.length : Int) := by omega
      have HY2 := Aside0.mk hlt2
      have HST := Aside0.mk (ffTo_step t d y)
      cases hff : ffTo t d y with
      | none =>
       have hv : ffV (none : Option Nat) = -1 := rfl
       rw [hv]
       clear hv
       cases hfr : freeB t d y with
       | false =>
        have HNX := Aside0.mk (show ffTo t d (y + 1) = none by rw [HST.out, hff, hfr]; rfl)
        have HFR := Aside0.mk hfr
        clear hff hfr
        go_wp2_with (first | (go_at_call 20; refine (groups_free At ct t y b3 b5 Ad cd d _ HSQ.out HY2.out (Kd.C_below TC.out TB.out) B3.out HDL.out (Kd.R_reads' HD.out).2.2 (by rw [HDL.out]; exact B5.out)).mono ?_; rintro e w6 ⟨rfl, hb⟩; rw [HFR.out]; have n0_ := Aside0.mk (Kd.R_below HD.out hb); have n1_ := Aside0.mk (blk_below B3.out hb); have n2_ := Aside0.mk (blk_below B5.out hb); have n3_ := Aside0.mk (Kd.S_below HO.out hb); have n4_ := Aside0.mk (below_step TB.out hb); clear HD B3 B5 HO TB hb; have HD := n0_; have B3 := n1_; have B5 := n2_; have HO := n3_; have TB := n4_; clear n0_ n1_ n2_ n3_ n4_))
        go_roundg (t.length - (y + 1))
        case measure => omega
        case rel => exact ⟨y + 1, (by first | go_num | (rw [wrap64_small _ (by have := HSQ.out.1; omega) (by have := HSQ.out.1; omega)]; go_num)), by rw [HNX.out]; rfl, Nat.le_refl _, ⟨by omega⟩, HD, B3, B5, HO, TB⟩
       | true =>
        have HNX := Aside0.mk (show ffTo t d (y + 1) = some y by rw [HST.out, hff, hfr]; rfl)
        have HFR := Aside0.mk hfr
        clear hff hfr
        go_wp2_with (first | (go_at_call 20; refine (groups_free At ct t y b3 b5 Ad cd d _ HSQ.out HY2.out (Kd.C_below TC.out TB.out) B3.out HDL.out (Kd.R_reads' HD.out).2.2 (by rw [HDL.out]; exact B5.out)).mono ?_; rintro e w6 ⟨rfl, hb⟩; rw [HFR.out]; have n0_ := Aside0.mk (Kd.R_below HD.out hb); have n1_ := Aside0.mk (blk_below B3.out hb); have n2_ := Aside0.mk (blk_below B5.out hb); have n3_ := Aside0.mk (Kd.S_below HO.out hb); have n4_ := Aside0.mk (below_step TB.out hb); clear HD B3 B5 HO TB hb; have HD := n0_; have B3 := n1_; have B5 := n2_; have HO := n3_; have TB := n4_; clear n0_ n1_ n2_ n3_ n4_))
        go_roundg (t.length - (y + 1))
        case measure => omega
        case rel => exact ⟨y + 1, (by first | go_num | (rw [wrap64_small _ (by have := HSQ.out.1; omega) (by have := HSQ.out.1; omega)]; go_num)), by rw [HNX.out]; rfl, Nat.le_refl _, ⟨by omega⟩, HD, B3, B5, HO, TB⟩
      | some n =>
       have hv : ffV (some n) = (n : Int) := rfl
       rw [hv]
       clear hv
       have HNX := Aside0.mk (show ffTo t d (y + 1) = some n by rw [HST.out, hff])
       have hn0 : decide ((n : Int) < 0) = false := decide_eq_false (by omega)
       clear hff
       go_wp2
       go_roundg (t.length - (y + 1))
       case measure => omega
       case rel => exact ⟨y + 1, (by first | go_num | (rw [wrap64_small _ (by have := HSQ.out.1; omega) (by have := HSQ.out.1; omega)]; go_num)), by rw [HNX.out]; rfl, Nat.le_refl _, ⟨by omega⟩, HD, B3, B5, HO, TB⟩
     ·have HYE := Aside0.mk (show y = t.length by have := HY.out; omega)
      have hltz2 : ¬ (y : Int) < (t.length : Int) := by omega
      have hd2 : decide ((y : Int) < (t.length : Int)) = false := decide_eq_false hltz2
      obtain ⟨f, hf⟩ : ∃ f, t.length - x = f + 1 := ⟨t.length - x - 1, by omega⟩
      have hG := HGO.out
      rw [hf, grpGo] at hG
      rw [HYE.out]
      clear hltz2
      cases hff : ffTo t d t.length with
      | none =>
       rw [hff] at hG
       have HR2 := Aside0.mk (show out = r from hG)
       have hv : ffV (none : Option Nat) = -1 := rfl
       rw [hv]
       clear hv hff hG hf
       go_wp2
       go_ret
       exact ⟨_, rfl, by rw [← HR2.out]; exact Kd.S_lower HO.out HBt.out.size, HBt.out.trans (TB.out.mono HBt.out.size)⟩
      | some n =>
       rw [hff] at hG
       have HG2 := Aside0.mk (show grpGo t f (markL d (grpL t n t.length)) (out ++ [grpL t n t.length]) = r from hG)
       have HFX := Aside0.mk (show f = t.length - (x + 1) by omega)
       have HNL := Aside0.mk (ffTo_lt hff)
       have hv : ffV (some n) = (n : Int) := rfl
       rw [hv]
       have hn0 : decide ((n : Int) < 0) = false := decide_eq_false (by omega)
       clear hv hff hG hf HGO
       obtain ⟨NW, hNW⟩ : ∃ NW, NW = wr.heap.size := ⟨_, rfl⟩
       go_wp2_with (first | (go_at_call 19; refine (groups_group At ct t n b3 _ HSQ.out HNL.out (Kd.C_below TC.out TB.out) B3.out).mono ?_; rintro e w7 ⟨vg, rfl, ho, hb⟩; obtain ⟨Ag, cg, rfl⟩ := Kd.R_slice ho; have HG := Aside0.mk (Kd.R_lower ho (below_size TB.out)); have HGB := Aside0.mk (show ∀ k, (Value.slice Ag (grpL t n t.length).length cg).ownBlock = some k → NW ≤ k by rw [hNW]; exact Kd.R_base ho); have n3_ := Aside0.mk (show Kd.S (Kd.slice 3 (Kd.int .i64)) 29 w7 wt.heap.size (fun k => True ∧ k < NW) u7 out by rw [hNW]; exact Kd.S_old HO.out hb); have n0_ := Aside0.mk (Kd.R_below HD.out hb); have n1_ := Aside0.mk (blk_below B3.out hb); have n2_ := Aside0.mk (blk_below B5.out hb); have n4_ := Aside0.mk (below_step TB.out hb); clear HD B3 B5 HO TB hb ho; have HD := n0_; have B3 := n1_; have B5 := n2_; have HO := n3_; have TB := n4_; clear n0_ n1_ n2_ n3_ n4_))
       obtain ⟨g, hg⟩ : ∃ g, g = grpL t n t.length := ⟨_, rfl⟩
       have HGL := Aside0.mk (show g.length ≤ t.length by rw [hg]; exact grpL_len t n t.length)
       have HGI := Aside0.mk (show ∀ x ∈ g, ∃ k : Nat, x = (k : Int) ∧ k < t.length by rw [hg]; exact grpL_in t n t.length)
       rw [← hg] at HG2 HG HGB ⊢
       clear hg hn0 hNW
       obtain ⟨D, hD⟩ : ∃ D, D = markL d g := ⟨_, rfl⟩
       rw [← hD] at HG2
       have HDD := Aside0.mk (show D.length = t.length by rw [hD, markL_len]; exact HDL.out)
       go_loopg [12, 45] g.length (fun gg s12 s45 wr => ∃ (z : Nat) (d : List Bool), s45 = .int .i64 z ∧ g.length - z ≤ gg ∧ Aside0 (z ≤ g.length) ∧ Aside0 (D = markL d (g.drop z)) ∧ Aside0 (d.length = t.length) ∧ Aside0 (Kd.R (Kd.int .i64) 3 wr wt.heap.size (fun _ => True) (.slice Ag g.length cg) g) ∧ Aside0 (Kd.R Kd.bool 4 wr wt.heap.size (fun _ => True) (.slice Ad t.length cd) d) ∧ Aside0 (wr.heap[b3]? = some (.cells #[.slice At t.length ct] 52 (0, 0))) ∧ Aside0 (wr.heap[b5]? = some (.cells #[.slice Ad t.length cd] 49 (0, 0))) ∧ Aside0 (Kd.S (Kd.slice 3 (Kd.int .i64)) 29 wr wt.heap.size (fun k => True ∧ k < NW) u7 out) ∧ Aside0 (Below wt.heap.size wt wr))
       case atStart => exact ⟨0, d, rfl, by omega, ⟨Nat.zero_le _⟩, ⟨hD⟩, HDL, HG, HD, B3, B5, HO, TB⟩
       case round =>
        clear HDL HG HD B3 B5 HO TB hD
        obtain ⟨z, d, rfl, hgg3, HZ, HDM, HDL, HG, HD, B3, B5, HO, TB⟩ := hrel
        by_cases hlt3 : z < g.length
        ·have hltz3 : (z : Int) < (g.length : Int) := by omega
         obtain ⟨q, hq, hqN⟩ := HGI.out (g.getD z 0) (getD_mem g z 0 hlt3)
         obtain ⟨adg, eg, hxg⟩ := Kd.at_int (Kd.R_reads' HG.out).2.2 (z : Int) (by omega) hltz3
         cases eg
         rw [Int.toNat_natCast, show rd g (z : Int) = (q : Int) by unfold rd; rw [Int.toNat_natCast]; exact hq] at hxg
         have hc5 := (blk_cell B5.out 0).trans rfl
         obtain ⟨gd, co, eo, gb0, gl0, cl0, hg0⟩ := Kd.R_form HD.out (by have := HDL.out; omega)
         injection eo with ea en ec
         clear en
         subst ea
         subst ec
         clear cl0 hg0
         obtain ⟨hxi, hfi⟩ := Kd.R_celln false HD.out (q : Int) (by omega) (by omega)
         rw [Int.toNat_natCast] at hxi hfi
         have HPG := Aside0.mk (show Kd.R Kd.bool 4 (wr.setCell ⟨gd, q, none⟩ (.bool true)) wt.heap.size (fun _ => True) (.slice (some ⟨gd, 0, none⟩) t.length cd) (d.set q true) ∧ wr.grownBy (wr.setCell ⟨gd, q, none⟩ (.bool true)) (some gd) by
          have := Kd.R_putg HD.out (q : Int) true
          rw [Int.toNat_natCast] at this
          exact this)
         have HMK := Aside0.mk (show D = markL (d.set q true) (g.drop (z + 1)) by
          rw [HDM.out, drop_at g z 0 hlt3]
          unfold markL
          rw [List.foldl_cons, hq, Int.toNat_natCast])
         have HQN := Aside0.mk hqN
         have p1 : (0 ≤ (z : Int)) = True := eq_true (by omega)
         have p2 : (0 ≤ (q : Int)) = True := eq_true (by omega)
         have q2 : ((q : Int) < (t.length : Int)) = True := eq_true (by omega)
         clear hq hqN gb0 gl0
         go_wp2
         go_roundg (g.length - (z + 1))
         case measure => omega
         case rel => exact ⟨z + 1, d.set q true, (by first | go_num | (rw [wrap64_small _ (by have := HGL.out; have := HSQ.out.1; omega) (by have := HGL.out; have := HSQ.out.1; omega)]; go_num)), Nat.le_refl _, ⟨by omega⟩, HMK, ⟨by rw [List.length_set]; exact HDL.out⟩, ⟨Kd.R_over' HG.out (Kd.R_typed HD.out) (by decide) HPG.out.2⟩, ⟨HPG.out.1⟩, ⟨blk_grown B3.out HPG.out.2 (Kd.R_ne HD.out B3.out (by decide))⟩, ⟨blk_grown B5.out HPG.out.2 (Kd.R_ne HD.out B5.out (by decide))⟩, ⟨Kd.S_over' HO.out (Kd.R_typed HD.out) (by decide) HPG.out.2⟩, ⟨TB.out.grown HPG.out.2 (below_size TB.out) (Kd.R_base HD.out)⟩⟩
        ·have HZE := Aside0.mk (show z = g.length by have := HZ.out; omega)
         have hltz3 : ¬ (z : Int) < (g.length : Int) := by omega
         have hd3 : decide ((z : Int) < (g.length : Int)) = false := decide_eq_false hltz3
         have HDE := Aside0.mk (show d = D by rw [HDM.out, HZE.out, List.drop_length]; rfl)
         clear hltz3
         go_wp2_with (first | ((with_reducible refine gate_builtin (b := .append) (xs := #[.tmp 53, .tmp 55]) rfl ?_); at_builtin; refine Kd.S_append (Kd.slice 3 (Kd.int .i64)) (w0 := wt) wt.heap.size rfl (.tmp 53) (.tmp 55) 27 29 (.slice none 0 0) 24 rfl Try.underlying27 info29 rfl (by decide) (by omega) _ out g [.slice Ag g.length cg] (fun _ => True) (fun k_ => some k_ = (.slice Ag g.length cg : Value).ownBlock) rfl rfl ?aP ?aQ ?aF ?aO ?aB ?aS ?aL ?_; (case aP => exact Kd.M_row (Kd.R_mono (Kd.R_tight rfl HG.out) (fun _ h_ => h_))); (case aQ => exact (fun k_ hk_ => ⟨trivial, fun e_ => by have := HGB.out k_ hk_.symm; have := ((Kd.S_R HO.out).1 k_ e_.symm).2; omega⟩)); (case aB => exact TB.out); (case aF => exact (fun _ _ => trivial)); (case aO => exact Kd.S_mono HO.out (fun k_ hk_ => ⟨trivial, fun e_ => by have := HGB.out k_ e_.symm; have := hk_.2; omega⟩)); (case aS => exact (below_size TB.out)); (case aL => have := HOL.out; have := HSQ.out.1; omega); intro vq wq ho hb hg hat; have n0_ := Aside0.mk (Kd.R_over' HD.out (Kd.S_typed HO.out) (by decide) hg); have n1_ := Aside0.mk (blk_grown B3.out hg (Kd.S_ne HO.out B3.out (by decide))); have n2_ := Aside0.mk (blk_grown B5.out hg (Kd.S_ne HO.out B5.out (by decide))); have n3_ := Aside0.mk ho; have n4_ := Aside0.mk hb; clear HD B3 B5 HO TB ho hb hg hat; have HD := n0_; have B3 := n1_; have B5 := n2_; have HO := n3_; have TB := n4_; clear n0_ n1_ n2_ n3_ n4_))
         go_roundg (t.length - (x + 1))
         case measure => have := HLT.out; omega
         case rel => exact ⟨x + 1, d, out ++ [g], (by first | go_num | (rw [wrap64_small _ (by have := HSQ.out.1; have := HLT.out; omega) (by have := HSQ.out.1; have := HLT.out; omega)]; go_num)), Nat.le_refl _, ⟨by have := HLT.out; omega⟩, ⟨by rw [HDE.out, ← HFX.out]; exact HG2.out⟩, HDL, ⟨by have := HOL.out; simp; omega⟩, HD, B3, B5, HO, TB⟩
   ·have HXE := Aside0.mk (show x = t.length by have := HX.out; omega)
    have hltz : ¬ (x : Int) < (t.length : Int) := by omega
    have hd : decide ((x : Int) < (t.length : Int)) = false := decide_eq_false hltz
    have hG := HGO.out
    rw [HXE.out, Nat.sub_self, grpGo] at hG
    have HR2 := Aside0.mk hG
    clear hG hltz
    go_wp2
    go_ret
    exact ⟨_, rfl, by rw [← HR2.out]; exact Kd.S_lower HO.out HBt.out.size, HBt.out.trans (TB.out.mono HBt.out.size)⟩
 ·rw [if_neg hsq] at h; cases h
end Go.Proofs.Ytjjcnbfmmhokeaa.X
namespace Go.Proofs.Ytjjcnbfmmhokeaa.X
open Go.RowKit Go.Proofs.YtjjcnbfmmhokeaaW.PrintWords Go.Proofs.YtjjcnbfmmhokeaaW.PrintLast Go.Proofs.YtjjcnbfmmhokeaaW.PrintMore
attribute [local go_sem] max2_int min2_int max_two min_two max_three min_three max_four min_four
set_option linter.all false
noncomputable section
def davitlaw11_func1.f (a0 : Int) : Option (Int × Int × (List (S44))) := some (0, 0, (([(⟨false, (⟨0, ([] : List Int), false, false⟩ : S40), (([(⟨11, 0, 0, 0, 0, a0, ([] : List Int)⟩ : S36)] : List (S36))), (⟨0, 0, 0, 0, ([] : List Int), 0, 0, 0⟩ : S42)⟩ : S44)] : List (S44))))
set_option maxHeartbeats 8000000 in
set_option maxRecDepth 100000 in
theorem davitlaw11_func1.calls (a0 : Int) (r1 : Int) (r2 : Int) (r3 : List (S44)) (w : World) (h : davitlaw11_func1.f a0 = some (r1, r2, r3)) :
  Calls Try.prog 17 #[.int .i64 a0] w fun e w' => ∃ v2_ : Value, e = .returned (.agg #[.int .i64 r1, .int .i64 r2, v2_]) ∧ Kd.N k44 44 w' w.heap.size (fun k_ => (w.heap.size ≤ k_)) v2_ r3 ∧ Below w.heap.size w w' := by
 have hu33 := Try.underlying33
 have hu36 := Try.underlying36
 have hu44 := Try.underlying44
 have HB := Aside0.mk (Below.refl w.heap.size w)
 have H : (some (0, 0, (([(⟨false, (⟨0, ([] : List Int), false, false⟩ : S40), (([(⟨11, 0, 0, 0, 0, a0, ([] : List Int)⟩ : S36)] : List (S36))), (⟨0, 0, 0, 0, ([] : List Int), 0, 0, 0⟩ : S42)⟩ : S44)] : List (S44))))) = some (r1, r2, r3) := h
 clear h
 obtain ⟨y289, hy289⟩ : ∃ y_ : List (S36), y_ = (([(⟨11, 0, 0, 0, 0, a0, ([] : List Int)⟩ : S36)] : List (S36))) := ⟨_, rfl⟩
 replace H : (some (0, 0, (([(⟨false, (⟨0, ([] : List Int), false, false⟩ : S40), y289, (⟨0, 0, 0, 0, ([] : List Int), 0, 0, 0⟩ : S42)⟩ : S44)] : List (S44))))) = some (r1, r2, r3) := by first | (rw [hy289]; with_reducible exact H) | (have H2_ := (Option.bind_some _ _).symm.trans H; rw [hy289]; with_reducible exact H2_) | (have H2_ := (Option.bind_some _ _).symm.trans H; with_reducible exact H2_) | with_reducible exact H | (rw [hy289]; exact H) | exact H
 have Ny289 := Aside0.mk hy289
 clear hy289
 obtain ⟨y292, hy292⟩ : ∃ y_ : List (S44), y_ = (([(⟨false, (⟨0, ([] : List Int), false, false⟩ : S40), y289, (⟨0, 0, 0, 0, ([] : List Int), 0, 0, 0⟩ : S42)⟩ : S44)] : List (S44))) := ⟨_, rfl⟩
 replace H : (some (0, 0, y292)) = some (r1, r2, r3) := by first | (rw [hy292]; with_reducible exact H) | (have H2_ := (Option.bind_some _ _).symm.trans H; rw [hy292]; with_reducible exact H2_) | (have H2_ := (Option.bind_some _ _).symm.trans H; with_reducible exact H2_) | with_reducible exact H | (rw [hy292]; exact H) | exact H
 have Ny292 := Aside0.mk hy292
 clear hy292
 simp only [Option.some.injEq, Prod.mk.injEq] at H
 obtain ⟨rfl, rfl, rfl⟩ := H
 go_enter Try.func17, Try.ntmps17
 go_wp2_with (first | ((with_reducible refine gate_dst (N := 2) rfl ?_); refine box_event ?hg (N := 2) ?hd (cs := #[.int .i64 0, .int .i64 0, .slice none 0 0]) (t := 33) ?hr ?_; (case hd => rfl); (case hg => rfl); (case hr => first | (go_simp; done) | (go_simp; rfl)); intro gb288 hg w2 hbox hb; have n0_ := Aside0.mk (below_step (by repeat (first | (with_reducible first | exact HB.out | apply below_alloc | apply pw_below_drewN | apply below_drew1) | exact HB.out)) hb); have n1_ := Aside0.mk (hbox); have n2_ := Aside0.mk ((by rw [hg]; exact (below_size (by repeat (first | (with_reducible first | exact HB.out | apply below_alloc | apply pw_below_drewN | apply below_drew1) | exact HB.out))) : w.heap.size ≤ gb288)); have n3_ := Aside0.mk ((by rw [hg]; exact (below_size (by repeat (first | (with_reducible first | exact HB.out | apply below_alloc | apply pw_below_drewN | apply below_drew1) | exact HB.out))) : w.heap.size ≤ gb288)); clear HB; have HB := n0_; have BK288 := n1_; have GW288 := n2_; have GE288 := n3_; clear n0_ n1_ n2_ n3_; clear hb hbox hg) | ((with_reducible refine gate_dst (N := 5) rfl ?_); refine Kd.N_lit k36 _ 36 ?hg (N' := 5) ?hd (xs := ([(⟨11, 0, 0, 0, 0, a0, ([] : List Int)⟩ : S36)] : List (S36))) (inner := [.int .i64 11, .int .i64 0, .int .i64 0, .int .i64 0, .int .u16 0, .int .i64 a0, .slice none 0 0]) (ok := (fun k_ => (w.heap.size ≤ k_) ∧ k_ ≠ gb288)) (okp := (fun k_ => (w.heap.size ≤ k_) ∧ k_ ≠ gb288)) ?hr ?hp (fun _ hk => hk) ((show ∀ k_, w2.heap.size ≤ k_ → (fun k_ => (w.heap.size ≤ k_) ∧ k_ ≠ gb288) k_ from fun k_ hk => ⟨(Nat.le_trans (below_size (by repeat (first | (with_reducible first | exact HB.out | apply below_alloc | apply pw_below_drewN | apply below_drew1 | refine below_set ?_ GE288.out) | exact HB.out))) hk), Kd.freshB (g := gb288) (o := .cells #[.int .i64 0, .int .i64 0, .slice none 0 0] 33 (0, 0)) (by (with_reducible repeat (first | refine blk_drewN ?_ _ | refine blk_drew ?_ | refine blk_alloc ?_ _)); exact BK288.out) k_ hk⟩) _ (Nat.le_refl _)) (Below.refl _ _) (Nat.le_refl _) (by simp) ?_; (case hd => rfl); (case hg => rfl); (case hr => first | (go_simp; done) | (go_simp; rfl)); (case hp => exact (Reps.c7 (show Kd.FK k36 _ _ (⟨11, 0, 0, 0, 0, a0, ([] : List Int)⟩ : S36) [.int .i64 11, .int .i64 0, .int .i64 0, .int .i64 0, .int .u16 0, .int .i64 a0, .slice none 0 0] from (k36_mkF _ _ (⟨11, 0, 0, 0, 0, a0, ([] : List Int)⟩ : S36) (Nat.le_refl _) (Kd.F_nil _ _ _))) (Reps.none _ _))); intro v290 w3 ho4 hb hg_ hnew_; clear hg_ hnew_; (first | rw [← Ny289.out] at ho4 | (simp only [Int.reduceToNat] at ho4; rw [← Ny289.out] at ho4)); have n0_ := Aside0.mk (Kd.N_lower ho4 (below_size (by repeat (first | (with_reducible first | exact HB.out | apply below_alloc | apply pw_below_drewN | apply below_drew1 | refine below_set ?_ GE288.out) | exact HB.out)))); have n1_ := Aside0.mk (blk_below (g := gb288) (o := .cells #[.int .i64 0, .int .i64 0, .slice none 0 0] 33 (0, 0)) (by (with_reducible repeat (first | refine blk_drewN ?_ _ | refine blk_drew ?_ | refine blk_alloc ?_ _)); exact BK288.out) hb); have n2_ := Aside0.mk (below_step (by repeat (first | (with_reducible first | exact HB.out | apply below_alloc | apply pw_below_drewN | apply below_drew1 | refine below_set ?_ GE288.out) | exact HB.out)) hb); clear BK288; clear HB; have HO291 := n0_; have BK288 := n1_; have HB := n2_; clear n0_ n1_ n2_; clear hb ho4; obtain ⟨Ao5, co5, eo5⟩ := Kd.N_slice HO291.out; subst eo5) | ((with_reducible refine gate_dst (N := 7) rfl ?_); refine Kd.N_lit k44 _ 44 ?hg (N' := 7) ?hd (xs := ([(⟨false, (⟨0, ([] : List Int), false, false⟩ : S40), y289, (⟨0, 0, 0, 0, ([] : List Int), 0, 0, 0⟩ : S42)⟩ : S44)] : List (S44))) (inner := [.bool false, .int .i64 0, .slice none 0 0, .bool false, .bool false, .slice Ao5 y289.length co5, .int .i64 0, .int .i64 0, .int .i64 0, .int .i64 0, .slice none 0 0, .int .i64 0, .int .i64 0, .int .i64 0]) (ok := (fun k_ => (w.heap.size ≤ k_) ∧ k_ ≠ gb288)) (okp := (fun k_ => (w.heap.size ≤ k_) ∧ k_ ≠ gb288)) ?hr ?hp (fun _ hk => hk) ((show ∀ k_, w3.heap.size ≤ k_ → (fun k_ => (w.heap.size ≤ k_) ∧ k_ ≠ gb288) k_ from fun k_ hk => ⟨(Nat.le_trans (below_size (by repeat (first | (with_reducible first | exact HB.out | apply below_alloc | apply pw_below_drewN | apply below_drew1 | refine below_set ?_ GE288.out) | exact HB.out))) hk), Kd.freshB (g := gb288) (o := .cells #[.int .i64 0, .int .i64 0, .slice none 0 0] 33 (0, 0)) (by (with_reducible repeat (first | refine blk_drewN ?_ _ | refine blk_drew ?_ | refine blk_alloc ?_ _)); exact BK288.out) k_ hk⟩) _ (Nat.le_refl _)) (Below.refl _ _) (Nat.le_refl _) (by simp) ?_; (case hd => rfl); (case hg => rfl); (case hr => first | (go_simp; done) | (go_simp; rfl)); (case hp => exact (Reps.front (show Kd.FK k44 _ _ (⟨false, (⟨0, ([] : List Int), false, false⟩ : S40), y289, (⟨0, 0, 0, 0, ([] : List Int), 0, 0, 0⟩ : S42)⟩ : S44) [.bool false, .int .i64 0, .slice none 0 0, .bool false, .bool false, .slice Ao5 y289.length co5, .int .i64 0, .int .i64 0, .int .i64 0, .int .i64 0, .slice none 0 0, .int .i64 0, .int .i64 0, .int .i64 0] from (k44_mkF _ _ (⟨false, (⟨0, ([] : List Int), false, false⟩ : S40), y289, (⟨0, 0, 0, 0, ([] : List Int), 0, 0, 0⟩ : S42)⟩ : S44) (Nat.le_refl _) (Kd.F_nil _ _ _) (Kd.N_reads' (Kd.N_mono (ok' := (fun k_ => (w.heap.size ≤ k_) ∧ k_ ≠ gb288)) (HO291.out) (fun k_ hk => ⟨hk.1, hk.2⟩))).2.1 (Kd.N_F (Kd.N_mono (ok' := (fun k_ => (w.heap.size ≤ k_) ∧ k_ ≠ gb288)) (HO291.out) (fun k_ hk => ⟨hk.1, hk.2⟩))) (Nat.le_refl _) (Kd.F_nil _ _ _))) rfl (Reps.none _ _) rfl)); intro v293 w6 ho7 hb hg_ hnew_; clear hg_ hnew_; (first | rw [← Ny292.out] at ho7 | (simp only [Int.reduceToNat] at ho7; rw [← Ny292.out] at ho7)); have n0_ := Aside0.mk (Kd.N_lower ho7 (below_size (by repeat (first | (with_reducible first | exact HB.out | apply below_alloc | apply pw_below_drewN | apply below_drew1 | refine below_set ?_ GE288.out) | exact HB.out)))); have n1_ := Aside0.mk (blk_below (g := gb288) (o := .cells #[.int .i64 0, .int .i64 0, .slice none 0 0] 33 (0, 0)) (by (with_reducible repeat (first | refine blk_drewN ?_ _ | refine blk_drew ?_ | refine blk_alloc ?_ _)); exact BK288.out) hb); have n2_ := Aside0.mk (below_step (by repeat (first | (with_reducible first | exact HB.out | apply below_alloc | apply pw_below_drewN | apply below_drew1 | refine below_set ?_ GE288.out) | exact HB.out)) hb); clear BK288; clear HB; clear HO291; have HO294 := n0_; have BK288 := n1_; have HB := n2_; clear n0_ n1_ n2_; clear hb ho7; obtain ⟨Ao8, co8, eo8⟩ := Kd.N_slice HO294.out; subst eo8; have hcz9_0 : w6.cell? ⟨gb288, 0, none⟩ = some (.int .i64 0) := (blk_cell BK288.out 0).trans rfl; have hcz9_1 : w6.cell? ⟨gb288, 1, none⟩ = some (.int .i64 0) := (blk_cell BK288.out 1).trans rfl; have hcz9_2 : w6.cell? ⟨gb288, 2, none⟩ = some (.slice none 0 0) := (blk_cell BK288.out 2).trans rfl; have hfz9_0 := blk_frozen BK288.out 0; have hfz9_1 := blk_frozen BK288.out 1; have hfz9_2 := blk_frozen BK288.out 2))
 refine bodyPost_ret (results_cell_row rfl _ _ gb288 33 #[.int .i64 0, .int .i64 0, .slice Ao8 y292.length co8] (0, 0) _ rfl (by (with_reducible repeat (first | refine blk_drewN ?_ _ | refine blk_drew ?_ | refine blk_alloc ?_ _)); refine blk_put (cs := #[.int .i64 0, .int .i64 0, .slice none 0 0]) ?_ 2 _ rfl; (with_reducible repeat (first | refine blk_drewN ?_ _ | refine blk_drew ?_ | refine blk_alloc ?_ _)); refine blk_put (cs := #[.int .i64 0, .int .i64 0, .slice none 0 0]) ?_ 1 _ rfl; (with_reducible repeat (first | refine blk_drewN ?_ _ | refine blk_drew ?_ | refine blk_alloc ?_ _)); refine blk_put (cs := #[.int .i64 0, .int .i64 0, .slice none 0 0]) ?_ 0 _ rfl; (with_reducible repeat (first | refine blk_drewN ?_ _ | refine blk_drew ?_ | refine blk_alloc ?_ _)); exact BK288.out) Try.underlying33 rfl (by kernel_rfl)) rfl ?_
 exact ⟨_, by first | rfl | (simp [errW_none, errW_some] <;> rfl) | (simp [*, errW_none, errW_some] <;> rfl), by (with_reducible repeat (first | apply Kd.N_alloc | apply Kd.N_drewN | apply Kd.N_drew)); exact Kd.N_mono (Kd.N_far (p := ⟨gb288, 2, none⟩) (Kd.N_far (p := ⟨gb288, 1, none⟩) (Kd.N_far (p := ⟨gb288, 0, none⟩) (Kd.N_mono HO294.out (fun k_ hk => (⟨hk, hk.2⟩ : _ ∧ k_ ≠ gb288))) (fun _ hk => hk.2) (.int .i64 0)) (fun _ hk => hk.2) (.int .i64 0)) (fun _ hk => hk.2) (.slice Ao8 y292.length co8)) (fun _ hk => hk.1.1), by repeat (first | (with_reducible first | exact HB.out | apply below_alloc | apply pw_below_drewN | apply below_drew1 | refine below_set ?_ GE288.out) | exact HB.out)⟩
end
end Go.Proofs.Ytjjcnbfmmhokeaa.X
namespace Go.Proofs.Ytjjcnbfmmhokeaa.X
open Go.Shelf Go.RowKit Go.Proofs.YtjjcnbfmmhokeaaW.PrintWords Go.Proofs.YtjjcnbfmmhokeaaW.PrintLast Go.Proofs.YtjjcnbfmmhokeaaW.PrintMore
set_option linter.all false
def L1 : List S44 := [(⟨false, (⟨0, ([] : List Int), false, false⟩ : S40), (([(⟨11, 0, 0, 0, 0, 1, ([] : List Int)⟩ : S36)] : List (S36))), (⟨0, 0, 0, 0, ([] : List Int), 0, 0, 0⟩ : S42)⟩ : S44)]
def M1 : List S33 := [⟨0, 0, L1⟩, z33]
def davitlaw11_awake.f (k : Nat) : Option Bool := (calls_Groups.f k M1).bind fun g => if g = [[1], [0]] then (if calls_Of.f M1 0 = some [1] then some true else none) else none
theorem davitlaw11_awake.mono : ∀ k, LeO (davitlaw11_awake.f k) (davitlaw11_awake.f (k + 1)) := by
 intro k
 unfold davitlaw11_awake.f
 repeat' first
   | (with_reducible exact LeO.refl _)
   | (with_reducible exact calls_Groups.mono _ _)
   | (with_reducible refine LeO.bind ?_ (fun _ => ?_))
theorem two_C (W : World) (b : Nat) (A2 : Option Addr) (c2 : Nat) (hl : L1.length ≤ c2) (hC : Kd.C k44 W A2 L1.length L1) (hb : W.heap[b]? = some (.cells #[.int .i64 0, .int .i64 0, .slice A2 L1.length c2, .int .i64 0, .int .i64 0, .slice none 0 0] 33 (0, 0))) : Kd.C k33 W (some ⟨b, 0, none⟩) M1.length M1 := by
 refine ⟨rfl, by decide, fun _ => ⟨⟨b, 0, none⟩, rfl, fun j p hj => ?_⟩⟩
 match j, hj with
 | 0, hj =>
  have e : p = ⟨0, 0, L1⟩ := by simpa [M1] using hj.symm
  subst e
  refine ⟨_, rfl, k33_mk W ⟨0, 0, L1⟩ hl hC, fun i u hu => ?_⟩
  rw [Addr.add_lit, blk_cell hb, ← hu]
  match i, hu with
  | 0, _ => rfl
  | 1, _ => rfl
  | 2, _ => rfl
  | i + 3, hu => simp at hu
 | 1, hj =>
  have e : p = z33 := by simpa [M1] using hj.symm
  subst e
  refine ⟨_, rfl, k33_mk W z33 (A2 := none) (c2 := 0) (Nat.le_refl _) ⟨rfl, by decide, fun h => absurd h (by decide)⟩, fun i u hu => ?_⟩
  rw [Addr.add_lit, blk_cell hb, ← hu]
  match i, hu with
  | 0, _ => rfl
  | 1, _ => rfl
  | 2, _ => rfl
  | i + 3, hu => simp at hu
 | j + 2, hj => simp [M1] at hj
theorem one_C (W : World) (b : Nat) (x : Int) (hb : W.heap[b]? = some (.cells #[.int .i64 x] 3 (0, 0))) : Kd.C (Kd.int .i64) W (some ⟨b, 0, none⟩) 1 [x] := by
 refine ⟨rfl, by decide, fun _ => ⟨⟨b, 0, none⟩, rfl, fun j p hj => ?_⟩⟩
 match j, hj with
 | 0, hj =>
  have e : p = x := by simpa using hj.symm
  subst e
  refine ⟨[.int .i64 p], rfl, rfl, fun i u hu => ?_⟩
  rw [Addr.add_lit, blk_cell hb, ← hu]
  match i, hu with
  | 0, _ => rfl
  | i + 1, hu => simp at hu
 | j + 1, hj => simp at hj
theorem ints_one (A : Option Addr) (c : Nat) (x : Int) (b : Nat) (W : World) (hA : Kd.C (Kd.int .i64) W A 1 [x]) (hc : 1 ≤ c) (hb : W.heap[b]? = some (.cells #[.int .i64 x] 3 (0, 0))) :
  Calls Try.prog 12 #[.slice A 1 c, .slice (some ⟨b, 0, none⟩) 1 1] W fun e w' => e = .returned (.bool true) ∧ Drawn0 W w' :=
 davitref02_Ints.calls 3 A c [x] (some ⟨b, 0, none⟩) 1 [x] true W hA hc (one_C W b x hb) (Nat.le_refl _) (by
  unfold davitref02_Ints.f
  rw [if_pos rfl, davitref02_Ints.l0, if_pos (by simp), if_pos (by simp), if_pos (by simp), if_pos rfl, davitref02_Ints.l0, if_neg (by rw [show wrap64 (0 + 1) = 1 by unfold wrap64; decide]; simp)])
set_option maxHeartbeats 2000000 in
set_option maxRecDepth 100000 in
theorem davitlaw11_awake.calls (k : Nat) (r : Bool) (w : World) (h : davitlaw11_awake.f k = some r) :
  Calls Try.prog 6 #[] w fun e w' => e = .returned (.bool r) ∧ Below w.heap.size w w' := by
 unfold davitlaw11_awake.f at h
 obtain ⟨g, hg, h⟩ := Option.bind_eq_some_iff.1 h
 by_cases h1 : g = [[1], [0]]
 ·subst h1
  rw [if_pos rfl] at h
  by_cases h2 : calls_Of.f M1 0 = some [1]
  ·rw [if_pos h2] at h
   obtain rfl := Option.some.inj h
   have HG := Aside0.mk hg
   have HOF := Aside0.mk h2
   have hu33 := Try.underlying33
   have hu24 := Try.underlying24
   clear h hg h2
   go_enter Try.func6, Try.ntmps6
   go_wp2_with (first | (go_at_call 17; refine (davitlaw11_func1.calls 1 0 0 L1 _ rfl).mono ?_; rintro e w5 ⟨v2, rfl, ho, hb⟩; obtain ⟨A2, c2, rfl, hl2, hC2⟩ := Kd.N_reads ho; have HC2 := Aside0.mk hC2; have HL2 := Aside0.mk hl2; have HB := Aside0.mk hb; have BK1 := Aside0.mk (blk_new w5 (.cells #[.int .i64 0, .int .i64 0, .slice A2 L1.length c2] 33)); clear ho hb hl2 hC2; have HM := Aside0.mk (two_C ((w5.alloc (.cells #[.int .i64 0, .int .i64 0, .slice A2 L1.length c2] 33)).alloc (.cells #[.int .i64 0, .int .i64 0, .slice A2 L1.length c2, .int .i64 0, .int .i64 0, .slice none 0 0] 33)) (w5.heap.size + 1) A2 c2 HL2.out (Kd.C_alloc (Kd.C_alloc HC2.out _) _) (by rw [← alloc_sz w5 (.cells #[.int .i64 0, .int .i64 0, .slice A2 L1.length c2] 33)]; exact blk_new _ _))) | (go_at_call 8; refine (calls_Groups.calls k (some ⟨w5.heap.size + 1, 0, none⟩) 2 M1 [[1], [0]] _ HM.out (by decide) HG.out).mono ?_; rintro e w8 ⟨vg, rfl, ho, hb⟩; obtain ⟨gv, cg, rfl, _, _, _⟩ := Kd.S_form ho (by decide); have hCg := (Kd.S_reads' ho).2.2; obtain ⟨ad, A3, c3, e3, hx3, hl3, hC3⟩ := at_L5 hCg 0 (by decide) (by decide); obtain ⟨ad', A4, c4, e4, hx4, hl4, hC4⟩ := at_L5 hCg 1 (by decide) (by decide); cases e3; cases e4; have n0_ := Aside0.mk (below_step (below_alloc (below_alloc HB.out _) _) hb); have n1_ := Aside0.mk (blk_below (blk_alloc BK1.out _) hb); have n2_ := Aside0.mk (Kd.C_below (Kd.C_alloc (Kd.C_alloc HC2.out _) _) hb); clear HB BK1 HC2; have HB := n0_; have BK1 := n1_; have HC2 := n2_; clear n0_ n1_ n2_ hb ho; have H3 := Aside0.mk (show Kd.C (Kd.int .i64) w8 A3 1 [1] from hC3); have H4 := Aside0.mk (show Kd.C (Kd.int .i64) w8 A4 1 [0] from hC4); have HX4 := Aside0.mk (show w8.cell? ⟨gv, 1, none⟩ = some (.slice A4 1 c4) from hx4); have K3 := Aside0.mk (show 1 ≤ c3 from hl3); have K4 := Aside0.mk (show 1 ≤ c4 from hl4); clear hC3 hC4 hl3 hl4 hx4 hCg; change w8.cell? ⟨gv, 0, none⟩ = some (.slice A3 1 c3) at hx3) | (go_at_call 12; (with_reducible refine (ints_one A3 c3 1 w8.heap.size _ (Kd.C_alloc H3.out _) K3.out (blk_new w8 _)).mono ?_); rintro e w9 ⟨rfl, hb⟩; have n0_ := Aside0.mk (below_step (below_alloc HB.out _) hb.below); have n1_ := Aside0.mk (blk_below (blk_alloc BK1.out _) hb.below); have n2_ := Aside0.mk (Kd.C_below (Kd.C_alloc HC2.out _) hb.below); have n3_ := Aside0.mk (Kd.C_below (Kd.C_alloc H4.out _) hb.below); have hy4 : w9.cell? ⟨gv, 1, none⟩ = some (.slice A4 1 c4) := pw_cell_below (below_step (below_alloc (Below.refl w8.heap.size w8) _) hb.below) HX4.out; clear HB BK1 HC2 H4 hb; have HB := n0_; have BK1 := n1_; have HC2 := n2_; have H4 := n3_; clear n0_ n1_ n2_ n3_) | (go_at_call 12; (with_reducible refine (ints_one A4 c4 0 w9.heap.size _ (Kd.C_alloc H4.out _) K4.out (blk_new w9 _)).mono ?_); rintro e wa ⟨rfl, hb⟩; have n0_ := Aside0.mk (below_step (below_alloc HB.out _) hb.below); have n1_ := Aside0.mk (blk_below (blk_alloc BK1.out _) hb.below); have n2_ := Aside0.mk (Kd.C_below (Kd.C_alloc HC2.out _) hb.below); clear HB BK1 HC2 hb hy4; have HB := n0_; have BK1 := n1_; have HC2 := n2_; clear n0_ n1_ n2_; have hz0 := (blk_cell BK1.out 0).trans rfl; have hz1 := (blk_cell BK1.out 1).trans rfl; have hz2 := (blk_cell BK1.out 2).trans rfl; have HM2 := Aside0.mk (two_C (wa.alloc (.cells #[.int .i64 0, .int .i64 0, .slice A2 L1.length c2, .int .i64 0, .int .i64 0, .slice none 0 0] 33)) wa.heap.size A2 c2 HL2.out (Kd.C_alloc HC2.out _) (blk_new wa _))) | (go_at_call 11; refine (calls_Of.calls (some ⟨wa.heap.size, 0, none⟩) 2 M1 0 [1] _ HM2.out (by decide) HOF.out).mono ?_; rintro e wb ⟨vo, rfl, ho, hb⟩; obtain ⟨A6, c6, rfl, hl6, hC6⟩ := Kd.R_reads ho; have H6 := Aside0.mk (show Kd.C (Kd.int .i64) wb A6 1 [1] from hC6); have K6 := Aside0.mk (show 1 ≤ c6 from hl6); have n0_ := Aside0.mk (below_step (below_alloc HB.out _) hb); clear HB hb ho hl6 hC6 hz0 hz1 hz2; have HB := n0_; clear n0_) | (go_at_call 12; (with_reducible refine (ints_one A6 c6 1 wb.heap.size _ (Kd.C_alloc H6.out _) K6.out (blk_new wb _)).mono ?_); rintro e wc ⟨rfl, hb⟩; have n0_ := Aside0.mk (below_step (below_alloc HB.out _) hb.below); clear HB hb; have HB := n0_; clear n0_))
   go_ret
   exact ⟨rfl, HB.out⟩
  ·rw [if_neg h2] at h; cases h
 ·rw [if_neg h1] at h; cases h
end Go.Proofs.Ytjjcnbfmmhokeaa.X
